import Derived.Test.YtmbiiginpomjnaaInj
namespace Go.Proofs.Ytmbiiginpomjnaa
open Go Go.E
set_option linter.unusedVariables false
set_option linter.unusedSimpArgs false
set_option linter.unnecessarySimpa false
theorem clone_nil (W w : World) (G : Chunk) (F : List Chunk) (cap : Nat) (xs : List Ref) (hR : RdT encR 2 [G] none 0 cap xs) (hS : Sat W w (G :: F)) :
    Calls Try.prog 28 #[.slice none 0 cap] w fun e w' => ∃ (a' : Option Addr) (cap' : Nat) (c' : Chunk), e = .returned (.slice a' 0 cap') ∧ OwnT encR 33 2 a' 0 cap' xs c' ∧ Sat W w' (c' :: G :: F) := by
  have hl := hR.len
  obtain rfl := List.eq_nil_of_length_eq_zero hl
  refine callsE (n := 8) Try.func28 rfl rfl (Nat.le_of_ble_eq_true rfl) ?_
  refine seqE ?_
  refine regionE ?_
  refine p1 (by kernel_rfl) ?_
  refine nilO ?_
  refine thenK_n <| ?_
  refine seqE ?_
  refine seqE ?_
  refine regionE ?_
  refine p2 (by kernel_rfl) ?_
  refine nilO ?_
  refine thenK_n <| ?_
  refine condE_true (by kernel_rfl) ?_
  refine seqE ?_
  refine regionE ?_
  refine p1 (by kernel_rfl) ?_
  refine nilO ?_
  refine thenK_n <| ?_
  refine retE (thenK_r <| ?_)
  refine retN (vs := [.slice none 0 0]) rfl (.cons (.tmp _ _ (by kernel_rfl)) .nil) <| ?_
  exact ⟨_, _, [], rfl, OwnT.nil (fun _ => rfl), hS.nilc⟩
theorem clone_some (W w : World) (G : Chunk) (F : List Chunk) (q : Addr) (n cap : Nat) (xs : List Ref) (hR : RdT encR 2 [G] (some q) n cap xs) (hn : n ≤ 1000000000000) (hS : Sat W w (G :: F)) :
    Calls Try.prog 28 #[.slice (some q) n cap] w fun e w' => ∃ (a' : Option Addr) (cap' : Nat) (c' : Chunk), e = .returned (.slice a' n cap') ∧ OwnT encR 33 2 a' n cap' xs c' ∧ Sat W w' (c' :: G :: F) := by
  have hl := hR.len
  refine callsE (n := 8) Try.func28 rfl rfl (Nat.le_of_ble_eq_true rfl) ?_
  refine seqE ?_
  refine regionE ?_
  refine p1 (by kernel_rfl) ?_
  refine nilO ?_
  refine thenK_n <| ?_
  refine seqE ?_
  refine seqE ?_
  refine regionE ?_
  refine p2 (by kernel_rfl) ?_
  refine nilO ?_
  refine thenK_n <| ?_
  refine condE_false (by kernel_rfl) ?_
  refine skipE ?_
  refine thenK_n <| ?_
  refine seqE ?_
  refine regionE ?_
  refine sBS hS #[] Try.runUnderlying44 Try.sizeOf33 Try.zeroValue33 ?_
  intro b_1 w_2 hS_3
  refine p1 (by kernel_rfl) ?_
  have hO_4 := OwnT.blk (enc := encR) (sz := 2) (b := b_1) (c := #[]) (E := 33) (xs := []) (fun _ => rfl) 0 rfl rfl rfl (by omega)
  refine sApp (nb := 16) hS_3 hO_4 0 (hR.up 1 rfl) Try.underlying44 (i := Try.t33) rfl (fun _ => rfl) ?_
  intro a_5 cap_6 c_7 w_8 hO_9 hS_10
  change Sat _ _ (c_7 :: G :: F) at hS_10
  refine p1 (by kernel_rfl) ?_
  refine nilO ?_
  refine thenK_n <| ?_
  refine retE ?_
  refine retN (vs := [.slice a_5 (0 + n) cap_6]) rfl (.cons (.tmp _ _ (by kernel_rfl)) .nil) <| ?_
  have hS_11 := hS_10.pick 1 rfl
  have hS_12 := hS_11.pick 1 rfl
  change Sat _ _ (c_7 :: G :: F) at hS_12
  change Sat _ _ (c_7 :: G :: F) at hS_12
  have hO := hO_9; try simp only [List.nil_append, Nat.zero_add] at hO
  try simp only [packed, Nat.zero_add]
  exact ⟨_, _, _, rfl, hO, hS_12⟩
theorem clone_ok (W w : World) (G : Chunk) (F : List Chunk) (a : Option Addr) (n cap : Nat) (xs : List Ref) (hR : RdT encR 2 [G] a n cap xs) (hn : n ≤ 1000000000000) (hS : Sat W w (G :: F)) :
    Calls Try.prog 28 #[.slice a n cap] w fun e w' => ∃ (a' : Option Addr) (cap' : Nat) (c' : Chunk), e = .returned (.slice a' n cap') ∧ OwnT encR 33 2 a' n cap' xs c' ∧ Sat W w' (c' :: G :: F) := by
  cases a with
  | some q => exact clone_some W w G F q n cap xs hR hn hS
  | none =>
    have h0 : n = 0 := by
      rcases hR.2.2.2.2.2 with h | ⟨b, off, h, _⟩
      · exact h
      · cases h
    subst h0
    exact clone_nil W w G F cap xs hR hS
theorem inj_list0 (W w : World) (p : Nat) (S : Inj) (fp : Chunk) (F : List Chunk) (hI : InjR p S fp) (hS : Sat W w (fp :: F)) (hb : S.len ≤ 1000000000000) :
    Calls Try.prog 22 #[.pointer (some ⟨p, 0, none⟩), .int .i64 0] w fun e w' => ∃ (a' : Option Addr) (cap' : Nat) (c' : Chunk), e = .returned (.slice a' (S.q 0).length cap') ∧ OwnT encR 33 2 a' (S.q 0).length cap' (S.q 0) c' ∧ Sat W w' (c' :: fp :: F) := by
  obtain ⟨a0, n0, k0, c0, a1, n1, k1, c1, a2, n2, k2, c2, a3, n3, k3, c3, rfl, hO0, hO1, hO2, hO3⟩ := hI
  have hS0 : Sat W w ([(p, .cells #[.int .i64 S.cap, .slice a0 n0 k0, .slice a1 n1 k1, .slice a2 n2 k2, .slice a3 n3 k3] 49 (0, 0))] :: c0 :: c1 :: c2 :: c3 :: F) := hS.perm (by simp)
  have hl0 := hO0.len; have hk0 := hO0.le
  have hl1 := hO1.len; have hk1 := hO1.le
  have hl2 := hO2.len; have hk2 := hO2.le
  have hl3 := hO3.len; have hk3 := hO3.le
  unfold Inj.len at hb
  refine callsE (n := 22) Try.func22 rfl rfl (Nat.le_of_ble_eq_true rfl) ?_
  refine seqE ?_
  refine regionE ?_
  refine p1 (by kernel_rfl) ?_
  refine nilO ?_
  refine thenK_n <| ?_
  refine seqE ?_
  refine seqE ?_
  refine regionE ?_
  refine p10 (by kernel_rfl) ?_
  refine nilO ?_
  refine thenK_n <| ?_
  refine condE_false (by kernel_rfl) ?_
  refine skipE ?_
  refine thenK_n <| ?_
  refine seqE ?_
  refine regionE ?_
  refine p5 (by kernel_rfl) ?_
  refine sL hS0 0 1 (.slice a0 n0 k0) (Try.isAgg44 _) ?_
  have hS_7 := hS0.pick 1 rfl
  change Sat _ _ (c0 :: [(p, .cells #[.int .i64 S.cap, .slice a0 n0 k0, .slice a1 n1 k1, .slice a2 n2 k2, .slice a3 n3 k3] 49 (0, 0))] :: c1 :: c2 :: c3 :: F) at hS_7
  refine sF #[.slice a0 n0 k0] Try.call28 (Calls.mono (clone_ok W _ _ _ _ _ _ _ (hO0.rdAt (cs := [c0]) 0 rfl) (by omega) hS_7) ?_)
  rintro _ w_1 ⟨a_3, cap_4, c_5, rfl, hO_6, hS_2⟩
  refine ⟨_, rfl, ?_⟩
  change Sat _ _ (c_5 :: c0 :: [(p, .cells #[.int .i64 S.cap, .slice a0 n0 k0, .slice a1 n1 k1, .slice a2 n2 k2, .slice a3 n3 k3] 49 (0, 0))] :: c1 :: c2 :: c3 :: F) at hS_2
  refine p1 (by kernel_rfl) ?_
  refine nilO ?_
  refine thenK_n <| ?_
  refine retE ?_
  refine retN (vs := [.slice a_3 n0 cap_4]) rfl (.cons (.tmp _ _ (by kernel_rfl)) .nil) <| ?_
  have hS_8 := hS_2.pick 5 rfl
  have hS_9 := hS_8.pick 5 rfl
  have hS_10 := hS_9.pick 5 rfl
  have hS_11 := hS_10.pick 4 rfl
  have hS_12 := hS_11.pick 5 rfl
  have hS_13 := hS_12.pick 5 rfl
  change Sat _ _ (c_5 :: [(p, .cells #[.int .i64 S.cap, .slice a0 n0 k0, .slice a1 n1 k1, .slice a2 n2 k2, .slice a3 n3 k3] 49 (0, 0))] :: c0 :: c1 :: c2 :: c3 :: F) at hS_13
  have hfin : Sat W w_1 (c_5 :: ([(p, .cells #[.int .i64 S.cap, .slice a0 n0 k0, .slice a1 n1 k1, .slice a2 n2 k2, .slice a3 n3 k3] 49 (0, 0))] ++ (c0 ++ (c1 ++ (c2 ++ c3)))) :: F) := hS_13.perm (by simp)
  have hO := hO_6; try simp only [List.nil_append, Nat.zero_add] at hO
  have hq : S.q 0 = S.q0 := rfl
  rw [hq, hl0]
  try simp only [packed, Nat.zero_add]
  exact ⟨_, _, _, rfl, hO, hfin⟩
theorem inj_list1 (W w : World) (p : Nat) (S : Inj) (fp : Chunk) (F : List Chunk) (hI : InjR p S fp) (hS : Sat W w (fp :: F)) (hb : S.len ≤ 1000000000000) :
    Calls Try.prog 22 #[.pointer (some ⟨p, 0, none⟩), .int .i64 1] w fun e w' => ∃ (a' : Option Addr) (cap' : Nat) (c' : Chunk), e = .returned (.slice a' (S.q 1).length cap') ∧ OwnT encR 33 2 a' (S.q 1).length cap' (S.q 1) c' ∧ Sat W w' (c' :: fp :: F) := by
  obtain ⟨a0, n0, k0, c0, a1, n1, k1, c1, a2, n2, k2, c2, a3, n3, k3, c3, rfl, hO0, hO1, hO2, hO3⟩ := hI
  have hS0 : Sat W w ([(p, .cells #[.int .i64 S.cap, .slice a0 n0 k0, .slice a1 n1 k1, .slice a2 n2 k2, .slice a3 n3 k3] 49 (0, 0))] :: c0 :: c1 :: c2 :: c3 :: F) := hS.perm (by simp)
  have hl0 := hO0.len; have hk0 := hO0.le
  have hl1 := hO1.len; have hk1 := hO1.le
  have hl2 := hO2.len; have hk2 := hO2.le
  have hl3 := hO3.len; have hk3 := hO3.le
  unfold Inj.len at hb
  refine callsE (n := 22) Try.func22 rfl rfl (Nat.le_of_ble_eq_true rfl) ?_
  refine seqE ?_
  refine regionE ?_
  refine p1 (by kernel_rfl) ?_
  refine nilO ?_
  refine thenK_n <| ?_
  refine seqE ?_
  refine seqE ?_
  refine regionE ?_
  refine p10 (by kernel_rfl) ?_
  refine nilO ?_
  refine thenK_n <| ?_
  refine condE_false (by kernel_rfl) ?_
  refine skipE ?_
  refine thenK_n <| ?_
  refine seqE ?_
  refine regionE ?_
  refine p5 (by kernel_rfl) ?_
  refine sL hS0 0 2 (.slice a1 n1 k1) (Try.isAgg44 _) ?_
  have hS_7 := hS0.pick 2 rfl
  change Sat _ _ (c1 :: [(p, .cells #[.int .i64 S.cap, .slice a0 n0 k0, .slice a1 n1 k1, .slice a2 n2 k2, .slice a3 n3 k3] 49 (0, 0))] :: c0 :: c2 :: c3 :: F) at hS_7
  refine sF #[.slice a1 n1 k1] Try.call28 (Calls.mono (clone_ok W _ _ _ _ _ _ _ (hO1.rdAt (cs := [c1]) 0 rfl) (by omega) hS_7) ?_)
  rintro _ w_1 ⟨a_3, cap_4, c_5, rfl, hO_6, hS_2⟩
  refine ⟨_, rfl, ?_⟩
  change Sat _ _ (c_5 :: c1 :: [(p, .cells #[.int .i64 S.cap, .slice a0 n0 k0, .slice a1 n1 k1, .slice a2 n2 k2, .slice a3 n3 k3] 49 (0, 0))] :: c0 :: c2 :: c3 :: F) at hS_2
  refine p1 (by kernel_rfl) ?_
  refine nilO ?_
  refine thenK_n <| ?_
  refine retE ?_
  refine retN (vs := [.slice a_3 n1 cap_4]) rfl (.cons (.tmp _ _ (by kernel_rfl)) .nil) <| ?_
  have hS_8 := hS_2.pick 5 rfl
  have hS_9 := hS_8.pick 5 rfl
  have hS_10 := hS_9.pick 3 rfl
  have hS_11 := hS_10.pick 5 rfl
  have hS_12 := hS_11.pick 5 rfl
  have hS_13 := hS_12.pick 5 rfl
  change Sat _ _ (c_5 :: [(p, .cells #[.int .i64 S.cap, .slice a0 n0 k0, .slice a1 n1 k1, .slice a2 n2 k2, .slice a3 n3 k3] 49 (0, 0))] :: c0 :: c1 :: c2 :: c3 :: F) at hS_13
  have hfin : Sat W w_1 (c_5 :: ([(p, .cells #[.int .i64 S.cap, .slice a0 n0 k0, .slice a1 n1 k1, .slice a2 n2 k2, .slice a3 n3 k3] 49 (0, 0))] ++ (c0 ++ (c1 ++ (c2 ++ c3)))) :: F) := hS_13.perm (by simp)
  have hO := hO_6; try simp only [List.nil_append, Nat.zero_add] at hO
  have hq : S.q 1 = S.q1 := rfl
  rw [hq, hl1]
  try simp only [packed, Nat.zero_add]
  exact ⟨_, _, _, rfl, hO, hfin⟩
theorem inj_list2 (W w : World) (p : Nat) (S : Inj) (fp : Chunk) (F : List Chunk) (hI : InjR p S fp) (hS : Sat W w (fp :: F)) (hb : S.len ≤ 1000000000000) :
    Calls Try.prog 22 #[.pointer (some ⟨p, 0, none⟩), .int .i64 2] w fun e w' => ∃ (a' : Option Addr) (cap' : Nat) (c' : Chunk), e = .returned (.slice a' (S.q 2).length cap') ∧ OwnT encR 33 2 a' (S.q 2).length cap' (S.q 2) c' ∧ Sat W w' (c' :: fp :: F) := by
  obtain ⟨a0, n0, k0, c0, a1, n1, k1, c1, a2, n2, k2, c2, a3, n3, k3, c3, rfl, hO0, hO1, hO2, hO3⟩ := hI
  have hS0 : Sat W w ([(p, .cells #[.int .i64 S.cap, .slice a0 n0 k0, .slice a1 n1 k1, .slice a2 n2 k2, .slice a3 n3 k3] 49 (0, 0))] :: c0 :: c1 :: c2 :: c3 :: F) := hS.perm (by simp)
  have hl0 := hO0.len; have hk0 := hO0.le
  have hl1 := hO1.len; have hk1 := hO1.le
  have hl2 := hO2.len; have hk2 := hO2.le
  have hl3 := hO3.len; have hk3 := hO3.le
  unfold Inj.len at hb
  refine callsE (n := 22) Try.func22 rfl rfl (Nat.le_of_ble_eq_true rfl) ?_
  refine seqE ?_
  refine regionE ?_
  refine p1 (by kernel_rfl) ?_
  refine nilO ?_
  refine thenK_n <| ?_
  refine seqE ?_
  refine seqE ?_
  refine regionE ?_
  refine p10 (by kernel_rfl) ?_
  refine nilO ?_
  refine thenK_n <| ?_
  refine condE_false (by kernel_rfl) ?_
  refine skipE ?_
  refine thenK_n <| ?_
  refine seqE ?_
  refine regionE ?_
  refine p5 (by kernel_rfl) ?_
  refine sL hS0 0 3 (.slice a2 n2 k2) (Try.isAgg44 _) ?_
  have hS_7 := hS0.pick 3 rfl
  change Sat _ _ (c2 :: [(p, .cells #[.int .i64 S.cap, .slice a0 n0 k0, .slice a1 n1 k1, .slice a2 n2 k2, .slice a3 n3 k3] 49 (0, 0))] :: c0 :: c1 :: c3 :: F) at hS_7
  refine sF #[.slice a2 n2 k2] Try.call28 (Calls.mono (clone_ok W _ _ _ _ _ _ _ (hO2.rdAt (cs := [c2]) 0 rfl) (by omega) hS_7) ?_)
  rintro _ w_1 ⟨a_3, cap_4, c_5, rfl, hO_6, hS_2⟩
  refine ⟨_, rfl, ?_⟩
  change Sat _ _ (c_5 :: c2 :: [(p, .cells #[.int .i64 S.cap, .slice a0 n0 k0, .slice a1 n1 k1, .slice a2 n2 k2, .slice a3 n3 k3] 49 (0, 0))] :: c0 :: c1 :: c3 :: F) at hS_2
  refine p1 (by kernel_rfl) ?_
  refine nilO ?_
  refine thenK_n <| ?_
  refine retE ?_
  refine retN (vs := [.slice a_3 n2 cap_4]) rfl (.cons (.tmp _ _ (by kernel_rfl)) .nil) <| ?_
  have hS_8 := hS_2.pick 5 rfl
  have hS_9 := hS_8.pick 2 rfl
  have hS_10 := hS_9.pick 5 rfl
  have hS_11 := hS_10.pick 5 rfl
  have hS_12 := hS_11.pick 5 rfl
  have hS_13 := hS_12.pick 5 rfl
  change Sat _ _ (c_5 :: [(p, .cells #[.int .i64 S.cap, .slice a0 n0 k0, .slice a1 n1 k1, .slice a2 n2 k2, .slice a3 n3 k3] 49 (0, 0))] :: c0 :: c1 :: c2 :: c3 :: F) at hS_13
  have hfin : Sat W w_1 (c_5 :: ([(p, .cells #[.int .i64 S.cap, .slice a0 n0 k0, .slice a1 n1 k1, .slice a2 n2 k2, .slice a3 n3 k3] 49 (0, 0))] ++ (c0 ++ (c1 ++ (c2 ++ c3)))) :: F) := hS_13.perm (by simp)
  have hO := hO_6; try simp only [List.nil_append, Nat.zero_add] at hO
  have hq : S.q 2 = S.q2 := rfl
  rw [hq, hl2]
  try simp only [packed, Nat.zero_add]
  exact ⟨_, _, _, rfl, hO, hfin⟩
theorem inj_list3 (W w : World) (p : Nat) (S : Inj) (fp : Chunk) (F : List Chunk) (hI : InjR p S fp) (hS : Sat W w (fp :: F)) (hb : S.len ≤ 1000000000000) :
    Calls Try.prog 22 #[.pointer (some ⟨p, 0, none⟩), .int .i64 3] w fun e w' => ∃ (a' : Option Addr) (cap' : Nat) (c' : Chunk), e = .returned (.slice a' (S.q 3).length cap') ∧ OwnT encR 33 2 a' (S.q 3).length cap' (S.q 3) c' ∧ Sat W w' (c' :: fp :: F) := by
  obtain ⟨a0, n0, k0, c0, a1, n1, k1, c1, a2, n2, k2, c2, a3, n3, k3, c3, rfl, hO0, hO1, hO2, hO3⟩ := hI
  have hS0 : Sat W w ([(p, .cells #[.int .i64 S.cap, .slice a0 n0 k0, .slice a1 n1 k1, .slice a2 n2 k2, .slice a3 n3 k3] 49 (0, 0))] :: c0 :: c1 :: c2 :: c3 :: F) := hS.perm (by simp)
  have hl0 := hO0.len; have hk0 := hO0.le
  have hl1 := hO1.len; have hk1 := hO1.le
  have hl2 := hO2.len; have hk2 := hO2.le
  have hl3 := hO3.len; have hk3 := hO3.le
  unfold Inj.len at hb
  refine callsE (n := 22) Try.func22 rfl rfl (Nat.le_of_ble_eq_true rfl) ?_
  refine seqE ?_
  refine regionE ?_
  refine p1 (by kernel_rfl) ?_
  refine nilO ?_
  refine thenK_n <| ?_
  refine seqE ?_
  refine seqE ?_
  refine regionE ?_
  refine p10 (by kernel_rfl) ?_
  refine nilO ?_
  refine thenK_n <| ?_
  refine condE_false (by kernel_rfl) ?_
  refine skipE ?_
  refine thenK_n <| ?_
  refine seqE ?_
  refine regionE ?_
  refine p5 (by kernel_rfl) ?_
  refine sL hS0 0 4 (.slice a3 n3 k3) (Try.isAgg44 _) ?_
  have hS_7 := hS0.pick 4 rfl
  change Sat _ _ (c3 :: [(p, .cells #[.int .i64 S.cap, .slice a0 n0 k0, .slice a1 n1 k1, .slice a2 n2 k2, .slice a3 n3 k3] 49 (0, 0))] :: c0 :: c1 :: c2 :: F) at hS_7
  refine sF #[.slice a3 n3 k3] Try.call28 (Calls.mono (clone_ok W _ _ _ _ _ _ _ (hO3.rdAt (cs := [c3]) 0 rfl) (by omega) hS_7) ?_)
  rintro _ w_1 ⟨a_3, cap_4, c_5, rfl, hO_6, hS_2⟩
  refine ⟨_, rfl, ?_⟩
  change Sat _ _ (c_5 :: c3 :: [(p, .cells #[.int .i64 S.cap, .slice a0 n0 k0, .slice a1 n1 k1, .slice a2 n2 k2, .slice a3 n3 k3] 49 (0, 0))] :: c0 :: c1 :: c2 :: F) at hS_2
  refine p1 (by kernel_rfl) ?_
  refine nilO ?_
  refine thenK_n <| ?_
  refine retE ?_
  refine retN (vs := [.slice a_3 n3 cap_4]) rfl (.cons (.tmp _ _ (by kernel_rfl)) .nil) <| ?_
  have hS_8 := hS_2.pick 1 rfl
  have hS_9 := hS_8.pick 5 rfl
  have hS_10 := hS_9.pick 5 rfl
  have hS_11 := hS_10.pick 5 rfl
  have hS_12 := hS_11.pick 5 rfl
  have hS_13 := hS_12.pick 5 rfl
  change Sat _ _ (c_5 :: [(p, .cells #[.int .i64 S.cap, .slice a0 n0 k0, .slice a1 n1 k1, .slice a2 n2 k2, .slice a3 n3 k3] 49 (0, 0))] :: c0 :: c1 :: c2 :: c3 :: F) at hS_13
  have hfin : Sat W w_1 (c_5 :: ([(p, .cells #[.int .i64 S.cap, .slice a0 n0 k0, .slice a1 n1 k1, .slice a2 n2 k2, .slice a3 n3 k3] 49 (0, 0))] ++ (c0 ++ (c1 ++ (c2 ++ c3)))) :: F) := hS_13.perm (by simp)
  have hO := hO_6; try simp only [List.nil_append, Nat.zero_add] at hO
  have hq : S.q 3 = S.q3 := rfl
  rw [hq, hl3]
  try simp only [packed, Nat.zero_add]
  exact ⟨_, _, _, rfl, hO, hfin⟩
theorem inj_listb (W w : World) (p : Nat) (S : Inj) (fp : Chunk) (F : List Chunk) (hI : InjR p S fp) (hS : Sat W w (fp :: F)) (hb : S.len ≤ 1000000000000) (b : Int) (hb4 : b < 0 ∨ 4 ≤ b) :
    Calls Try.prog 22 #[.pointer (some ⟨p, 0, none⟩), .int .i64 b] w fun e w' => ∃ (a' : Option Addr) (cap' : Nat) (c' : Chunk), e = .returned (.slice a' (S.q b).length cap') ∧ OwnT encR 33 2 a' (S.q b).length cap' (S.q b) c' ∧ Sat W w' (c' :: fp :: F) := by
  obtain ⟨a0, n0, k0, c0, a1, n1, k1, c1, a2, n2, k2, c2, a3, n3, k3, c3, rfl, hO0, hO1, hO2, hO3⟩ := hI
  have hS0 : Sat W w ([(p, .cells #[.int .i64 S.cap, .slice a0 n0 k0, .slice a1 n1 k1, .slice a2 n2 k2, .slice a3 n3 k3] 49 (0, 0))] :: c0 :: c1 :: c2 :: c3 :: F) := hS.perm (by simp)
  have hl0 := hO0.len; have hk0 := hO0.le
  have hl1 := hO1.len; have hk1 := hO1.le
  have hl2 := hO2.len; have hk2 := hO2.le
  have hl3 := hO3.len; have hk3 := hO3.le
  unfold Inj.len at hb
  refine callsE (n := 22) Try.func22 rfl rfl (Nat.le_of_ble_eq_true rfl) ?_
  refine seqE ?_
  refine regionE ?_
  refine p1 (by kernel_rfl) ?_
  refine nilO ?_
  refine thenK_n <| ?_
  refine seqE ?_
  refine seqE ?_
  refine regionE ?_
  refine p7 (by kernel_rfl) ?_
  by_cases hc_1 : (b : Int) < 0
  · refine sFix 11 (decide ((b : Int) < 0)) true (decide_eq_true hc_1) ?_
    refine p3 (by kernel_rfl) ?_
    refine nilO ?_
    refine thenK_n <| ?_
    refine condE_true (by kernel_rfl) ?_
    refine seqE ?_
    refine regionE ?_
    refine p1 (by kernel_rfl) ?_
    refine nilO ?_
    refine thenK_n <| ?_
    refine retE (thenK_r <| ?_)
    refine retN (vs := [.slice none 0 0]) rfl (.cons (.tmp _ _ (by kernel_rfl)) .nil) <| ?_
    have hq : S.q b = [] := by unfold Inj.q; (repeat' split) <;> first | omega | rfl
    rw [hq]
    exact ⟨_, _, [], rfl, OwnT.nil (fun _ => rfl), (Sat.nilc (hS0.merge5))⟩
  · refine sFix 11 (decide ((b : Int) < 0)) false (decide_eq_false hc_1) ?_
    refine p3 (by kernel_rfl) ?_
    refine nilO ?_
    refine thenK_n <| ?_
    have hc_2 : (b : Int) ≥ 4 := by omega
    refine cT (decide ((b : Int) ≥ 4)) (decide_eq_true hc_2) ?_
    refine seqE ?_
    refine regionE ?_
    refine p1 (by kernel_rfl) ?_
    refine nilO ?_
    refine thenK_n <| ?_
    refine retE (thenK_r <| ?_)
    refine retN (vs := [.slice none 0 0]) rfl (.cons (.tmp _ _ (by kernel_rfl)) .nil) <| ?_
    have hq : S.q b = [] := by unfold Inj.q; (repeat' split) <;> first | omega | rfl
    rw [hq]
    exact ⟨_, _, [], rfl, OwnT.nil (fun _ => rfl), (Sat.nilc (hS0.merge5))⟩
theorem inj_list (W w : World) (p : Nat) (S : Inj) (fp : Chunk) (F : List Chunk) (hI : InjR p S fp) (hS : Sat W w (fp :: F)) (hb : S.len ≤ 1000000000000) (b : Int) : Calls Try.prog 22 #[.pointer (some ⟨p, 0, none⟩), .int .i64 b] w fun e w' => ∃ (a' : Option Addr) (cap' : Nat) (c' : Chunk), e = .returned (.slice a' (S.q b).length cap') ∧ OwnT encR 33 2 a' (S.q b).length cap' (S.q b) c' ∧ Sat W w' (c' :: fp :: F) := by
  by_cases h : b < 0 ∨ 4 ≤ b
  · exact inj_listb W w p S fp F hI hS hb b h
  · obtain rfl | rfl | rfl | rfl : b = 0 ∨ b = 1 ∨ b = 2 ∨ b = 3 := by omega
    · exact inj_list0 W w p S fp F hI hS hb
    · exact inj_list1 W w p S fp F hI hS hb
    · exact inj_list2 W w p S fp F hI hS hb
    · exact inj_list3 W w p S fp F hI hS hb
theorem rnj_list0 (W w : World) (p : Nat) (S : Inj) (fp : Chunk) (F : List Chunk) (hI : InjR2 p S fp) (hS : Sat W w (fp :: F)) (hb : S.len ≤ 1000000000000) :
    Calls Try.prog 23 #[.pointer (some ⟨p, 0, none⟩), .int .i64 0] w fun e w' => ∃ (a' : Option Addr) (cap' : Nat) (c' : Chunk), e = .returned (.slice a' (S.q 0).length cap') ∧ OwnT encR 33 2 a' (S.q 0).length cap' (S.q 0) c' ∧ Sat W w' (c' :: fp :: F) := by
  obtain ⟨a0, n0, k0, c0, a1, n1, k1, c1, a2, n2, k2, c2, a3, n3, k3, c3, rfl, hO0, hO1, hO2, hO3⟩ := hI
  have hS0 : Sat W w ([(p, .cells #[.int .i64 S.cap, .slice a0 n0 k0, .slice a1 n1 k1, .slice a2 n2 k2, .slice a3 n3 k3] 54 (0, 0))] :: c0 :: c1 :: c2 :: c3 :: F) := hS.perm (by simp)
  have hl0 := hO0.len; have hk0 := hO0.le
  have hl1 := hO1.len; have hk1 := hO1.le
  have hl2 := hO2.len; have hk2 := hO2.le
  have hl3 := hO3.len; have hk3 := hO3.le
  unfold Inj.len at hb
  refine callsE (n := 22) Try.func23 rfl rfl (Nat.le_of_ble_eq_true rfl) ?_
  refine seqE ?_
  refine regionE ?_
  refine p1 (by kernel_rfl) ?_
  refine nilO ?_
  refine thenK_n <| ?_
  refine seqE ?_
  refine seqE ?_
  refine regionE ?_
  refine p10 (by kernel_rfl) ?_
  refine nilO ?_
  refine thenK_n <| ?_
  refine condE_false (by kernel_rfl) ?_
  refine skipE ?_
  refine thenK_n <| ?_
  refine seqE ?_
  refine regionE ?_
  refine p5 (by kernel_rfl) ?_
  refine sL hS0 0 1 (.slice a0 n0 k0) (Try.isAgg44 _) ?_
  have hS_1 := Sat.nilc hS0
  have hO_2 := OwnT.nil (enc := encR) (E := 33) (sz := 2) (fun _ => rfl)
  refine sApp (nb := 16) hS_1 hO_2 0 (hO0.rdAt 2 rfl) Try.underlying44 (i := Try.t33) rfl (fun _ => rfl) ?_
  intro a_3 cap_4 c_5 w_6 hO_7 hS_8
  change Sat _ _ (c_5 :: [(p, .cells #[.int .i64 S.cap, .slice a0 n0 k0, .slice a1 n1 k1, .slice a2 n2 k2, .slice a3 n3 k3] 54 (0, 0))] :: c0 :: c1 :: c2 :: c3 :: F) at hS_8
  refine p1 (by kernel_rfl) ?_
  refine nilO ?_
  refine thenK_n <| ?_
  refine retE ?_
  refine retN (vs := [.slice a_3 (0 + n0) cap_4]) rfl (.cons (.tmp _ _ (by kernel_rfl)) .nil) <| ?_
  have hS_9 := hS_8.pick 5 rfl
  have hS_10 := hS_9.pick 5 rfl
  have hS_11 := hS_10.pick 5 rfl
  have hS_12 := hS_11.pick 5 rfl
  have hS_13 := hS_12.pick 5 rfl
  have hS_14 := hS_13.pick 5 rfl
  change Sat _ _ (c_5 :: [(p, .cells #[.int .i64 S.cap, .slice a0 n0 k0, .slice a1 n1 k1, .slice a2 n2 k2, .slice a3 n3 k3] 54 (0, 0))] :: c0 :: c1 :: c2 :: c3 :: F) at hS_14
  have hfin : Sat W w_6 (c_5 :: ([(p, .cells #[.int .i64 S.cap, .slice a0 n0 k0, .slice a1 n1 k1, .slice a2 n2 k2, .slice a3 n3 k3] 54 (0, 0))] ++ (c0 ++ (c1 ++ (c2 ++ c3)))) :: F) := hS_14.perm (by simp)
  have hO := hO_7; try simp only [List.nil_append, Nat.zero_add] at hO
  have hq : S.q 0 = S.q0 := rfl
  rw [hq, hl0]
  try simp only [packed, Nat.zero_add]
  exact ⟨_, _, _, rfl, hO, hfin⟩
theorem rnj_list1 (W w : World) (p : Nat) (S : Inj) (fp : Chunk) (F : List Chunk) (hI : InjR2 p S fp) (hS : Sat W w (fp :: F)) (hb : S.len ≤ 1000000000000) :
    Calls Try.prog 23 #[.pointer (some ⟨p, 0, none⟩), .int .i64 1] w fun e w' => ∃ (a' : Option Addr) (cap' : Nat) (c' : Chunk), e = .returned (.slice a' (S.q 1).length cap') ∧ OwnT encR 33 2 a' (S.q 1).length cap' (S.q 1) c' ∧ Sat W w' (c' :: fp :: F) := by
  obtain ⟨a0, n0, k0, c0, a1, n1, k1, c1, a2, n2, k2, c2, a3, n3, k3, c3, rfl, hO0, hO1, hO2, hO3⟩ := hI
  have hS0 : Sat W w ([(p, .cells #[.int .i64 S.cap, .slice a0 n0 k0, .slice a1 n1 k1, .slice a2 n2 k2, .slice a3 n3 k3] 54 (0, 0))] :: c0 :: c1 :: c2 :: c3 :: F) := hS.perm (by simp)
  have hl0 := hO0.len; have hk0 := hO0.le
  have hl1 := hO1.len; have hk1 := hO1.le
  have hl2 := hO2.len; have hk2 := hO2.le
  have hl3 := hO3.len; have hk3 := hO3.le
  unfold Inj.len at hb
  refine callsE (n := 22) Try.func23 rfl rfl (Nat.le_of_ble_eq_true rfl) ?_
  refine seqE ?_
  refine regionE ?_
  refine p1 (by kernel_rfl) ?_
  refine nilO ?_
  refine thenK_n <| ?_
  refine seqE ?_
  refine seqE ?_
  refine regionE ?_
  refine p10 (by kernel_rfl) ?_
  refine nilO ?_
  refine thenK_n <| ?_
  refine condE_false (by kernel_rfl) ?_
  refine skipE ?_
  refine thenK_n <| ?_
  refine seqE ?_
  refine regionE ?_
  refine p5 (by kernel_rfl) ?_
  refine sL hS0 0 2 (.slice a1 n1 k1) (Try.isAgg44 _) ?_
  have hS_1 := Sat.nilc hS0
  have hO_2 := OwnT.nil (enc := encR) (E := 33) (sz := 2) (fun _ => rfl)
  refine sApp (nb := 16) hS_1 hO_2 0 (hO1.rdAt 3 rfl) Try.underlying44 (i := Try.t33) rfl (fun _ => rfl) ?_
  intro a_3 cap_4 c_5 w_6 hO_7 hS_8
  change Sat _ _ (c_5 :: [(p, .cells #[.int .i64 S.cap, .slice a0 n0 k0, .slice a1 n1 k1, .slice a2 n2 k2, .slice a3 n3 k3] 54 (0, 0))] :: c0 :: c1 :: c2 :: c3 :: F) at hS_8
  refine p1 (by kernel_rfl) ?_
  refine nilO ?_
  refine thenK_n <| ?_
  refine retE ?_
  refine retN (vs := [.slice a_3 (0 + n1) cap_4]) rfl (.cons (.tmp _ _ (by kernel_rfl)) .nil) <| ?_
  have hS_9 := hS_8.pick 5 rfl
  have hS_10 := hS_9.pick 5 rfl
  have hS_11 := hS_10.pick 5 rfl
  have hS_12 := hS_11.pick 5 rfl
  have hS_13 := hS_12.pick 5 rfl
  have hS_14 := hS_13.pick 5 rfl
  change Sat _ _ (c_5 :: [(p, .cells #[.int .i64 S.cap, .slice a0 n0 k0, .slice a1 n1 k1, .slice a2 n2 k2, .slice a3 n3 k3] 54 (0, 0))] :: c0 :: c1 :: c2 :: c3 :: F) at hS_14
  have hfin : Sat W w_6 (c_5 :: ([(p, .cells #[.int .i64 S.cap, .slice a0 n0 k0, .slice a1 n1 k1, .slice a2 n2 k2, .slice a3 n3 k3] 54 (0, 0))] ++ (c0 ++ (c1 ++ (c2 ++ c3)))) :: F) := hS_14.perm (by simp)
  have hO := hO_7; try simp only [List.nil_append, Nat.zero_add] at hO
  have hq : S.q 1 = S.q1 := rfl
  rw [hq, hl1]
  try simp only [packed, Nat.zero_add]
  exact ⟨_, _, _, rfl, hO, hfin⟩
theorem rnj_list2 (W w : World) (p : Nat) (S : Inj) (fp : Chunk) (F : List Chunk) (hI : InjR2 p S fp) (hS : Sat W w (fp :: F)) (hb : S.len ≤ 1000000000000) :
    Calls Try.prog 23 #[.pointer (some ⟨p, 0, none⟩), .int .i64 2] w fun e w' => ∃ (a' : Option Addr) (cap' : Nat) (c' : Chunk), e = .returned (.slice a' (S.q 2).length cap') ∧ OwnT encR 33 2 a' (S.q 2).length cap' (S.q 2) c' ∧ Sat W w' (c' :: fp :: F) := by
  obtain ⟨a0, n0, k0, c0, a1, n1, k1, c1, a2, n2, k2, c2, a3, n3, k3, c3, rfl, hO0, hO1, hO2, hO3⟩ := hI
  have hS0 : Sat W w ([(p, .cells #[.int .i64 S.cap, .slice a0 n0 k0, .slice a1 n1 k1, .slice a2 n2 k2, .slice a3 n3 k3] 54 (0, 0))] :: c0 :: c1 :: c2 :: c3 :: F) := hS.perm (by simp)
  have hl0 := hO0.len; have hk0 := hO0.le
  have hl1 := hO1.len; have hk1 := hO1.le
  have hl2 := hO2.len; have hk2 := hO2.le
  have hl3 := hO3.len; have hk3 := hO3.le
  unfold Inj.len at hb
  refine callsE (n := 22) Try.func23 rfl rfl (Nat.le_of_ble_eq_true rfl) ?_
  refine seqE ?_
  refine regionE ?_
  refine p1 (by kernel_rfl) ?_
  refine nilO ?_
  refine thenK_n <| ?_
  refine seqE ?_
  refine seqE ?_
  refine regionE ?_
  refine p10 (by kernel_rfl) ?_
  refine nilO ?_
  refine thenK_n <| ?_
  refine condE_false (by kernel_rfl) ?_
  refine skipE ?_
  refine thenK_n <| ?_
  refine seqE ?_
  refine regionE ?_
  refine p5 (by kernel_rfl) ?_
  refine sL hS0 0 3 (.slice a2 n2 k2) (Try.isAgg44 _) ?_
  have hS_1 := Sat.nilc hS0
  have hO_2 := OwnT.nil (enc := encR) (E := 33) (sz := 2) (fun _ => rfl)
  refine sApp (nb := 16) hS_1 hO_2 0 (hO2.rdAt 4 rfl) Try.underlying44 (i := Try.t33) rfl (fun _ => rfl) ?_
  intro a_3 cap_4 c_5 w_6 hO_7 hS_8
  change Sat _ _ (c_5 :: [(p, .cells #[.int .i64 S.cap, .slice a0 n0 k0, .slice a1 n1 k1, .slice a2 n2 k2, .slice a3 n3 k3] 54 (0, 0))] :: c0 :: c1 :: c2 :: c3 :: F) at hS_8
  refine p1 (by kernel_rfl) ?_
  refine nilO ?_
  refine thenK_n <| ?_
  refine retE ?_
  refine retN (vs := [.slice a_3 (0 + n2) cap_4]) rfl (.cons (.tmp _ _ (by kernel_rfl)) .nil) <| ?_
  have hS_9 := hS_8.pick 5 rfl
  have hS_10 := hS_9.pick 5 rfl
  have hS_11 := hS_10.pick 5 rfl
  have hS_12 := hS_11.pick 5 rfl
  have hS_13 := hS_12.pick 5 rfl
  have hS_14 := hS_13.pick 5 rfl
  change Sat _ _ (c_5 :: [(p, .cells #[.int .i64 S.cap, .slice a0 n0 k0, .slice a1 n1 k1, .slice a2 n2 k2, .slice a3 n3 k3] 54 (0, 0))] :: c0 :: c1 :: c2 :: c3 :: F) at hS_14
  have hfin : Sat W w_6 (c_5 :: ([(p, .cells #[.int .i64 S.cap, .slice a0 n0 k0, .slice a1 n1 k1, .slice a2 n2 k2, .slice a3 n3 k3] 54 (0, 0))] ++ (c0 ++ (c1 ++ (c2 ++ c3)))) :: F) := hS_14.perm (by simp)
  have hO := hO_7; try simp only [List.nil_append, Nat.zero_add] at hO
  have hq : S.q 2 = S.q2 := rfl
  rw [hq, hl2]
  try simp only [packed, Nat.zero_add]
  exact ⟨_, _, _, rfl, hO, hfin⟩
theorem rnj_list3 (W w : World) (p : Nat) (S : Inj) (fp : Chunk) (F : List Chunk) (hI : InjR2 p S fp) (hS : Sat W w (fp :: F)) (hb : S.len ≤ 1000000000000) :
    Calls Try.prog 23 #[.pointer (some ⟨p, 0, none⟩), .int .i64 3] w fun e w' => ∃ (a' : Option Addr) (cap' : Nat) (c' : Chunk), e = .returned (.slice a' (S.q 3).length cap') ∧ OwnT encR 33 2 a' (S.q 3).length cap' (S.q 3) c' ∧ Sat W w' (c' :: fp :: F) := by
  obtain ⟨a0, n0, k0, c0, a1, n1, k1, c1, a2, n2, k2, c2, a3, n3, k3, c3, rfl, hO0, hO1, hO2, hO3⟩ := hI
  have hS0 : Sat W w ([(p, .cells #[.int .i64 S.cap, .slice a0 n0 k0, .slice a1 n1 k1, .slice a2 n2 k2, .slice a3 n3 k3] 54 (0, 0))] :: c0 :: c1 :: c2 :: c3 :: F) := hS.perm (by simp)
  have hl0 := hO0.len; have hk0 := hO0.le
  have hl1 := hO1.len; have hk1 := hO1.le
  have hl2 := hO2.len; have hk2 := hO2.le
  have hl3 := hO3.len; have hk3 := hO3.le
  unfold Inj.len at hb
  refine callsE (n := 22) Try.func23 rfl rfl (Nat.le_of_ble_eq_true rfl) ?_
  refine seqE ?_
  refine regionE ?_
  refine p1 (by kernel_rfl) ?_
  refine nilO ?_
  refine thenK_n <| ?_
  refine seqE ?_
  refine seqE ?_
  refine regionE ?_
  refine p10 (by kernel_rfl) ?_
  refine nilO ?_
  refine thenK_n <| ?_
  refine condE_false (by kernel_rfl) ?_
  refine skipE ?_
  refine thenK_n <| ?_
  refine seqE ?_
  refine regionE ?_
  refine p5 (by kernel_rfl) ?_
  refine sL hS0 0 4 (.slice a3 n3 k3) (Try.isAgg44 _) ?_
  have hS_1 := Sat.nilc hS0
  have hO_2 := OwnT.nil (enc := encR) (E := 33) (sz := 2) (fun _ => rfl)
  refine sApp (nb := 16) hS_1 hO_2 0 (hO3.rdAt 5 rfl) Try.underlying44 (i := Try.t33) rfl (fun _ => rfl) ?_
  intro a_3 cap_4 c_5 w_6 hO_7 hS_8
  change Sat _ _ (c_5 :: [(p, .cells #[.int .i64 S.cap, .slice a0 n0 k0, .slice a1 n1 k1, .slice a2 n2 k2, .slice a3 n3 k3] 54 (0, 0))] :: c0 :: c1 :: c2 :: c3 :: F) at hS_8
  refine p1 (by kernel_rfl) ?_
  refine nilO ?_
  refine thenK_n <| ?_
  refine retE ?_
  refine retN (vs := [.slice a_3 (0 + n3) cap_4]) rfl (.cons (.tmp _ _ (by kernel_rfl)) .nil) <| ?_
  have hS_9 := hS_8.pick 5 rfl
  have hS_10 := hS_9.pick 5 rfl
  have hS_11 := hS_10.pick 5 rfl
  have hS_12 := hS_11.pick 5 rfl
  have hS_13 := hS_12.pick 5 rfl
  have hS_14 := hS_13.pick 5 rfl
  change Sat _ _ (c_5 :: [(p, .cells #[.int .i64 S.cap, .slice a0 n0 k0, .slice a1 n1 k1, .slice a2 n2 k2, .slice a3 n3 k3] 54 (0, 0))] :: c0 :: c1 :: c2 :: c3 :: F) at hS_14
  have hfin : Sat W w_6 (c_5 :: ([(p, .cells #[.int .i64 S.cap, .slice a0 n0 k0, .slice a1 n1 k1, .slice a2 n2 k2, .slice a3 n3 k3] 54 (0, 0))] ++ (c0 ++ (c1 ++ (c2 ++ c3)))) :: F) := hS_14.perm (by simp)
  have hO := hO_7; try simp only [List.nil_append, Nat.zero_add] at hO
  have hq : S.q 3 = S.q3 := rfl
  rw [hq, hl3]
  try simp only [packed, Nat.zero_add]
  exact ⟨_, _, _, rfl, hO, hfin⟩
theorem rnj_listb (W w : World) (p : Nat) (S : Inj) (fp : Chunk) (F : List Chunk) (hI : InjR2 p S fp) (hS : Sat W w (fp :: F)) (hb : S.len ≤ 1000000000000) (b : Int) (hb4 : b < 0 ∨ 4 ≤ b) :
    Calls Try.prog 23 #[.pointer (some ⟨p, 0, none⟩), .int .i64 b] w fun e w' => ∃ (a' : Option Addr) (cap' : Nat) (c' : Chunk), e = .returned (.slice a' (S.q b).length cap') ∧ OwnT encR 33 2 a' (S.q b).length cap' (S.q b) c' ∧ Sat W w' (c' :: fp :: F) := by
  obtain ⟨a0, n0, k0, c0, a1, n1, k1, c1, a2, n2, k2, c2, a3, n3, k3, c3, rfl, hO0, hO1, hO2, hO3⟩ := hI
  have hS0 : Sat W w ([(p, .cells #[.int .i64 S.cap, .slice a0 n0 k0, .slice a1 n1 k1, .slice a2 n2 k2, .slice a3 n3 k3] 54 (0, 0))] :: c0 :: c1 :: c2 :: c3 :: F) := hS.perm (by simp)
  have hl0 := hO0.len; have hk0 := hO0.le
  have hl1 := hO1.len; have hk1 := hO1.le
  have hl2 := hO2.len; have hk2 := hO2.le
  have hl3 := hO3.len; have hk3 := hO3.le
  unfold Inj.len at hb
  refine callsE (n := 22) Try.func23 rfl rfl (Nat.le_of_ble_eq_true rfl) ?_
  refine seqE ?_
  refine regionE ?_
  refine p1 (by kernel_rfl) ?_
  refine nilO ?_
  refine thenK_n <| ?_
  refine seqE ?_
  refine seqE ?_
  refine regionE ?_
  refine p7 (by kernel_rfl) ?_
  by_cases hc_1 : (b : Int) < 0
  · refine sFix 11 (decide ((b : Int) < 0)) true (decide_eq_true hc_1) ?_
    refine p3 (by kernel_rfl) ?_
    refine nilO ?_
    refine thenK_n <| ?_
    refine condE_true (by kernel_rfl) ?_
    refine seqE ?_
    refine regionE ?_
    refine p1 (by kernel_rfl) ?_
    refine nilO ?_
    refine thenK_n <| ?_
    refine retE (thenK_r <| ?_)
    refine retN (vs := [.slice none 0 0]) rfl (.cons (.tmp _ _ (by kernel_rfl)) .nil) <| ?_
    have hq : S.q b = [] := by unfold Inj.q; (repeat' split) <;> first | omega | rfl
    rw [hq]
    exact ⟨_, _, [], rfl, OwnT.nil (fun _ => rfl), (Sat.nilc (hS0.merge5))⟩
  · refine sFix 11 (decide ((b : Int) < 0)) false (decide_eq_false hc_1) ?_
    refine p3 (by kernel_rfl) ?_
    refine nilO ?_
    refine thenK_n <| ?_
    have hc_2 : (b : Int) ≥ 4 := by omega
    refine cT (decide ((b : Int) ≥ 4)) (decide_eq_true hc_2) ?_
    refine seqE ?_
    refine regionE ?_
    refine p1 (by kernel_rfl) ?_
    refine nilO ?_
    refine thenK_n <| ?_
    refine retE (thenK_r <| ?_)
    refine retN (vs := [.slice none 0 0]) rfl (.cons (.tmp _ _ (by kernel_rfl)) .nil) <| ?_
    have hq : S.q b = [] := by unfold Inj.q; (repeat' split) <;> first | omega | rfl
    rw [hq]
    exact ⟨_, _, [], rfl, OwnT.nil (fun _ => rfl), (Sat.nilc (hS0.merge5))⟩
theorem rnj_list (W w : World) (p : Nat) (S : Inj) (fp : Chunk) (F : List Chunk) (hI : InjR2 p S fp) (hS : Sat W w (fp :: F)) (hb : S.len ≤ 1000000000000) (b : Int) : Calls Try.prog 23 #[.pointer (some ⟨p, 0, none⟩), .int .i64 b] w fun e w' => ∃ (a' : Option Addr) (cap' : Nat) (c' : Chunk), e = .returned (.slice a' (S.q b).length cap') ∧ OwnT encR 33 2 a' (S.q b).length cap' (S.q b) c' ∧ Sat W w' (c' :: fp :: F) := by
  by_cases h : b < 0 ∨ 4 ≤ b
  · exact rnj_listb W w p S fp F hI hS hb b h
  · obtain rfl | rfl | rfl | rfl : b = 0 ∨ b = 1 ∨ b = 2 ∨ b = 3 := by omega
    · exact rnj_list0 W w p S fp F hI hS hb
    · exact rnj_list1 W w p S fp F hI hS hb
    · exact rnj_list2 W w p S fp F hI hS hb
    · exact rnj_list3 W w p S fp F hI hS hb
end Go.Proofs.Ytmbiiginpomjnaa
