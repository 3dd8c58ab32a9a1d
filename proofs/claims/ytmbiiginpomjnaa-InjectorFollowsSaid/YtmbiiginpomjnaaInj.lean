import Derived.Test.YtmbiiginpomjnaaWalk
import Derived.Test.YtmbiiginpomjnaaProg
namespace Go.Proofs.Ytmbiiginpomjnaa
open Go Go.E
set_option linter.unusedVariables false
set_option linter.unusedSimpArgs false
set_option linter.unnecessarySimpa false

structure Ref where
  job : Int
  task : Int
  deriving DecidableEq
def encR (r : Ref) : List Value := [.int .i64 r.job, .int .i64 r.task]
structure Inj where
  cap : Int
  q0 : List Ref
  q1 : List Ref
  q2 : List Ref
  q3 : List Ref
namespace Inj
def len (S : Inj) : Nat := S.q0.length + (S.q1.length + (S.q2.length + S.q3.length))
def q (S : Inj) (b : Int) : List Ref := if b = 0 then S.q0 else if b = 1 then S.q1 else if b = 2 then S.q2 else if b = 3 then S.q3 else []
def setq (S : Inj) (b : Int) (l : List Ref) : Inj := if b = 0 then { S with q0 := l } else if b = 1 then { S with q1 := l } else if b = 2 then { S with q2 := l } else if b = 3 then { S with q3 := l } else S
def pushCode (S : Inj) (b : Int) : Int := if S.cap = 0 then 20 else if b < 0 ∨ 4 ≤ b then 2 else if S.cap ≤ S.len then 19 else 0
def push (S : Inj) (r : Ref) (b : Int) : Inj := if S.pushCode b = 0 then S.setq b (S.q b ++ [r]) else S
def pop (S : Inj) : Inj × Ref × Bool :=
  match S.q0 with
  | r :: t => ({ S with q0 := t }, r, true)
  | [] => match S.q1 with
    | r :: t => ({ S with q1 := t }, r, true)
    | [] => match S.q2 with
      | r :: t => ({ S with q2 := t }, r, true)
      | [] => match S.q3 with
        | r :: t => ({ S with q3 := t }, r, true)
        | [] => (S, ⟨0, 0⟩, false)
theorem nil_of {l : List Ref} {n : Nat} (h : l.length = n) (h0 : ¬ ((n : Int) > 0)) : l = [] := List.eq_nil_of_length_eq_zero (by omega)
theorem cons_of {l : List Ref} {x : Ref} (h : l[0]? = some x) : l = x :: l.drop 1 := by cases l with | nil => simp at h | cons a t => simp at h; simp [h]
theorem pop0 {S : Inj} {x : Ref} (h : S.q0[0]? = some x) : S.pop = ({ S with q0 := S.q0.drop 1 }, x, true) := by have e := cons_of h; unfold pop; rw [e]; rfl
theorem pop1 {S : Inj} {x : Ref} (h0 : S.q0 = []) (h : S.q1[0]? = some x) : S.pop = ({ S with q1 := S.q1.drop 1 }, x, true) := by have e := cons_of h; unfold pop; rw [h0, e]; rfl
theorem pop2 {S : Inj} {x : Ref} (h0 : S.q0 = []) (h1 : S.q1 = []) (h : S.q2[0]? = some x) : S.pop = ({ S with q2 := S.q2.drop 1 }, x, true) := by have e := cons_of h; unfold pop; rw [h0, h1, e]; rfl
theorem pop3 {S : Inj} {x : Ref} (h0 : S.q0 = []) (h1 : S.q1 = []) (h2 : S.q2 = []) (h : S.q3[0]? = some x) : S.pop = ({ S with q3 := S.q3.drop 1 }, x, true) := by have e := cons_of h; unfold pop; rw [h0, h1, h2, e]; rfl
theorem popn {S : Inj} (h0 : S.q0 = []) (h1 : S.q1 = []) (h2 : S.q2 = []) (h3 : S.q3 = []) : S.pop = (S, ⟨0, 0⟩, false) := by unfold pop; rw [h0, h1, h2, h3]
end Inj
theorem tail_part (l : List Ref) {n : Nat} (h : l.length = n) : (l.drop 1).take (n - 1) = l.drop 1 := List.take_of_length_le (by simp; omega)

def InjR (p : Nat) (S : Inj) (fp : Chunk) : Prop := ∃ (a0 : Option Addr) (n0 k0 : Nat) (c0 : Chunk) (a1 : Option Addr) (n1 k1 : Nat) (c1 : Chunk) (a2 : Option Addr) (n2 k2 : Nat) (c2 : Chunk) (a3 : Option Addr) (n3 k3 : Nat) (c3 : Chunk),
  fp = [(p, Obj.cells #[.int .i64 S.cap, .slice a0 n0 k0, .slice a1 n1 k1, .slice a2 n2 k2, .slice a3 n3 k3] 49 (0, 0))] ++ (c0 ++ (c1 ++ (c2 ++ c3))) ∧
  OwnT encR 33 2 a0 n0 k0 S.q0 c0 ∧ OwnT encR 33 2 a1 n1 k1 S.q1 c1 ∧ OwnT encR 33 2 a2 n2 k2 S.q2 c2 ∧ OwnT encR 33 2 a3 n3 k3 S.q3 c3

def InjR2 (p : Nat) (S : Inj) (fp : Chunk) : Prop := ∃ (a0 : Option Addr) (n0 k0 : Nat) (c0 : Chunk) (a1 : Option Addr) (n1 k1 : Nat) (c1 : Chunk) (a2 : Option Addr) (n2 k2 : Nat) (c2 : Chunk) (a3 : Option Addr) (n3 k3 : Nat) (c3 : Chunk),
  fp = [(p, Obj.cells #[.int .i64 S.cap, .slice a0 n0 k0, .slice a1 n1 k1, .slice a2 n2 k2, .slice a3 n3 k3] 54 (0, 0))] ++ (c0 ++ (c1 ++ (c2 ++ c3))) ∧
  OwnT encR 33 2 a0 n0 k0 S.q0 c0 ∧ OwnT encR 33 2 a1 n1 k1 S.q1 c1 ∧ OwnT encR 33 2 a2 n2 k2 S.q2 c2 ∧ OwnT encR 33 2 a3 n3 k3 S.q3 c3
theorem inj_len (W w : World) (p : Nat) (S : Inj) (fp : Chunk) (F : List Chunk) (hI : InjR p S fp) (hS : Sat W w (fp :: F)) (hb : S.len ≤ 1000000000000) :
    Calls Try.prog 12 #[.pointer (some ⟨p, 0, none⟩)] w fun e w' => e = .returned (.int .i64 ((S.len : Nat) : Int)) ∧ w' = w := by
  obtain ⟨a0, n0, k0, c0, a1, n1, k1, c1, a2, n2, k2, c2, a3, n3, k3, c3, rfl, hO0, hO1, hO2, hO3⟩ := hI
  have hS0 : Sat W w ([(p, .cells #[.int .i64 S.cap, .slice a0 n0 k0, .slice a1 n1 k1, .slice a2 n2 k2, .slice a3 n3 k3] 49 (0, 0))] :: c0 :: c1 :: c2 :: c3 :: F) := hS.perm (by simp)
  have hl0 := hO0.len; have hk0 := hO0.le
  have hl1 := hO1.len; have hk1 := hO1.le
  have hl2 := hO2.len; have hk2 := hO2.le
  have hl3 := hO3.len; have hk3 := hO3.le
  unfold Inj.len at hb
  refine callsE (n := 21) Try.func12 rfl rfl (Nat.le_of_ble_eq_true rfl) ?_
  refine seqE ?_
  refine regionE ?_
  refine p1 (by kernel_rfl) ?_
  refine nilO ?_
  refine thenK_n <| ?_
  refine seqE ?_
  refine seqE ?_
  refine regionE ?_
  refine p2 (by kernel_rfl) ?_
  refine nilO ?_
  refine thenK_n <| ?_
  refine condE_false (by kernel_rfl) ?_
  refine skipE ?_
  refine thenK_n <| ?_
  refine seqE ?_
  refine regionE ?_
  refine p1 (by kernel_rfl) ?_
  refine nilO ?_
  refine thenK_n <| ?_
  refine seqE ?_
  refine seqE ?_
  refine regionE ?_
  refine p3 (by kernel_rfl) ?_
  refine sLA hS0 0 1 [.slice a0 n0 k0, .slice a1 n1 k1, .slice a2 n2 k2, .slice a3 n3 k3] (Try.isAgg47 _) (Try.sizeOf47 _) ?_
  refine p1 (by kernel_rfl) ?_
  refine nilO ?_
  refine thenK_n <| ?_
  refine blockE ?_
  refine loopN 5 ?_
  refine roundS ?_
  refine seqE ?_
  refine regionE ?_
  refine p1 (by kernel_rfl) ?_
  refine nilO ?_
  refine thenK_n <| ?_
  refine seqE ?_
  refine condE_true (by kernel_rfl) ?_
  refine skipE ?_
  refine thenK_n <| ?_
  refine seqE ?_
  refine blockE ?_
  refine seqE ?_
  refine regionE ?_
  refine p2 (by kernel_rfl) ?_
  refine nilO ?_
  refine thenK_n <| ?_
  refine regionE ?_
  refine p3 (by kernel_rfl) ?_
  refine sAdd 0 ((n0 : Nat) : Int) ?_
  refine p1 (by kernel_rfl) ?_
  refine nilO ?_
  refine blockK_n <| thenK_n <| ?_
  refine regionE ?_
  refine p2 (by kernel_rfl) ?_
  refine nilO ?_
  refine thenK_n <| ?_
  refine roundS ?_
  refine seqE ?_
  refine regionE ?_
  refine p1 (by kernel_rfl) ?_
  refine nilO ?_
  refine thenK_n <| ?_
  refine seqE ?_
  refine condE_true (by kernel_rfl) ?_
  refine skipE ?_
  refine thenK_n <| ?_
  refine seqE ?_
  refine blockE ?_
  refine seqE ?_
  refine regionE ?_
  refine p2 (by kernel_rfl) ?_
  refine nilO ?_
  refine thenK_n <| ?_
  refine regionE ?_
  refine p3 (by kernel_rfl) ?_
  refine sAdd (0 + ((n0 : Nat) : Int)) ((n1 : Nat) : Int) ?_
  refine p1 (by kernel_rfl) ?_
  refine nilO ?_
  refine blockK_n <| thenK_n <| ?_
  refine regionE ?_
  refine p2 (by kernel_rfl) ?_
  refine nilO ?_
  refine thenK_n <| ?_
  refine roundS ?_
  refine seqE ?_
  refine regionE ?_
  refine p1 (by kernel_rfl) ?_
  refine nilO ?_
  refine thenK_n <| ?_
  refine seqE ?_
  refine condE_true (by kernel_rfl) ?_
  refine skipE ?_
  refine thenK_n <| ?_
  refine seqE ?_
  refine blockE ?_
  refine seqE ?_
  refine regionE ?_
  refine p2 (by kernel_rfl) ?_
  refine nilO ?_
  refine thenK_n <| ?_
  refine regionE ?_
  refine p3 (by kernel_rfl) ?_
  refine sAdd ((0 + ((n0 : Nat) : Int)) + ((n1 : Nat) : Int)) ((n2 : Nat) : Int) ?_
  refine p1 (by kernel_rfl) ?_
  refine nilO ?_
  refine blockK_n <| thenK_n <| ?_
  refine regionE ?_
  refine p2 (by kernel_rfl) ?_
  refine nilO ?_
  refine thenK_n <| ?_
  refine roundS ?_
  refine seqE ?_
  refine regionE ?_
  refine p1 (by kernel_rfl) ?_
  refine nilO ?_
  refine thenK_n <| ?_
  refine seqE ?_
  refine condE_true (by kernel_rfl) ?_
  refine skipE ?_
  refine thenK_n <| ?_
  refine seqE ?_
  refine blockE ?_
  refine seqE ?_
  refine regionE ?_
  refine p2 (by kernel_rfl) ?_
  refine nilO ?_
  refine thenK_n <| ?_
  refine regionE ?_
  refine p3 (by kernel_rfl) ?_
  refine sAdd (((0 + ((n0 : Nat) : Int)) + ((n1 : Nat) : Int)) + ((n2 : Nat) : Int)) ((n3 : Nat) : Int) ?_
  refine p1 (by kernel_rfl) ?_
  refine nilO ?_
  refine blockK_n <| thenK_n <| ?_
  refine regionE ?_
  refine p2 (by kernel_rfl) ?_
  refine nilO ?_
  refine thenK_n <| ?_
  refine roundS ?_
  refine seqE ?_
  refine regionE ?_
  refine p1 (by kernel_rfl) ?_
  refine nilO ?_
  refine thenK_n <| ?_
  refine seqE ?_
  refine condE_false (by kernel_rfl) ?_
  refine exitE (thenK_x <| thenK_x <| blockK_x <| ?_)
  refine thenK_n <| ?_
  refine seqE ?_
  refine regionE ?_
  refine p2 (by kernel_rfl) ?_
  refine nilO ?_
  refine thenK_n <| ?_
  refine retE ?_
  refine retN (vs := [.int .i64 ((((0 + ((n0 : Nat) : Int)) + ((n1 : Nat) : Int)) + ((n2 : Nat) : Int)) + ((n3 : Nat) : Int))]) rfl (.cons (.tmp _ _ (by kernel_rfl)) .nil) <| ?_
  exact ⟨by simp only [packed]; congr 2; simp only [Inj.len]; omega, rfl⟩
theorem inj_len_nil (w : World) :
    Calls Try.prog 12 #[.pointer none] w fun e w' => e = .returned (.int .i64 0) ∧ w' = w := by
  refine callsE (n := 21) Try.func12 rfl rfl (Nat.le_of_ble_eq_true rfl) ?_
  refine seqE ?_
  refine regionE ?_
  refine p1 (by kernel_rfl) ?_
  refine nilO ?_
  refine thenK_n <| ?_
  refine seqE ?_
  refine seqE ?_
  refine regionE ?_
  refine p2 (by kernel_rfl) ?_
  refine nilO ?_
  refine thenK_n <| ?_
  refine condE_true (by kernel_rfl) ?_
  refine seqE ?_
  refine regionE ?_
  refine p1 (by kernel_rfl) ?_
  refine nilO ?_
  refine thenK_n <| ?_
  refine retE (thenK_r <| ?_)
  refine retN (vs := [.int .i64 0]) rfl (.cons (.tmp _ _ (by kernel_rfl)) .nil) <| ?_
  exact ⟨rfl, rfl⟩
theorem inj_new (W w : World) (cs : List Chunk) (cap : Int) (hc : 1 ≤ cap ∧ cap ≤ 4096) (hS : Sat W w cs) :
    Calls Try.prog 7 #[.int .i64 cap] w fun e w' => ∃ p : Nat, e = .returned (.tuple #[.pointer (some ⟨p, 0, none⟩), .int .i64 0]) ∧ ∃ fp : Chunk, InjR p ⟨cap, [], [], [], []⟩ fp ∧ Sat W w' (fp :: cs) := by
  refine callsE (n := 13) Try.func7 rfl rfl (Nat.le_of_ble_eq_true rfl) ?_
  refine seqE ?_
  refine regionE ?_
  refine p2 (by kernel_rfl) ?_
  refine nilO ?_
  refine thenK_n <| ?_
  refine seqE ?_
  refine seqE ?_
  refine regionE ?_
  refine p3 (by kernel_rfl) ?_
  have hc_1 : ¬ ((cap : Int) < 1) := by omega
  refine sFix 6 (decide ((cap : Int) < 1)) false (decide_eq_false hc_1) ?_
  refine p3 (by kernel_rfl) ?_
  refine nilO ?_
  refine thenK_n <| ?_
  have hc_2 : ¬ ((cap : Int) > 4096) := by omega
  refine cF (decide ((cap : Int) > 4096)) (decide_eq_false hc_2) ?_
  refine skipE ?_
  refine thenK_n <| ?_
  refine seqE ?_
  refine regionE ?_
  refine p2 (by kernel_rfl) ?_
  refine sBox hS (.agg #[.int .i64 cap, .slice none 0 0, .slice none 0 0, .slice none 0 0, .slice none 0 0]) #[.int .i64 cap, .slice none 0 0, .slice none 0 0, .slice none 0 0, .slice none 0 0] ?_
  intro b_3 w_4 hS_5
  refine p2 (by kernel_rfl) ?_
  refine nilO ?_
  refine thenK_n <| ?_
  refine retE ?_
  refine retN (vs := [.pointer (some ⟨b_3, 0, none⟩), .int .i64 0]) rfl (.cons (.tmp _ _ (by kernel_rfl)) (.cons (.tmp _ _ (by kernel_rfl)) .nil)) <| ?_
  exact ⟨_, rfl, _, ⟨_, _, _, [], _, _, _, [], _, _, _, [], _, _, _, [], rfl, OwnT.nil (fun _ => rfl), OwnT.nil (fun _ => rfl), OwnT.nil (fun _ => rfl), OwnT.nil (fun _ => rfl)⟩, hS_5⟩
theorem inj_new_bad (W w : World) (cs : List Chunk) (cap : Int) (hc : ¬ (1 ≤ cap ∧ cap ≤ 4096)) (hS : Sat W w cs) :
    Calls Try.prog 7 #[.int .i64 cap] w fun e w' => e = .returned (.tuple #[.pointer none, .int .i64 2]) ∧ Sat W w' cs := by
  refine callsE (n := 13) Try.func7 rfl rfl (Nat.le_of_ble_eq_true rfl) ?_
  refine seqE ?_
  refine regionE ?_
  refine p2 (by kernel_rfl) ?_
  refine nilO ?_
  refine thenK_n <| ?_
  refine seqE ?_
  refine seqE ?_
  refine regionE ?_
  refine p3 (by kernel_rfl) ?_
  by_cases hc_1 : (cap : Int) < 1
  · refine sFix 6 (decide ((cap : Int) < 1)) true (decide_eq_true hc_1) ?_
    refine p3 (by kernel_rfl) ?_
    refine nilO ?_
    refine thenK_n <| ?_
    refine condE_true (by kernel_rfl) ?_
    refine seqE ?_
    refine regionE ?_
    refine p2 (by kernel_rfl) ?_
    refine nilO ?_
    refine thenK_n <| ?_
    refine retE (thenK_r <| ?_)
    refine retN (vs := [.pointer none, .int .i64 2]) rfl (.cons (.tmp _ _ (by kernel_rfl)) (.cons (.tmp _ _ (by kernel_rfl)) .nil)) <| ?_
    exact ⟨rfl, hS⟩
  · refine sFix 6 (decide ((cap : Int) < 1)) false (decide_eq_false hc_1) ?_
    refine p3 (by kernel_rfl) ?_
    refine nilO ?_
    refine thenK_n <| ?_
    by_cases hc_2 : (cap : Int) > 4096
    · refine cT (decide ((cap : Int) > 4096)) (decide_eq_true hc_2) ?_
      refine seqE ?_
      refine regionE ?_
      refine p2 (by kernel_rfl) ?_
      refine nilO ?_
      refine thenK_n <| ?_
      refine retE (thenK_r <| ?_)
      refine retN (vs := [.pointer none, .int .i64 2]) rfl (.cons (.tmp _ _ (by kernel_rfl)) (.cons (.tmp _ _ (by kernel_rfl)) .nil)) <| ?_
      exact ⟨rfl, hS⟩
    · refine cF (decide ((cap : Int) > 4096)) (decide_eq_false hc_2) ?_
      refine skipE ?_
      refine thenK_n <| ?_
      refine seqE ?_
      refine regionE ?_
      refine p2 (by kernel_rfl) ?_
      refine sBox hS (.agg #[.int .i64 cap, .slice none 0 0, .slice none 0 0, .slice none 0 0, .slice none 0 0]) #[.int .i64 cap, .slice none 0 0, .slice none 0 0, .slice none 0 0, .slice none 0 0] ?_
      intro b_3 w_4 hS_5
      refine p2 (by kernel_rfl) ?_
      refine nilO ?_
      refine thenK_n <| ?_
      refine retE ?_
      refine retN (vs := [.pointer (some ⟨b_3, 0, none⟩), .int .i64 0]) rfl (.cons (.tmp _ _ (by kernel_rfl)) (.cons (.tmp _ _ (by kernel_rfl)) .nil)) <| ?_
      exact absurd trivial (by omega)
theorem inj_push0 (W w : World) (p : Nat) (S : Inj) (fp : Chunk) (F : List Chunk) (hI : InjR p S fp) (hS : Sat W w (fp :: F)) (hb : S.len ≤ 1000000000000) (r : Ref) :
    Calls Try.prog 10 #[.pointer (some ⟨p, 0, none⟩), .agg #[.int .i64 r.job, .int .i64 r.task], .int .i64 0] w fun e w' => e = .returned (.int .i64 (S.pushCode 0)) ∧ ∃ fp' : Chunk, InjR p (S.push r 0) fp' ∧ Sat W w' (fp' :: F) := by
  obtain ⟨a0, n0, k0, c0, a1, n1, k1, c1, a2, n2, k2, c2, a3, n3, k3, c3, rfl, hO0, hO1, hO2, hO3⟩ := hI
  have hS0 : Sat W w ([(p, .cells #[.int .i64 S.cap, .slice a0 n0 k0, .slice a1 n1 k1, .slice a2 n2 k2, .slice a3 n3 k3] 49 (0, 0))] :: c0 :: c1 :: c2 :: c3 :: F) := hS.perm (by simp)
  have hl0 := hO0.len; have hk0 := hO0.le
  have hl1 := hO1.len; have hk1 := hO1.le
  have hl2 := hO2.len; have hk2 := hO2.le
  have hl3 := hO3.len; have hk3 := hO3.le
  unfold Inj.len at hb
  refine callsE (n := 43) Try.func10 rfl rfl (Nat.le_of_ble_eq_true rfl) ?_
  refine seqE ?_
  refine regionE ?_
  refine sBox hS0 (.agg #[.int .i64 r.job, .int .i64 r.task]) #[.int .i64 r.job, .int .i64 r.task] ?_
  intro b_1 w_2 hS_3
  refine p1 (by kernel_rfl) ?_
  refine nilO ?_
  refine thenK_n <| ?_
  refine seqE ?_
  refine seqE ?_
  refine regionE ?_
  refine p6 (by kernel_rfl) ?_
  refine guardYes rfl ⟨_, rfl, rfl, by kernel_rfl⟩ ?_
  refine sL hS_3 1 0 (.int .i64 S.cap) (Try.isAgg3 _) ?_
  refine p2 (by kernel_rfl) ?_
  refine nilO ?_
  refine thenK_n <| ?_
  by_cases hc_4 : (S.cap : Int) = 0
  · refine cT ((S.cap : Int) == 0) (beq_iff_eq.2 hc_4) ?_
    refine seqE ?_
    refine regionE ?_
    refine p1 (by kernel_rfl) ?_
    refine nilO ?_
    refine thenK_n <| ?_
    refine retE (thenK_r <| ?_)
    refine retN (vs := [.int .i64 20]) rfl (.cons (.tmp _ _ (by kernel_rfl)) .nil) <| ?_
    have hp : S.pushCode 0 = 20 := by unfold Inj.pushCode; (repeat' split) <;> omega
    have hS_5 := hS_3.pick 5 rfl
    have hS_6 := hS_5.pick 5 rfl
    have hS_7 := hS_6.pick 5 rfl
    have hS_8 := hS_7.pick 5 rfl
    have hS_9 := hS_8.pick 5 rfl
    change Sat _ _ ([(p, .cells #[.int .i64 S.cap, .slice a0 n0 k0, .slice a1 n1 k1, .slice a2 n2 k2, .slice a3 n3 k3] 49 (0, 0))] :: c0 :: c1 :: c2 :: c3 :: [(b_1, .cells #[.int .i64 r.job, .int .i64 r.task] 33 (0, 0))] :: F) at hS_9
    have hS_10 := hS_9.dropAt 5 rfl
    change Sat _ _ ([(p, .cells #[.int .i64 S.cap, .slice a0 n0 k0, .slice a1 n1 k1, .slice a2 n2 k2, .slice a3 n3 k3] 49 (0, 0))] :: c0 :: c1 :: c2 :: c3 :: F) at hS_10
    have hS_11 := hS_10.merge5
    refine ⟨by simp only [packed, hp], _, ?_, hS_11⟩
    rw [show S.push r 0 = S from by simp [Inj.push, hp]]
    exact ⟨_, _, _, _, _, _, _, _, _, _, _, _, _, _, _, _, rfl, hO0, hO1, hO2, hO3⟩
  · refine cF ((S.cap : Int) == 0) (beq_eq_false_iff_ne.2 hc_4) ?_
    refine skipE ?_
    refine thenK_n <| ?_
    refine seqE ?_
    refine seqE ?_
    refine regionE ?_
    refine p6 (by kernel_rfl) ?_
    refine nilO ?_
    refine thenK_n <| ?_
    refine condE_false (by kernel_rfl) ?_
    refine skipE ?_
    refine thenK_n <| ?_
    refine seqE ?_
    refine seqE ?_
    refine drawE [1] [(5, ⟨p, 0, none⟩, .int .i64 S.cap)] [(true, [0, 2, 3, 4]), (true, [5]), (false, [1]), (true, [6])] rfl (by kernel_rfl) ⟨.inr (hS_3.cell 1 rfl rfl), trivial⟩ ?_
    have hS_12 := hS_3.drew
    refine wP [0, 2, 3, 4] rfl (by kernel_rfl) ?_
    refine wS (.int .i64 S.cap) rfl rfl rfl (fun w hF => Y_load rfl (Try.isAgg3 w) (by kernel_rfl) (hF 0 _ _ rfl)) ?_
    refine wO rfl ?_
    have hS_13 := hS_12.pick 5 rfl
    have hS_14 := hS_13.pick 5 rfl
    have hS_15 := hS_14.pick 5 rfl
    have hS_16 := hS_15.pick 5 rfl
    have hS_17 := hS_16.pick 5 rfl
    change Sat _ _ ([(p, .cells #[.int .i64 S.cap, .slice a0 n0 k0, .slice a1 n1 k1, .slice a2 n2 k2, .slice a3 n3 k3] 49 (0, 0))] :: c0 :: c1 :: c2 :: c3 :: [(b_1, .cells #[.int .i64 r.job, .int .i64 r.task] 33 (0, 0))] :: F) at hS_17
    have hS_18 := hS_17.merge5
    refine sF #[.pointer (some ⟨p, 0, none⟩)] Try.call12 (Calls.mono (inj_len W _ _ S _ _ ⟨_, _, _, _, _, _, _, _, _, _, _, _, _, _, _, _, rfl, hO0, hO1, hO2, hO3⟩ hS_18 (by unfold Inj.len; omega)) ?_)
    rintro _ _ ⟨rfl, rfl⟩
    refine ⟨_, rfl, ?_⟩
    have hlen : S.len = S.q0.length + (S.q1.length + (S.q2.length + S.q3.length)) := rfl
    refine nilO ⟨⟨.inr (hS_17.cell 0 rfl rfl), trivial⟩, ?_⟩
    refine wP [6] rfl (by kernel_rfl) ?_
    refine wN ?_
    refine thenK_n <| ?_
    by_cases hc_19 : (((S.len : Nat) : Int) : Int) ≥ S.cap
    · refine cT (decide ((((S.len : Nat) : Int) : Int) ≥ S.cap)) (decide_eq_true hc_19) ?_
      refine seqE ?_
      refine regionE ?_
      refine p1 (by kernel_rfl) ?_
      refine nilO ?_
      refine thenK_n <| ?_
      refine retE (thenK_r <| ?_)
      refine retN (vs := [.int .i64 19]) rfl (.cons (.tmp _ _ (by kernel_rfl)) .nil) <| ?_
      have hp : S.pushCode 0 = 19 := by unfold Inj.pushCode; (repeat' split) <;> omega
      have hS_20 := hS_17.pick 4 rfl
      have hS_21 := hS_20.pick 4 rfl
      have hS_22 := hS_21.pick 4 rfl
      have hS_23 := hS_22.pick 4 rfl
      have hS_24 := hS_23.pick 4 rfl
      change Sat _ _ ([(p, .cells #[.int .i64 S.cap, .slice a0 n0 k0, .slice a1 n1 k1, .slice a2 n2 k2, .slice a3 n3 k3] 49 (0, 0))] :: c0 :: c1 :: c2 :: c3 :: [(b_1, .cells #[.int .i64 r.job, .int .i64 r.task] 33 (0, 0))] :: F) at hS_24
      have hS_25 := hS_24.dropAt 5 rfl
      change Sat _ _ ([(p, .cells #[.int .i64 S.cap, .slice a0 n0 k0, .slice a1 n1 k1, .slice a2 n2 k2, .slice a3 n3 k3] 49 (0, 0))] :: c0 :: c1 :: c2 :: c3 :: F) at hS_25
      have hS_26 := hS_25.merge5
      refine ⟨by simp only [packed, hp], _, ?_, hS_26⟩
      rw [show S.push r 0 = S from by simp [Inj.push, hp]]
      exact ⟨_, _, _, _, _, _, _, _, _, _, _, _, _, _, _, _, rfl, hO0, hO1, hO2, hO3⟩
    · refine cF (decide ((((S.len : Nat) : Int) : Int) ≥ S.cap)) (decide_eq_false hc_19) ?_
      refine skipE ?_
      refine thenK_n <| ?_
      refine seqE ?_
      refine drawE [9, 10, 14] [(7, ⟨p, 1, none⟩, .slice a0 n0 k0), (8, ⟨b_1, 0, none⟩, .int .i64 r.job), (8, ⟨b_1, 1, none⟩, .int .i64 r.task)] [(true, [0, 1, 2, 3, 4, 5, 6, 11, 12]), (true, [7]), (true, [8]), (false, [9]), (false, [10]), (true, [13]), (false, [14])] rfl (by kernel_rfl) ⟨.inr (hS_17.cell 0 rfl rfl), .inr (hS_17.cell 5 rfl rfl), .inr (hS_17.cell 5 rfl rfl), trivial⟩ ?_
      have hS_27 := hS_17.drew
      refine wP [0, 1, 2, 3, 4, 5, 6, 11, 12] rfl (by kernel_rfl) ?_
      refine wS (.slice a0 n0 k0) rfl rfl rfl (fun w hF => Y_load rfl (Try.isAgg44 w) (by kernel_rfl) (hF 0 _ _ rfl)) ?_
      refine wS (.agg #[.int .i64 r.job, .int .i64 r.task]) rfl rfl rfl (fun w hF => Y_loadF rfl (Try.isAgg33 w) (Try.sizeOf33 w) (by kernel_rfl) rfl ⟨hF 1 _ _ rfl, hF 2 _ _ rfl, trivial⟩) ?_
      refine wO rfl ?_
      refine sBS hS_27 #[.int .i64 r.job, .int .i64 r.task] Try.runUnderlying44 Try.sizeOf33 Try.zeroValue33 ?_
      intro b_28 w_29 hS_30
      refine nilO ⟨⟨.inr (hS_30.cell 1 rfl rfl), .inl (by kernel_rfl), .inl (by kernel_rfl), trivial⟩, ?_⟩
      refine wO rfl ?_
      refine sApp (nb := 16) hS_30 hO0 2 (RdT.blk (enc := encR) (sz := 2) (xs := [⟨r.job, r.task⟩]) (fun _ => rfl) 1 0 rfl rfl rfl (by omega)) Try.underlying44 (i := Try.t33) rfl (fun _ => rfl) ?_
      intro a_31 cap_32 c_33 w_34 hO_35 hS_36
      change Sat _ _ ([(b_28, .cells #[.int .i64 r.job, .int .i64 r.task] 33 (0, 0))] :: [(p, .cells #[.int .i64 S.cap, .slice a0 n0 k0, .slice a1 n1 k1, .slice a2 n2 k2, .slice a3 n3 k3] 49 (0, 0))] :: c_33 :: c1 :: c2 :: c3 :: [(b_1, .cells #[.int .i64 r.job, .int .i64 r.task] 33 (0, 0))] :: F) at hS_36
      refine nilO ⟨⟨.inl (by kernel_rfl), .inl (by kernel_rfl), .inl (by kernel_rfl), trivial⟩, ?_⟩
      refine wP [13] rfl (by kernel_rfl) ?_
      refine wO rfl ?_
      refine sT hS_36 1 1 (.slice a_31 (n0 + 1) cap_32) [.slice a_31 (n0 + 1) cap_32] #[.int .i64 S.cap, .slice a_31 (n0 + 1) cap_32, .slice a1 n1 k1, .slice a2 n2 k2, .slice a3 n3 k3] Try.sizeOf44 ?_
      intro w_37 hS_38
      change Sat _ _ ([(b_28, .cells #[.int .i64 r.job, .int .i64 r.task] 33 (0, 0))] :: [(p, .cells #[.int .i64 S.cap, .slice a_31 (n0 + 1) cap_32, .slice a1 n1 k1, .slice a2 n2 k2, .slice a3 n3 k3] 49 (0, 0))] :: c_33 :: c1 :: c2 :: c3 :: [(b_1, .cells #[.int .i64 r.job, .int .i64 r.task] 33 (0, 0))] :: F) at hS_38
      refine nilO ⟨⟨.inl (by kernel_rfl), .inl (by kernel_rfl), .inl (by kernel_rfl), trivial⟩, ?_⟩
      refine wN ?_
      refine thenK_n <| ?_
      refine seqE ?_
      refine regionE ?_
      refine p1 (by kernel_rfl) ?_
      refine nilO ?_
      refine thenK_n <| ?_
      refine retE ?_
      refine retN (vs := [.int .i64 0]) rfl (.cons (.tmp _ _ (by kernel_rfl)) .nil) <| ?_
      have hp : S.pushCode 0 = 0 := by unfold Inj.pushCode; (repeat' split) <;> omega
      have hS_39 := hS_38.pick 5 rfl
      have hS_40 := hS_39.pick 5 rfl
      have hS_41 := hS_40.pick 5 rfl
      have hS_42 := hS_41.pick 5 rfl
      have hS_43 := hS_42.pick 5 rfl
      change Sat _ _ ([(p, .cells #[.int .i64 S.cap, .slice a_31 (n0 + 1) cap_32, .slice a1 n1 k1, .slice a2 n2 k2, .slice a3 n3 k3] 49 (0, 0))] :: c_33 :: c1 :: c2 :: c3 :: [(b_28, .cells #[.int .i64 r.job, .int .i64 r.task] 33 (0, 0))] :: [(b_1, .cells #[.int .i64 r.job, .int .i64 r.task] 33 (0, 0))] :: F) at hS_43
      have hS_44 := hS_43.dropAt 5 rfl
      have hS_45 := hS_44.dropAt 5 rfl
      change Sat _ _ ([(p, .cells #[.int .i64 S.cap, .slice a_31 (n0 + 1) cap_32, .slice a1 n1 k1, .slice a2 n2 k2, .slice a3 n3 k3] 49 (0, 0))] :: c_33 :: c1 :: c2 :: c3 :: F) at hS_45
      have hS_46 := hS_45.merge5
      refine ⟨by simp only [packed, hp], _, ?_, hS_46⟩
      rw [show S.push r 0 = { S with q0 := S.q0 ++ [r] } from by simp [Inj.push, hp, Inj.setq, Inj.q]]
      exact ⟨_, _, _, _, _, _, _, _, _, _, _, _, _, _, _, _, rfl, hO_35, hO1, hO2, hO3⟩
theorem inj_push1 (W w : World) (p : Nat) (S : Inj) (fp : Chunk) (F : List Chunk) (hI : InjR p S fp) (hS : Sat W w (fp :: F)) (hb : S.len ≤ 1000000000000) (r : Ref) :
    Calls Try.prog 10 #[.pointer (some ⟨p, 0, none⟩), .agg #[.int .i64 r.job, .int .i64 r.task], .int .i64 1] w fun e w' => e = .returned (.int .i64 (S.pushCode 1)) ∧ ∃ fp' : Chunk, InjR p (S.push r 1) fp' ∧ Sat W w' (fp' :: F) := by
  obtain ⟨a0, n0, k0, c0, a1, n1, k1, c1, a2, n2, k2, c2, a3, n3, k3, c3, rfl, hO0, hO1, hO2, hO3⟩ := hI
  have hS0 : Sat W w ([(p, .cells #[.int .i64 S.cap, .slice a0 n0 k0, .slice a1 n1 k1, .slice a2 n2 k2, .slice a3 n3 k3] 49 (0, 0))] :: c0 :: c1 :: c2 :: c3 :: F) := hS.perm (by simp)
  have hl0 := hO0.len; have hk0 := hO0.le
  have hl1 := hO1.len; have hk1 := hO1.le
  have hl2 := hO2.len; have hk2 := hO2.le
  have hl3 := hO3.len; have hk3 := hO3.le
  unfold Inj.len at hb
  refine callsE (n := 43) Try.func10 rfl rfl (Nat.le_of_ble_eq_true rfl) ?_
  refine seqE ?_
  refine regionE ?_
  refine sBox hS0 (.agg #[.int .i64 r.job, .int .i64 r.task]) #[.int .i64 r.job, .int .i64 r.task] ?_
  intro b_1 w_2 hS_3
  refine p1 (by kernel_rfl) ?_
  refine nilO ?_
  refine thenK_n <| ?_
  refine seqE ?_
  refine seqE ?_
  refine regionE ?_
  refine p6 (by kernel_rfl) ?_
  refine guardYes rfl ⟨_, rfl, rfl, by kernel_rfl⟩ ?_
  refine sL hS_3 1 0 (.int .i64 S.cap) (Try.isAgg3 _) ?_
  refine p2 (by kernel_rfl) ?_
  refine nilO ?_
  refine thenK_n <| ?_
  by_cases hc_4 : (S.cap : Int) = 0
  · refine cT ((S.cap : Int) == 0) (beq_iff_eq.2 hc_4) ?_
    refine seqE ?_
    refine regionE ?_
    refine p1 (by kernel_rfl) ?_
    refine nilO ?_
    refine thenK_n <| ?_
    refine retE (thenK_r <| ?_)
    refine retN (vs := [.int .i64 20]) rfl (.cons (.tmp _ _ (by kernel_rfl)) .nil) <| ?_
    have hp : S.pushCode 1 = 20 := by unfold Inj.pushCode; (repeat' split) <;> omega
    have hS_5 := hS_3.pick 5 rfl
    have hS_6 := hS_5.pick 5 rfl
    have hS_7 := hS_6.pick 5 rfl
    have hS_8 := hS_7.pick 5 rfl
    have hS_9 := hS_8.pick 5 rfl
    change Sat _ _ ([(p, .cells #[.int .i64 S.cap, .slice a0 n0 k0, .slice a1 n1 k1, .slice a2 n2 k2, .slice a3 n3 k3] 49 (0, 0))] :: c0 :: c1 :: c2 :: c3 :: [(b_1, .cells #[.int .i64 r.job, .int .i64 r.task] 33 (0, 0))] :: F) at hS_9
    have hS_10 := hS_9.dropAt 5 rfl
    change Sat _ _ ([(p, .cells #[.int .i64 S.cap, .slice a0 n0 k0, .slice a1 n1 k1, .slice a2 n2 k2, .slice a3 n3 k3] 49 (0, 0))] :: c0 :: c1 :: c2 :: c3 :: F) at hS_10
    have hS_11 := hS_10.merge5
    refine ⟨by simp only [packed, hp], _, ?_, hS_11⟩
    rw [show S.push r 1 = S from by simp [Inj.push, hp]]
    exact ⟨_, _, _, _, _, _, _, _, _, _, _, _, _, _, _, _, rfl, hO0, hO1, hO2, hO3⟩
  · refine cF ((S.cap : Int) == 0) (beq_eq_false_iff_ne.2 hc_4) ?_
    refine skipE ?_
    refine thenK_n <| ?_
    refine seqE ?_
    refine seqE ?_
    refine regionE ?_
    refine p6 (by kernel_rfl) ?_
    refine nilO ?_
    refine thenK_n <| ?_
    refine condE_false (by kernel_rfl) ?_
    refine skipE ?_
    refine thenK_n <| ?_
    refine seqE ?_
    refine seqE ?_
    refine drawE [1] [(5, ⟨p, 0, none⟩, .int .i64 S.cap)] [(true, [0, 2, 3, 4]), (true, [5]), (false, [1]), (true, [6])] rfl (by kernel_rfl) ⟨.inr (hS_3.cell 1 rfl rfl), trivial⟩ ?_
    have hS_12 := hS_3.drew
    refine wP [0, 2, 3, 4] rfl (by kernel_rfl) ?_
    refine wS (.int .i64 S.cap) rfl rfl rfl (fun w hF => Y_load rfl (Try.isAgg3 w) (by kernel_rfl) (hF 0 _ _ rfl)) ?_
    refine wO rfl ?_
    have hS_13 := hS_12.pick 5 rfl
    have hS_14 := hS_13.pick 5 rfl
    have hS_15 := hS_14.pick 5 rfl
    have hS_16 := hS_15.pick 5 rfl
    have hS_17 := hS_16.pick 5 rfl
    change Sat _ _ ([(p, .cells #[.int .i64 S.cap, .slice a0 n0 k0, .slice a1 n1 k1, .slice a2 n2 k2, .slice a3 n3 k3] 49 (0, 0))] :: c0 :: c1 :: c2 :: c3 :: [(b_1, .cells #[.int .i64 r.job, .int .i64 r.task] 33 (0, 0))] :: F) at hS_17
    have hS_18 := hS_17.merge5
    refine sF #[.pointer (some ⟨p, 0, none⟩)] Try.call12 (Calls.mono (inj_len W _ _ S _ _ ⟨_, _, _, _, _, _, _, _, _, _, _, _, _, _, _, _, rfl, hO0, hO1, hO2, hO3⟩ hS_18 (by unfold Inj.len; omega)) ?_)
    rintro _ _ ⟨rfl, rfl⟩
    refine ⟨_, rfl, ?_⟩
    have hlen : S.len = S.q0.length + (S.q1.length + (S.q2.length + S.q3.length)) := rfl
    refine nilO ⟨⟨.inr (hS_17.cell 0 rfl rfl), trivial⟩, ?_⟩
    refine wP [6] rfl (by kernel_rfl) ?_
    refine wN ?_
    refine thenK_n <| ?_
    by_cases hc_19 : (((S.len : Nat) : Int) : Int) ≥ S.cap
    · refine cT (decide ((((S.len : Nat) : Int) : Int) ≥ S.cap)) (decide_eq_true hc_19) ?_
      refine seqE ?_
      refine regionE ?_
      refine p1 (by kernel_rfl) ?_
      refine nilO ?_
      refine thenK_n <| ?_
      refine retE (thenK_r <| ?_)
      refine retN (vs := [.int .i64 19]) rfl (.cons (.tmp _ _ (by kernel_rfl)) .nil) <| ?_
      have hp : S.pushCode 1 = 19 := by unfold Inj.pushCode; (repeat' split) <;> omega
      have hS_20 := hS_17.pick 4 rfl
      have hS_21 := hS_20.pick 4 rfl
      have hS_22 := hS_21.pick 4 rfl
      have hS_23 := hS_22.pick 4 rfl
      have hS_24 := hS_23.pick 4 rfl
      change Sat _ _ ([(p, .cells #[.int .i64 S.cap, .slice a0 n0 k0, .slice a1 n1 k1, .slice a2 n2 k2, .slice a3 n3 k3] 49 (0, 0))] :: c0 :: c1 :: c2 :: c3 :: [(b_1, .cells #[.int .i64 r.job, .int .i64 r.task] 33 (0, 0))] :: F) at hS_24
      have hS_25 := hS_24.dropAt 5 rfl
      change Sat _ _ ([(p, .cells #[.int .i64 S.cap, .slice a0 n0 k0, .slice a1 n1 k1, .slice a2 n2 k2, .slice a3 n3 k3] 49 (0, 0))] :: c0 :: c1 :: c2 :: c3 :: F) at hS_25
      have hS_26 := hS_25.merge5
      refine ⟨by simp only [packed, hp], _, ?_, hS_26⟩
      rw [show S.push r 1 = S from by simp [Inj.push, hp]]
      exact ⟨_, _, _, _, _, _, _, _, _, _, _, _, _, _, _, _, rfl, hO0, hO1, hO2, hO3⟩
    · refine cF (decide ((((S.len : Nat) : Int) : Int) ≥ S.cap)) (decide_eq_false hc_19) ?_
      refine skipE ?_
      refine thenK_n <| ?_
      refine seqE ?_
      refine drawE [9, 10, 14] [(7, ⟨p, 2, none⟩, .slice a1 n1 k1), (8, ⟨b_1, 0, none⟩, .int .i64 r.job), (8, ⟨b_1, 1, none⟩, .int .i64 r.task)] [(true, [0, 1, 2, 3, 4, 5, 6, 11, 12]), (true, [7]), (true, [8]), (false, [9]), (false, [10]), (true, [13]), (false, [14])] rfl (by kernel_rfl) ⟨.inr (hS_17.cell 0 rfl rfl), .inr (hS_17.cell 5 rfl rfl), .inr (hS_17.cell 5 rfl rfl), trivial⟩ ?_
      have hS_27 := hS_17.drew
      refine wP [0, 1, 2, 3, 4, 5, 6, 11, 12] rfl (by kernel_rfl) ?_
      refine wS (.slice a1 n1 k1) rfl rfl rfl (fun w hF => Y_load rfl (Try.isAgg44 w) (by kernel_rfl) (hF 0 _ _ rfl)) ?_
      refine wS (.agg #[.int .i64 r.job, .int .i64 r.task]) rfl rfl rfl (fun w hF => Y_loadF rfl (Try.isAgg33 w) (Try.sizeOf33 w) (by kernel_rfl) rfl ⟨hF 1 _ _ rfl, hF 2 _ _ rfl, trivial⟩) ?_
      refine wO rfl ?_
      refine sBS hS_27 #[.int .i64 r.job, .int .i64 r.task] Try.runUnderlying44 Try.sizeOf33 Try.zeroValue33 ?_
      intro b_28 w_29 hS_30
      refine nilO ⟨⟨.inr (hS_30.cell 1 rfl rfl), .inl (by kernel_rfl), .inl (by kernel_rfl), trivial⟩, ?_⟩
      refine wO rfl ?_
      refine sApp (nb := 16) hS_30 hO1 3 (RdT.blk (enc := encR) (sz := 2) (xs := [⟨r.job, r.task⟩]) (fun _ => rfl) 1 0 rfl rfl rfl (by omega)) Try.underlying44 (i := Try.t33) rfl (fun _ => rfl) ?_
      intro a_31 cap_32 c_33 w_34 hO_35 hS_36
      change Sat _ _ ([(b_28, .cells #[.int .i64 r.job, .int .i64 r.task] 33 (0, 0))] :: [(p, .cells #[.int .i64 S.cap, .slice a0 n0 k0, .slice a1 n1 k1, .slice a2 n2 k2, .slice a3 n3 k3] 49 (0, 0))] :: c0 :: c_33 :: c2 :: c3 :: [(b_1, .cells #[.int .i64 r.job, .int .i64 r.task] 33 (0, 0))] :: F) at hS_36
      refine nilO ⟨⟨.inl (by kernel_rfl), .inl (by kernel_rfl), .inl (by kernel_rfl), trivial⟩, ?_⟩
      refine wP [13] rfl (by kernel_rfl) ?_
      refine wO rfl ?_
      refine sT hS_36 1 2 (.slice a_31 (n1 + 1) cap_32) [.slice a_31 (n1 + 1) cap_32] #[.int .i64 S.cap, .slice a0 n0 k0, .slice a_31 (n1 + 1) cap_32, .slice a2 n2 k2, .slice a3 n3 k3] Try.sizeOf44 ?_
      intro w_37 hS_38
      change Sat _ _ ([(b_28, .cells #[.int .i64 r.job, .int .i64 r.task] 33 (0, 0))] :: [(p, .cells #[.int .i64 S.cap, .slice a0 n0 k0, .slice a_31 (n1 + 1) cap_32, .slice a2 n2 k2, .slice a3 n3 k3] 49 (0, 0))] :: c0 :: c_33 :: c2 :: c3 :: [(b_1, .cells #[.int .i64 r.job, .int .i64 r.task] 33 (0, 0))] :: F) at hS_38
      refine nilO ⟨⟨.inl (by kernel_rfl), .inl (by kernel_rfl), .inl (by kernel_rfl), trivial⟩, ?_⟩
      refine wN ?_
      refine thenK_n <| ?_
      refine seqE ?_
      refine regionE ?_
      refine p1 (by kernel_rfl) ?_
      refine nilO ?_
      refine thenK_n <| ?_
      refine retE ?_
      refine retN (vs := [.int .i64 0]) rfl (.cons (.tmp _ _ (by kernel_rfl)) .nil) <| ?_
      have hp : S.pushCode 1 = 0 := by unfold Inj.pushCode; (repeat' split) <;> omega
      have hS_39 := hS_38.pick 5 rfl
      have hS_40 := hS_39.pick 5 rfl
      have hS_41 := hS_40.pick 5 rfl
      have hS_42 := hS_41.pick 5 rfl
      have hS_43 := hS_42.pick 5 rfl
      change Sat _ _ ([(p, .cells #[.int .i64 S.cap, .slice a0 n0 k0, .slice a_31 (n1 + 1) cap_32, .slice a2 n2 k2, .slice a3 n3 k3] 49 (0, 0))] :: c0 :: c_33 :: c2 :: c3 :: [(b_28, .cells #[.int .i64 r.job, .int .i64 r.task] 33 (0, 0))] :: [(b_1, .cells #[.int .i64 r.job, .int .i64 r.task] 33 (0, 0))] :: F) at hS_43
      have hS_44 := hS_43.dropAt 5 rfl
      have hS_45 := hS_44.dropAt 5 rfl
      change Sat _ _ ([(p, .cells #[.int .i64 S.cap, .slice a0 n0 k0, .slice a_31 (n1 + 1) cap_32, .slice a2 n2 k2, .slice a3 n3 k3] 49 (0, 0))] :: c0 :: c_33 :: c2 :: c3 :: F) at hS_45
      have hS_46 := hS_45.merge5
      refine ⟨by simp only [packed, hp], _, ?_, hS_46⟩
      rw [show S.push r 1 = { S with q1 := S.q1 ++ [r] } from by simp [Inj.push, hp, Inj.setq, Inj.q]]
      exact ⟨_, _, _, _, _, _, _, _, _, _, _, _, _, _, _, _, rfl, hO0, hO_35, hO2, hO3⟩
theorem inj_push2 (W w : World) (p : Nat) (S : Inj) (fp : Chunk) (F : List Chunk) (hI : InjR p S fp) (hS : Sat W w (fp :: F)) (hb : S.len ≤ 1000000000000) (r : Ref) :
    Calls Try.prog 10 #[.pointer (some ⟨p, 0, none⟩), .agg #[.int .i64 r.job, .int .i64 r.task], .int .i64 2] w fun e w' => e = .returned (.int .i64 (S.pushCode 2)) ∧ ∃ fp' : Chunk, InjR p (S.push r 2) fp' ∧ Sat W w' (fp' :: F) := by
  obtain ⟨a0, n0, k0, c0, a1, n1, k1, c1, a2, n2, k2, c2, a3, n3, k3, c3, rfl, hO0, hO1, hO2, hO3⟩ := hI
  have hS0 : Sat W w ([(p, .cells #[.int .i64 S.cap, .slice a0 n0 k0, .slice a1 n1 k1, .slice a2 n2 k2, .slice a3 n3 k3] 49 (0, 0))] :: c0 :: c1 :: c2 :: c3 :: F) := hS.perm (by simp)
  have hl0 := hO0.len; have hk0 := hO0.le
  have hl1 := hO1.len; have hk1 := hO1.le
  have hl2 := hO2.len; have hk2 := hO2.le
  have hl3 := hO3.len; have hk3 := hO3.le
  unfold Inj.len at hb
  refine callsE (n := 43) Try.func10 rfl rfl (Nat.le_of_ble_eq_true rfl) ?_
  refine seqE ?_
  refine regionE ?_
  refine sBox hS0 (.agg #[.int .i64 r.job, .int .i64 r.task]) #[.int .i64 r.job, .int .i64 r.task] ?_
  intro b_1 w_2 hS_3
  refine p1 (by kernel_rfl) ?_
  refine nilO ?_
  refine thenK_n <| ?_
  refine seqE ?_
  refine seqE ?_
  refine regionE ?_
  refine p6 (by kernel_rfl) ?_
  refine guardYes rfl ⟨_, rfl, rfl, by kernel_rfl⟩ ?_
  refine sL hS_3 1 0 (.int .i64 S.cap) (Try.isAgg3 _) ?_
  refine p2 (by kernel_rfl) ?_
  refine nilO ?_
  refine thenK_n <| ?_
  by_cases hc_4 : (S.cap : Int) = 0
  · refine cT ((S.cap : Int) == 0) (beq_iff_eq.2 hc_4) ?_
    refine seqE ?_
    refine regionE ?_
    refine p1 (by kernel_rfl) ?_
    refine nilO ?_
    refine thenK_n <| ?_
    refine retE (thenK_r <| ?_)
    refine retN (vs := [.int .i64 20]) rfl (.cons (.tmp _ _ (by kernel_rfl)) .nil) <| ?_
    have hp : S.pushCode 2 = 20 := by unfold Inj.pushCode; (repeat' split) <;> omega
    have hS_5 := hS_3.pick 5 rfl
    have hS_6 := hS_5.pick 5 rfl
    have hS_7 := hS_6.pick 5 rfl
    have hS_8 := hS_7.pick 5 rfl
    have hS_9 := hS_8.pick 5 rfl
    change Sat _ _ ([(p, .cells #[.int .i64 S.cap, .slice a0 n0 k0, .slice a1 n1 k1, .slice a2 n2 k2, .slice a3 n3 k3] 49 (0, 0))] :: c0 :: c1 :: c2 :: c3 :: [(b_1, .cells #[.int .i64 r.job, .int .i64 r.task] 33 (0, 0))] :: F) at hS_9
    have hS_10 := hS_9.dropAt 5 rfl
    change Sat _ _ ([(p, .cells #[.int .i64 S.cap, .slice a0 n0 k0, .slice a1 n1 k1, .slice a2 n2 k2, .slice a3 n3 k3] 49 (0, 0))] :: c0 :: c1 :: c2 :: c3 :: F) at hS_10
    have hS_11 := hS_10.merge5
    refine ⟨by simp only [packed, hp], _, ?_, hS_11⟩
    rw [show S.push r 2 = S from by simp [Inj.push, hp]]
    exact ⟨_, _, _, _, _, _, _, _, _, _, _, _, _, _, _, _, rfl, hO0, hO1, hO2, hO3⟩
  · refine cF ((S.cap : Int) == 0) (beq_eq_false_iff_ne.2 hc_4) ?_
    refine skipE ?_
    refine thenK_n <| ?_
    refine seqE ?_
    refine seqE ?_
    refine regionE ?_
    refine p6 (by kernel_rfl) ?_
    refine nilO ?_
    refine thenK_n <| ?_
    refine condE_false (by kernel_rfl) ?_
    refine skipE ?_
    refine thenK_n <| ?_
    refine seqE ?_
    refine seqE ?_
    refine drawE [1] [(5, ⟨p, 0, none⟩, .int .i64 S.cap)] [(true, [0, 2, 3, 4]), (true, [5]), (false, [1]), (true, [6])] rfl (by kernel_rfl) ⟨.inr (hS_3.cell 1 rfl rfl), trivial⟩ ?_
    have hS_12 := hS_3.drew
    refine wP [0, 2, 3, 4] rfl (by kernel_rfl) ?_
    refine wS (.int .i64 S.cap) rfl rfl rfl (fun w hF => Y_load rfl (Try.isAgg3 w) (by kernel_rfl) (hF 0 _ _ rfl)) ?_
    refine wO rfl ?_
    have hS_13 := hS_12.pick 5 rfl
    have hS_14 := hS_13.pick 5 rfl
    have hS_15 := hS_14.pick 5 rfl
    have hS_16 := hS_15.pick 5 rfl
    have hS_17 := hS_16.pick 5 rfl
    change Sat _ _ ([(p, .cells #[.int .i64 S.cap, .slice a0 n0 k0, .slice a1 n1 k1, .slice a2 n2 k2, .slice a3 n3 k3] 49 (0, 0))] :: c0 :: c1 :: c2 :: c3 :: [(b_1, .cells #[.int .i64 r.job, .int .i64 r.task] 33 (0, 0))] :: F) at hS_17
    have hS_18 := hS_17.merge5
    refine sF #[.pointer (some ⟨p, 0, none⟩)] Try.call12 (Calls.mono (inj_len W _ _ S _ _ ⟨_, _, _, _, _, _, _, _, _, _, _, _, _, _, _, _, rfl, hO0, hO1, hO2, hO3⟩ hS_18 (by unfold Inj.len; omega)) ?_)
    rintro _ _ ⟨rfl, rfl⟩
    refine ⟨_, rfl, ?_⟩
    have hlen : S.len = S.q0.length + (S.q1.length + (S.q2.length + S.q3.length)) := rfl
    refine nilO ⟨⟨.inr (hS_17.cell 0 rfl rfl), trivial⟩, ?_⟩
    refine wP [6] rfl (by kernel_rfl) ?_
    refine wN ?_
    refine thenK_n <| ?_
    by_cases hc_19 : (((S.len : Nat) : Int) : Int) ≥ S.cap
    · refine cT (decide ((((S.len : Nat) : Int) : Int) ≥ S.cap)) (decide_eq_true hc_19) ?_
      refine seqE ?_
      refine regionE ?_
      refine p1 (by kernel_rfl) ?_
      refine nilO ?_
      refine thenK_n <| ?_
      refine retE (thenK_r <| ?_)
      refine retN (vs := [.int .i64 19]) rfl (.cons (.tmp _ _ (by kernel_rfl)) .nil) <| ?_
      have hp : S.pushCode 2 = 19 := by unfold Inj.pushCode; (repeat' split) <;> omega
      have hS_20 := hS_17.pick 4 rfl
      have hS_21 := hS_20.pick 4 rfl
      have hS_22 := hS_21.pick 4 rfl
      have hS_23 := hS_22.pick 4 rfl
      have hS_24 := hS_23.pick 4 rfl
      change Sat _ _ ([(p, .cells #[.int .i64 S.cap, .slice a0 n0 k0, .slice a1 n1 k1, .slice a2 n2 k2, .slice a3 n3 k3] 49 (0, 0))] :: c0 :: c1 :: c2 :: c3 :: [(b_1, .cells #[.int .i64 r.job, .int .i64 r.task] 33 (0, 0))] :: F) at hS_24
      have hS_25 := hS_24.dropAt 5 rfl
      change Sat _ _ ([(p, .cells #[.int .i64 S.cap, .slice a0 n0 k0, .slice a1 n1 k1, .slice a2 n2 k2, .slice a3 n3 k3] 49 (0, 0))] :: c0 :: c1 :: c2 :: c3 :: F) at hS_25
      have hS_26 := hS_25.merge5
      refine ⟨by simp only [packed, hp], _, ?_, hS_26⟩
      rw [show S.push r 2 = S from by simp [Inj.push, hp]]
      exact ⟨_, _, _, _, _, _, _, _, _, _, _, _, _, _, _, _, rfl, hO0, hO1, hO2, hO3⟩
    · refine cF (decide ((((S.len : Nat) : Int) : Int) ≥ S.cap)) (decide_eq_false hc_19) ?_
      refine skipE ?_
      refine thenK_n <| ?_
      refine seqE ?_
      refine drawE [9, 10, 14] [(7, ⟨p, 3, none⟩, .slice a2 n2 k2), (8, ⟨b_1, 0, none⟩, .int .i64 r.job), (8, ⟨b_1, 1, none⟩, .int .i64 r.task)] [(true, [0, 1, 2, 3, 4, 5, 6, 11, 12]), (true, [7]), (true, [8]), (false, [9]), (false, [10]), (true, [13]), (false, [14])] rfl (by kernel_rfl) ⟨.inr (hS_17.cell 0 rfl rfl), .inr (hS_17.cell 5 rfl rfl), .inr (hS_17.cell 5 rfl rfl), trivial⟩ ?_
      have hS_27 := hS_17.drew
      refine wP [0, 1, 2, 3, 4, 5, 6, 11, 12] rfl (by kernel_rfl) ?_
      refine wS (.slice a2 n2 k2) rfl rfl rfl (fun w hF => Y_load rfl (Try.isAgg44 w) (by kernel_rfl) (hF 0 _ _ rfl)) ?_
      refine wS (.agg #[.int .i64 r.job, .int .i64 r.task]) rfl rfl rfl (fun w hF => Y_loadF rfl (Try.isAgg33 w) (Try.sizeOf33 w) (by kernel_rfl) rfl ⟨hF 1 _ _ rfl, hF 2 _ _ rfl, trivial⟩) ?_
      refine wO rfl ?_
      refine sBS hS_27 #[.int .i64 r.job, .int .i64 r.task] Try.runUnderlying44 Try.sizeOf33 Try.zeroValue33 ?_
      intro b_28 w_29 hS_30
      refine nilO ⟨⟨.inr (hS_30.cell 1 rfl rfl), .inl (by kernel_rfl), .inl (by kernel_rfl), trivial⟩, ?_⟩
      refine wO rfl ?_
      refine sApp (nb := 16) hS_30 hO2 4 (RdT.blk (enc := encR) (sz := 2) (xs := [⟨r.job, r.task⟩]) (fun _ => rfl) 1 0 rfl rfl rfl (by omega)) Try.underlying44 (i := Try.t33) rfl (fun _ => rfl) ?_
      intro a_31 cap_32 c_33 w_34 hO_35 hS_36
      change Sat _ _ ([(b_28, .cells #[.int .i64 r.job, .int .i64 r.task] 33 (0, 0))] :: [(p, .cells #[.int .i64 S.cap, .slice a0 n0 k0, .slice a1 n1 k1, .slice a2 n2 k2, .slice a3 n3 k3] 49 (0, 0))] :: c0 :: c1 :: c_33 :: c3 :: [(b_1, .cells #[.int .i64 r.job, .int .i64 r.task] 33 (0, 0))] :: F) at hS_36
      refine nilO ⟨⟨.inl (by kernel_rfl), .inl (by kernel_rfl), .inl (by kernel_rfl), trivial⟩, ?_⟩
      refine wP [13] rfl (by kernel_rfl) ?_
      refine wO rfl ?_
      refine sT hS_36 1 3 (.slice a_31 (n2 + 1) cap_32) [.slice a_31 (n2 + 1) cap_32] #[.int .i64 S.cap, .slice a0 n0 k0, .slice a1 n1 k1, .slice a_31 (n2 + 1) cap_32, .slice a3 n3 k3] Try.sizeOf44 ?_
      intro w_37 hS_38
      change Sat _ _ ([(b_28, .cells #[.int .i64 r.job, .int .i64 r.task] 33 (0, 0))] :: [(p, .cells #[.int .i64 S.cap, .slice a0 n0 k0, .slice a1 n1 k1, .slice a_31 (n2 + 1) cap_32, .slice a3 n3 k3] 49 (0, 0))] :: c0 :: c1 :: c_33 :: c3 :: [(b_1, .cells #[.int .i64 r.job, .int .i64 r.task] 33 (0, 0))] :: F) at hS_38
      refine nilO ⟨⟨.inl (by kernel_rfl), .inl (by kernel_rfl), .inl (by kernel_rfl), trivial⟩, ?_⟩
      refine wN ?_
      refine thenK_n <| ?_
      refine seqE ?_
      refine regionE ?_
      refine p1 (by kernel_rfl) ?_
      refine nilO ?_
      refine thenK_n <| ?_
      refine retE ?_
      refine retN (vs := [.int .i64 0]) rfl (.cons (.tmp _ _ (by kernel_rfl)) .nil) <| ?_
      have hp : S.pushCode 2 = 0 := by unfold Inj.pushCode; (repeat' split) <;> omega
      have hS_39 := hS_38.pick 5 rfl
      have hS_40 := hS_39.pick 5 rfl
      have hS_41 := hS_40.pick 5 rfl
      have hS_42 := hS_41.pick 5 rfl
      have hS_43 := hS_42.pick 5 rfl
      change Sat _ _ ([(p, .cells #[.int .i64 S.cap, .slice a0 n0 k0, .slice a1 n1 k1, .slice a_31 (n2 + 1) cap_32, .slice a3 n3 k3] 49 (0, 0))] :: c0 :: c1 :: c_33 :: c3 :: [(b_28, .cells #[.int .i64 r.job, .int .i64 r.task] 33 (0, 0))] :: [(b_1, .cells #[.int .i64 r.job, .int .i64 r.task] 33 (0, 0))] :: F) at hS_43
      have hS_44 := hS_43.dropAt 5 rfl
      have hS_45 := hS_44.dropAt 5 rfl
      change Sat _ _ ([(p, .cells #[.int .i64 S.cap, .slice a0 n0 k0, .slice a1 n1 k1, .slice a_31 (n2 + 1) cap_32, .slice a3 n3 k3] 49 (0, 0))] :: c0 :: c1 :: c_33 :: c3 :: F) at hS_45
      have hS_46 := hS_45.merge5
      refine ⟨by simp only [packed, hp], _, ?_, hS_46⟩
      rw [show S.push r 2 = { S with q2 := S.q2 ++ [r] } from by simp [Inj.push, hp, Inj.setq, Inj.q]]
      exact ⟨_, _, _, _, _, _, _, _, _, _, _, _, _, _, _, _, rfl, hO0, hO1, hO_35, hO3⟩
theorem inj_push3 (W w : World) (p : Nat) (S : Inj) (fp : Chunk) (F : List Chunk) (hI : InjR p S fp) (hS : Sat W w (fp :: F)) (hb : S.len ≤ 1000000000000) (r : Ref) :
    Calls Try.prog 10 #[.pointer (some ⟨p, 0, none⟩), .agg #[.int .i64 r.job, .int .i64 r.task], .int .i64 3] w fun e w' => e = .returned (.int .i64 (S.pushCode 3)) ∧ ∃ fp' : Chunk, InjR p (S.push r 3) fp' ∧ Sat W w' (fp' :: F) := by
  obtain ⟨a0, n0, k0, c0, a1, n1, k1, c1, a2, n2, k2, c2, a3, n3, k3, c3, rfl, hO0, hO1, hO2, hO3⟩ := hI
  have hS0 : Sat W w ([(p, .cells #[.int .i64 S.cap, .slice a0 n0 k0, .slice a1 n1 k1, .slice a2 n2 k2, .slice a3 n3 k3] 49 (0, 0))] :: c0 :: c1 :: c2 :: c3 :: F) := hS.perm (by simp)
  have hl0 := hO0.len; have hk0 := hO0.le
  have hl1 := hO1.len; have hk1 := hO1.le
  have hl2 := hO2.len; have hk2 := hO2.le
  have hl3 := hO3.len; have hk3 := hO3.le
  unfold Inj.len at hb
  refine callsE (n := 43) Try.func10 rfl rfl (Nat.le_of_ble_eq_true rfl) ?_
  refine seqE ?_
  refine regionE ?_
  refine sBox hS0 (.agg #[.int .i64 r.job, .int .i64 r.task]) #[.int .i64 r.job, .int .i64 r.task] ?_
  intro b_1 w_2 hS_3
  refine p1 (by kernel_rfl) ?_
  refine nilO ?_
  refine thenK_n <| ?_
  refine seqE ?_
  refine seqE ?_
  refine regionE ?_
  refine p6 (by kernel_rfl) ?_
  refine guardYes rfl ⟨_, rfl, rfl, by kernel_rfl⟩ ?_
  refine sL hS_3 1 0 (.int .i64 S.cap) (Try.isAgg3 _) ?_
  refine p2 (by kernel_rfl) ?_
  refine nilO ?_
  refine thenK_n <| ?_
  by_cases hc_4 : (S.cap : Int) = 0
  · refine cT ((S.cap : Int) == 0) (beq_iff_eq.2 hc_4) ?_
    refine seqE ?_
    refine regionE ?_
    refine p1 (by kernel_rfl) ?_
    refine nilO ?_
    refine thenK_n <| ?_
    refine retE (thenK_r <| ?_)
    refine retN (vs := [.int .i64 20]) rfl (.cons (.tmp _ _ (by kernel_rfl)) .nil) <| ?_
    have hp : S.pushCode 3 = 20 := by unfold Inj.pushCode; (repeat' split) <;> omega
    have hS_5 := hS_3.pick 5 rfl
    have hS_6 := hS_5.pick 5 rfl
    have hS_7 := hS_6.pick 5 rfl
    have hS_8 := hS_7.pick 5 rfl
    have hS_9 := hS_8.pick 5 rfl
    change Sat _ _ ([(p, .cells #[.int .i64 S.cap, .slice a0 n0 k0, .slice a1 n1 k1, .slice a2 n2 k2, .slice a3 n3 k3] 49 (0, 0))] :: c0 :: c1 :: c2 :: c3 :: [(b_1, .cells #[.int .i64 r.job, .int .i64 r.task] 33 (0, 0))] :: F) at hS_9
    have hS_10 := hS_9.dropAt 5 rfl
    change Sat _ _ ([(p, .cells #[.int .i64 S.cap, .slice a0 n0 k0, .slice a1 n1 k1, .slice a2 n2 k2, .slice a3 n3 k3] 49 (0, 0))] :: c0 :: c1 :: c2 :: c3 :: F) at hS_10
    have hS_11 := hS_10.merge5
    refine ⟨by simp only [packed, hp], _, ?_, hS_11⟩
    rw [show S.push r 3 = S from by simp [Inj.push, hp]]
    exact ⟨_, _, _, _, _, _, _, _, _, _, _, _, _, _, _, _, rfl, hO0, hO1, hO2, hO3⟩
  · refine cF ((S.cap : Int) == 0) (beq_eq_false_iff_ne.2 hc_4) ?_
    refine skipE ?_
    refine thenK_n <| ?_
    refine seqE ?_
    refine seqE ?_
    refine regionE ?_
    refine p6 (by kernel_rfl) ?_
    refine nilO ?_
    refine thenK_n <| ?_
    refine condE_false (by kernel_rfl) ?_
    refine skipE ?_
    refine thenK_n <| ?_
    refine seqE ?_
    refine seqE ?_
    refine drawE [1] [(5, ⟨p, 0, none⟩, .int .i64 S.cap)] [(true, [0, 2, 3, 4]), (true, [5]), (false, [1]), (true, [6])] rfl (by kernel_rfl) ⟨.inr (hS_3.cell 1 rfl rfl), trivial⟩ ?_
    have hS_12 := hS_3.drew
    refine wP [0, 2, 3, 4] rfl (by kernel_rfl) ?_
    refine wS (.int .i64 S.cap) rfl rfl rfl (fun w hF => Y_load rfl (Try.isAgg3 w) (by kernel_rfl) (hF 0 _ _ rfl)) ?_
    refine wO rfl ?_
    have hS_13 := hS_12.pick 5 rfl
    have hS_14 := hS_13.pick 5 rfl
    have hS_15 := hS_14.pick 5 rfl
    have hS_16 := hS_15.pick 5 rfl
    have hS_17 := hS_16.pick 5 rfl
    change Sat _ _ ([(p, .cells #[.int .i64 S.cap, .slice a0 n0 k0, .slice a1 n1 k1, .slice a2 n2 k2, .slice a3 n3 k3] 49 (0, 0))] :: c0 :: c1 :: c2 :: c3 :: [(b_1, .cells #[.int .i64 r.job, .int .i64 r.task] 33 (0, 0))] :: F) at hS_17
    have hS_18 := hS_17.merge5
    refine sF #[.pointer (some ⟨p, 0, none⟩)] Try.call12 (Calls.mono (inj_len W _ _ S _ _ ⟨_, _, _, _, _, _, _, _, _, _, _, _, _, _, _, _, rfl, hO0, hO1, hO2, hO3⟩ hS_18 (by unfold Inj.len; omega)) ?_)
    rintro _ _ ⟨rfl, rfl⟩
    refine ⟨_, rfl, ?_⟩
    have hlen : S.len = S.q0.length + (S.q1.length + (S.q2.length + S.q3.length)) := rfl
    refine nilO ⟨⟨.inr (hS_17.cell 0 rfl rfl), trivial⟩, ?_⟩
    refine wP [6] rfl (by kernel_rfl) ?_
    refine wN ?_
    refine thenK_n <| ?_
    by_cases hc_19 : (((S.len : Nat) : Int) : Int) ≥ S.cap
    · refine cT (decide ((((S.len : Nat) : Int) : Int) ≥ S.cap)) (decide_eq_true hc_19) ?_
      refine seqE ?_
      refine regionE ?_
      refine p1 (by kernel_rfl) ?_
      refine nilO ?_
      refine thenK_n <| ?_
      refine retE (thenK_r <| ?_)
      refine retN (vs := [.int .i64 19]) rfl (.cons (.tmp _ _ (by kernel_rfl)) .nil) <| ?_
      have hp : S.pushCode 3 = 19 := by unfold Inj.pushCode; (repeat' split) <;> omega
      have hS_20 := hS_17.pick 4 rfl
      have hS_21 := hS_20.pick 4 rfl
      have hS_22 := hS_21.pick 4 rfl
      have hS_23 := hS_22.pick 4 rfl
      have hS_24 := hS_23.pick 4 rfl
      change Sat _ _ ([(p, .cells #[.int .i64 S.cap, .slice a0 n0 k0, .slice a1 n1 k1, .slice a2 n2 k2, .slice a3 n3 k3] 49 (0, 0))] :: c0 :: c1 :: c2 :: c3 :: [(b_1, .cells #[.int .i64 r.job, .int .i64 r.task] 33 (0, 0))] :: F) at hS_24
      have hS_25 := hS_24.dropAt 5 rfl
      change Sat _ _ ([(p, .cells #[.int .i64 S.cap, .slice a0 n0 k0, .slice a1 n1 k1, .slice a2 n2 k2, .slice a3 n3 k3] 49 (0, 0))] :: c0 :: c1 :: c2 :: c3 :: F) at hS_25
      have hS_26 := hS_25.merge5
      refine ⟨by simp only [packed, hp], _, ?_, hS_26⟩
      rw [show S.push r 3 = S from by simp [Inj.push, hp]]
      exact ⟨_, _, _, _, _, _, _, _, _, _, _, _, _, _, _, _, rfl, hO0, hO1, hO2, hO3⟩
    · refine cF (decide ((((S.len : Nat) : Int) : Int) ≥ S.cap)) (decide_eq_false hc_19) ?_
      refine skipE ?_
      refine thenK_n <| ?_
      refine seqE ?_
      refine drawE [9, 10, 14] [(7, ⟨p, 4, none⟩, .slice a3 n3 k3), (8, ⟨b_1, 0, none⟩, .int .i64 r.job), (8, ⟨b_1, 1, none⟩, .int .i64 r.task)] [(true, [0, 1, 2, 3, 4, 5, 6, 11, 12]), (true, [7]), (true, [8]), (false, [9]), (false, [10]), (true, [13]), (false, [14])] rfl (by kernel_rfl) ⟨.inr (hS_17.cell 0 rfl rfl), .inr (hS_17.cell 5 rfl rfl), .inr (hS_17.cell 5 rfl rfl), trivial⟩ ?_
      have hS_27 := hS_17.drew
      refine wP [0, 1, 2, 3, 4, 5, 6, 11, 12] rfl (by kernel_rfl) ?_
      refine wS (.slice a3 n3 k3) rfl rfl rfl (fun w hF => Y_load rfl (Try.isAgg44 w) (by kernel_rfl) (hF 0 _ _ rfl)) ?_
      refine wS (.agg #[.int .i64 r.job, .int .i64 r.task]) rfl rfl rfl (fun w hF => Y_loadF rfl (Try.isAgg33 w) (Try.sizeOf33 w) (by kernel_rfl) rfl ⟨hF 1 _ _ rfl, hF 2 _ _ rfl, trivial⟩) ?_
      refine wO rfl ?_
      refine sBS hS_27 #[.int .i64 r.job, .int .i64 r.task] Try.runUnderlying44 Try.sizeOf33 Try.zeroValue33 ?_
      intro b_28 w_29 hS_30
      refine nilO ⟨⟨.inr (hS_30.cell 1 rfl rfl), .inl (by kernel_rfl), .inl (by kernel_rfl), trivial⟩, ?_⟩
      refine wO rfl ?_
      refine sApp (nb := 16) hS_30 hO3 5 (RdT.blk (enc := encR) (sz := 2) (xs := [⟨r.job, r.task⟩]) (fun _ => rfl) 1 0 rfl rfl rfl (by omega)) Try.underlying44 (i := Try.t33) rfl (fun _ => rfl) ?_
      intro a_31 cap_32 c_33 w_34 hO_35 hS_36
      change Sat _ _ ([(b_28, .cells #[.int .i64 r.job, .int .i64 r.task] 33 (0, 0))] :: [(p, .cells #[.int .i64 S.cap, .slice a0 n0 k0, .slice a1 n1 k1, .slice a2 n2 k2, .slice a3 n3 k3] 49 (0, 0))] :: c0 :: c1 :: c2 :: c_33 :: [(b_1, .cells #[.int .i64 r.job, .int .i64 r.task] 33 (0, 0))] :: F) at hS_36
      refine nilO ⟨⟨.inl (by kernel_rfl), .inl (by kernel_rfl), .inl (by kernel_rfl), trivial⟩, ?_⟩
      refine wP [13] rfl (by kernel_rfl) ?_
      refine wO rfl ?_
      refine sT hS_36 1 4 (.slice a_31 (n3 + 1) cap_32) [.slice a_31 (n3 + 1) cap_32] #[.int .i64 S.cap, .slice a0 n0 k0, .slice a1 n1 k1, .slice a2 n2 k2, .slice a_31 (n3 + 1) cap_32] Try.sizeOf44 ?_
      intro w_37 hS_38
      change Sat _ _ ([(b_28, .cells #[.int .i64 r.job, .int .i64 r.task] 33 (0, 0))] :: [(p, .cells #[.int .i64 S.cap, .slice a0 n0 k0, .slice a1 n1 k1, .slice a2 n2 k2, .slice a_31 (n3 + 1) cap_32] 49 (0, 0))] :: c0 :: c1 :: c2 :: c_33 :: [(b_1, .cells #[.int .i64 r.job, .int .i64 r.task] 33 (0, 0))] :: F) at hS_38
      refine nilO ⟨⟨.inl (by kernel_rfl), .inl (by kernel_rfl), .inl (by kernel_rfl), trivial⟩, ?_⟩
      refine wN ?_
      refine thenK_n <| ?_
      refine seqE ?_
      refine regionE ?_
      refine p1 (by kernel_rfl) ?_
      refine nilO ?_
      refine thenK_n <| ?_
      refine retE ?_
      refine retN (vs := [.int .i64 0]) rfl (.cons (.tmp _ _ (by kernel_rfl)) .nil) <| ?_
      have hp : S.pushCode 3 = 0 := by unfold Inj.pushCode; (repeat' split) <;> omega
      have hS_39 := hS_38.pick 5 rfl
      have hS_40 := hS_39.pick 5 rfl
      have hS_41 := hS_40.pick 5 rfl
      have hS_42 := hS_41.pick 5 rfl
      have hS_43 := hS_42.pick 5 rfl
      change Sat _ _ ([(p, .cells #[.int .i64 S.cap, .slice a0 n0 k0, .slice a1 n1 k1, .slice a2 n2 k2, .slice a_31 (n3 + 1) cap_32] 49 (0, 0))] :: c0 :: c1 :: c2 :: c_33 :: [(b_28, .cells #[.int .i64 r.job, .int .i64 r.task] 33 (0, 0))] :: [(b_1, .cells #[.int .i64 r.job, .int .i64 r.task] 33 (0, 0))] :: F) at hS_43
      have hS_44 := hS_43.dropAt 5 rfl
      have hS_45 := hS_44.dropAt 5 rfl
      change Sat _ _ ([(p, .cells #[.int .i64 S.cap, .slice a0 n0 k0, .slice a1 n1 k1, .slice a2 n2 k2, .slice a_31 (n3 + 1) cap_32] 49 (0, 0))] :: c0 :: c1 :: c2 :: c_33 :: F) at hS_45
      have hS_46 := hS_45.merge5
      refine ⟨by simp only [packed, hp], _, ?_, hS_46⟩
      rw [show S.push r 3 = { S with q3 := S.q3 ++ [r] } from by simp [Inj.push, hp, Inj.setq, Inj.q]]
      exact ⟨_, _, _, _, _, _, _, _, _, _, _, _, _, _, _, _, rfl, hO0, hO1, hO2, hO_35⟩
theorem inj_pushb (W w : World) (p : Nat) (S : Inj) (fp : Chunk) (F : List Chunk) (hI : InjR p S fp) (hS : Sat W w (fp :: F)) (hb : S.len ≤ 1000000000000) (r : Ref) (b : Int) (hb4 : b < 0 ∨ 4 ≤ b) :
    Calls Try.prog 10 #[.pointer (some ⟨p, 0, none⟩), .agg #[.int .i64 r.job, .int .i64 r.task], .int .i64 b] w fun e w' => e = .returned (.int .i64 (S.pushCode b)) ∧ ∃ fp' : Chunk, InjR p (S.push r b) fp' ∧ Sat W w' (fp' :: F) := by
  obtain ⟨a0, n0, k0, c0, a1, n1, k1, c1, a2, n2, k2, c2, a3, n3, k3, c3, rfl, hO0, hO1, hO2, hO3⟩ := hI
  have hS0 : Sat W w ([(p, .cells #[.int .i64 S.cap, .slice a0 n0 k0, .slice a1 n1 k1, .slice a2 n2 k2, .slice a3 n3 k3] 49 (0, 0))] :: c0 :: c1 :: c2 :: c3 :: F) := hS.perm (by simp)
  have hl0 := hO0.len; have hk0 := hO0.le
  have hl1 := hO1.len; have hk1 := hO1.le
  have hl2 := hO2.len; have hk2 := hO2.le
  have hl3 := hO3.len; have hk3 := hO3.le
  unfold Inj.len at hb
  refine callsE (n := 43) Try.func10 rfl rfl (Nat.le_of_ble_eq_true rfl) ?_
  refine seqE ?_
  refine regionE ?_
  refine sBox hS0 (.agg #[.int .i64 r.job, .int .i64 r.task]) #[.int .i64 r.job, .int .i64 r.task] ?_
  intro b_1 w_2 hS_3
  refine p1 (by kernel_rfl) ?_
  refine nilO ?_
  refine thenK_n <| ?_
  refine seqE ?_
  refine seqE ?_
  refine regionE ?_
  refine p6 (by kernel_rfl) ?_
  refine guardYes rfl ⟨_, rfl, rfl, by kernel_rfl⟩ ?_
  refine sL hS_3 1 0 (.int .i64 S.cap) (Try.isAgg3 _) ?_
  refine p2 (by kernel_rfl) ?_
  refine nilO ?_
  refine thenK_n <| ?_
  by_cases hc_4 : (S.cap : Int) = 0
  · refine cT ((S.cap : Int) == 0) (beq_iff_eq.2 hc_4) ?_
    refine seqE ?_
    refine regionE ?_
    refine p1 (by kernel_rfl) ?_
    refine nilO ?_
    refine thenK_n <| ?_
    refine retE (thenK_r <| ?_)
    refine retN (vs := [.int .i64 20]) rfl (.cons (.tmp _ _ (by kernel_rfl)) .nil) <| ?_
    have hp : S.pushCode b = 20 := by unfold Inj.pushCode; (repeat' split) <;> omega
    have hS_5 := hS_3.pick 5 rfl
    have hS_6 := hS_5.pick 5 rfl
    have hS_7 := hS_6.pick 5 rfl
    have hS_8 := hS_7.pick 5 rfl
    have hS_9 := hS_8.pick 5 rfl
    change Sat _ _ ([(p, .cells #[.int .i64 S.cap, .slice a0 n0 k0, .slice a1 n1 k1, .slice a2 n2 k2, .slice a3 n3 k3] 49 (0, 0))] :: c0 :: c1 :: c2 :: c3 :: [(b_1, .cells #[.int .i64 r.job, .int .i64 r.task] 33 (0, 0))] :: F) at hS_9
    have hS_10 := hS_9.dropAt 5 rfl
    change Sat _ _ ([(p, .cells #[.int .i64 S.cap, .slice a0 n0 k0, .slice a1 n1 k1, .slice a2 n2 k2, .slice a3 n3 k3] 49 (0, 0))] :: c0 :: c1 :: c2 :: c3 :: F) at hS_10
    have hS_11 := hS_10.merge5
    refine ⟨by simp only [packed, hp], _, ?_, hS_11⟩
    rw [show S.push r b = S from by simp [Inj.push, hp]]
    exact ⟨_, _, _, _, _, _, _, _, _, _, _, _, _, _, _, _, rfl, hO0, hO1, hO2, hO3⟩
  · refine cF ((S.cap : Int) == 0) (beq_eq_false_iff_ne.2 hc_4) ?_
    refine skipE ?_
    refine thenK_n <| ?_
    refine seqE ?_
    refine seqE ?_
    refine regionE ?_
    refine p3 (by kernel_rfl) ?_
    by_cases hc_12 : (b : Int) < 0
    · refine sFix 18 (decide ((b : Int) < 0)) true (decide_eq_true hc_12) ?_
      refine p3 (by kernel_rfl) ?_
      refine nilO ?_
      refine thenK_n <| ?_
      refine condE_true (by kernel_rfl) ?_
      refine seqE ?_
      refine regionE ?_
      refine p1 (by kernel_rfl) ?_
      refine nilO ?_
      refine thenK_n <| ?_
      refine retE (thenK_r <| ?_)
      refine retN (vs := [.int .i64 2]) rfl (.cons (.tmp _ _ (by kernel_rfl)) .nil) <| ?_
      have hp : S.pushCode b = 2 := by unfold Inj.pushCode; (repeat' split) <;> omega
      have hS_13 := hS_3.pick 5 rfl
      have hS_14 := hS_13.pick 5 rfl
      have hS_15 := hS_14.pick 5 rfl
      have hS_16 := hS_15.pick 5 rfl
      have hS_17 := hS_16.pick 5 rfl
      change Sat _ _ ([(p, .cells #[.int .i64 S.cap, .slice a0 n0 k0, .slice a1 n1 k1, .slice a2 n2 k2, .slice a3 n3 k3] 49 (0, 0))] :: c0 :: c1 :: c2 :: c3 :: [(b_1, .cells #[.int .i64 r.job, .int .i64 r.task] 33 (0, 0))] :: F) at hS_17
      have hS_18 := hS_17.dropAt 5 rfl
      change Sat _ _ ([(p, .cells #[.int .i64 S.cap, .slice a0 n0 k0, .slice a1 n1 k1, .slice a2 n2 k2, .slice a3 n3 k3] 49 (0, 0))] :: c0 :: c1 :: c2 :: c3 :: F) at hS_18
      have hS_19 := hS_18.merge5
      refine ⟨by simp only [packed, hp], _, ?_, hS_19⟩
      rw [show S.push r b = S from by simp [Inj.push, hp]]
      exact ⟨_, _, _, _, _, _, _, _, _, _, _, _, _, _, _, _, rfl, hO0, hO1, hO2, hO3⟩
    · refine sFix 18 (decide ((b : Int) < 0)) false (decide_eq_false hc_12) ?_
      refine p3 (by kernel_rfl) ?_
      refine nilO ?_
      refine thenK_n <| ?_
      have hc_20 : (b : Int) ≥ 4 := by omega
      refine cT (decide ((b : Int) ≥ 4)) (decide_eq_true hc_20) ?_
      refine seqE ?_
      refine regionE ?_
      refine p1 (by kernel_rfl) ?_
      refine nilO ?_
      refine thenK_n <| ?_
      refine retE (thenK_r <| ?_)
      refine retN (vs := [.int .i64 2]) rfl (.cons (.tmp _ _ (by kernel_rfl)) .nil) <| ?_
      have hp : S.pushCode b = 2 := by unfold Inj.pushCode; (repeat' split) <;> omega
      have hS_21 := hS_3.pick 5 rfl
      have hS_22 := hS_21.pick 5 rfl
      have hS_23 := hS_22.pick 5 rfl
      have hS_24 := hS_23.pick 5 rfl
      have hS_25 := hS_24.pick 5 rfl
      change Sat _ _ ([(p, .cells #[.int .i64 S.cap, .slice a0 n0 k0, .slice a1 n1 k1, .slice a2 n2 k2, .slice a3 n3 k3] 49 (0, 0))] :: c0 :: c1 :: c2 :: c3 :: [(b_1, .cells #[.int .i64 r.job, .int .i64 r.task] 33 (0, 0))] :: F) at hS_25
      have hS_26 := hS_25.dropAt 5 rfl
      change Sat _ _ ([(p, .cells #[.int .i64 S.cap, .slice a0 n0 k0, .slice a1 n1 k1, .slice a2 n2 k2, .slice a3 n3 k3] 49 (0, 0))] :: c0 :: c1 :: c2 :: c3 :: F) at hS_26
      have hS_27 := hS_26.merge5
      refine ⟨by simp only [packed, hp], _, ?_, hS_27⟩
      rw [show S.push r b = S from by simp [Inj.push, hp]]
      exact ⟨_, _, _, _, _, _, _, _, _, _, _, _, _, _, _, _, rfl, hO0, hO1, hO2, hO3⟩
theorem inj_push (W w : World) (p : Nat) (S : Inj) (fp : Chunk) (F : List Chunk) (hI : InjR p S fp) (hS : Sat W w (fp :: F)) (hb : S.len ≤ 1000000000000) (r : Ref) (b : Int) : Calls Try.prog 10 #[.pointer (some ⟨p, 0, none⟩), .agg #[.int .i64 r.job, .int .i64 r.task], .int .i64 b] w
    fun e w' => e = .returned (.int .i64 (S.pushCode b)) ∧ ∃ fp' : Chunk, InjR p (S.push r b) fp' ∧ Sat W w' (fp' :: F) := by
  by_cases h : b < 0 ∨ 4 ≤ b
  · exact inj_pushb W w p S fp F hI hS hb r b h
  · obtain rfl | rfl | rfl | rfl : b = 0 ∨ b = 1 ∨ b = 2 ∨ b = 3 := by omega
    · exact inj_push0 W w p S fp F hI hS hb r
    · exact inj_push1 W w p S fp F hI hS hb r
    · exact inj_push2 W w p S fp F hI hS hb r
    · exact inj_push3 W w p S fp F hI hS hb r
theorem inj_push_nil (W w : World) (cs : List Chunk) (x y b : Int) (hS : Sat W w cs) :
    Calls Try.prog 10 #[.pointer none, .agg #[.int .i64 x, .int .i64 y], .int .i64 b] w fun e w' => e = .returned (.int .i64 20) ∧ Sat W w' cs := by
  refine callsE (n := 43) Try.func10 rfl rfl (Nat.le_of_ble_eq_true rfl) ?_
  refine seqE ?_
  refine regionE ?_
  refine sBox hS (.agg #[.int .i64 x, .int .i64 y]) #[.int .i64 x, .int .i64 y] ?_
  intro b_1 w_2 hS_3
  refine p1 (by kernel_rfl) ?_
  refine nilO ?_
  refine thenK_n <| ?_
  refine seqE ?_
  refine seqE ?_
  refine regionE ?_
  refine p9 (by kernel_rfl) ?_
  refine nilO ?_
  refine thenK_n <| ?_
  refine condE_true (by kernel_rfl) ?_
  refine seqE ?_
  refine regionE ?_
  refine p1 (by kernel_rfl) ?_
  refine nilO ?_
  refine thenK_n <| ?_
  refine retE (thenK_r <| ?_)
  refine retN (vs := [.int .i64 20]) rfl (.cons (.tmp _ _ (by kernel_rfl)) .nil) <| ?_
  exact ⟨rfl, hS_3.tail⟩
theorem inj_pop (W w : World) (p : Nat) (S : Inj) (fp : Chunk) (F : List Chunk) (hI : InjR p S fp) (hS : Sat W w (fp :: F)) (hb : S.len ≤ 1000000000000) :
    Calls Try.prog 11 #[.pointer (some ⟨p, 0, none⟩)] w fun e w' => e = .returned (.tuple #[.agg #[.int .i64 S.pop.2.1.job, .int .i64 S.pop.2.1.task], .bool S.pop.2.2]) ∧ ∃ fp' : Chunk, InjR p S.pop.1 fp' ∧ Sat W w' (fp' :: F) := by
  obtain ⟨a0, n0, k0, c0, a1, n1, k1, c1, a2, n2, k2, c2, a3, n3, k3, c3, rfl, hO0, hO1, hO2, hO3⟩ := hI
  have hS0 : Sat W w ([(p, .cells #[.int .i64 S.cap, .slice a0 n0 k0, .slice a1 n1 k1, .slice a2 n2 k2, .slice a3 n3 k3] 49 (0, 0))] :: c0 :: c1 :: c2 :: c3 :: F) := hS.perm (by simp)
  have hl0 := hO0.len; have hk0 := hO0.le
  have hl1 := hO1.len; have hk1 := hO1.le
  have hl2 := hO2.len; have hk2 := hO2.le
  have hl3 := hO3.len; have hk3 := hO3.le
  unfold Inj.len at hb
  refine callsE (n := 32) Try.func11 rfl rfl (Nat.le_of_ble_eq_true rfl) ?_
  refine seqE ?_
  refine regionE ?_
  refine sAlloc hS0 Try.zeroValue33 ?_
  intro b_1 w_2 hS_3
  change Sat _ _ ([(b_1, .cells #[.int .i64 0, .int .i64 0] 33 (0, 0))] :: [(p, .cells #[.int .i64 S.cap, .slice a0 n0 k0, .slice a1 n1 k1, .slice a2 n2 k2, .slice a3 n3 k3] 49 (0, 0))] :: c0 :: c1 :: c2 :: c3 :: F) at hS_3
  refine p1 (by kernel_rfl) ?_
  refine nilO ?_
  refine thenK_n <| ?_
  refine seqE ?_
  refine seqE ?_
  refine regionE ?_
  refine p2 (by kernel_rfl) ?_
  refine nilO ?_
  refine thenK_n <| ?_
  refine condE_false (by kernel_rfl) ?_
  refine skipE ?_
  refine thenK_n <| ?_
  refine seqE ?_
  refine seqE ?_
  refine regionE ?_
  refine p3 (by kernel_rfl) ?_
  refine sLA hS_3 1 1 [.slice a0 n0 k0, .slice a1 n1 k1, .slice a2 n2 k2, .slice a3 n3 k3] (Try.isAgg47 _) (Try.sizeOf47 _) ?_
  refine p1 (by kernel_rfl) ?_
  refine nilO ?_
  refine thenK_n <| ?_
  refine blockE ?_
  refine loopN 5 ?_
  refine roundS ?_
  refine seqE ?_
  refine regionE ?_
  refine p1 (by kernel_rfl) ?_
  refine nilO ?_
  refine thenK_n <| ?_
  refine seqE ?_
  refine condE_true (by kernel_rfl) ?_
  refine skipE ?_
  refine thenK_n <| ?_
  refine seqE ?_
  refine blockE ?_
  refine seqE ?_
  refine regionE ?_
  refine p4 (by kernel_rfl) ?_
  refine nilO ?_
  refine thenK_n <| ?_
  refine seqE ?_
  refine regionE ?_
  refine p3 (by kernel_rfl) ?_
  refine nilO ?_
  refine thenK_n <| ?_
  by_cases hc_4 : (((n0 : Nat) : Int) : Int) > 0
  · refine cT (decide ((((n0 : Nat) : Int) : Int) > 0)) (decide_eq_true hc_4) ?_
    refine seqE ?_
    refine drawE [7] [] [(true, [0, 1, 2]), (true, [3]), (true, [4, 5, 6]), (false, [7])] rfl (by kernel_rfl) trivial ?_
    have hS_5 := hS_3.drew
    refine wP [0, 1, 2] rfl (by kernel_rfl) ?_
    have hP_6 := hO0.part (lo := 1) (hi := n0) (by omega) (by omega)
    refine wS (.slice (partAddr a0 k0 1 2) (n0 - 1) (k0 - 1)) rfl rfl rfl (fun w _ => Y_sl (some 1) none 1 n0 Try.runUnderlying44 Try.sizeOf33 ⟨by decide, rfl⟩ rfl (by omega) (by omega)) ?_
    refine wP [4, 5, 6] rfl (by kernel_rfl) ?_
    refine wO rfl ?_
    refine sT hS_5 1 1 (.slice (partAddr a0 k0 1 2) (n0 - 1) (k0 - 1)) [.slice (partAddr a0 k0 1 2) (n0 - 1) (k0 - 1)] #[.int .i64 S.cap, .slice (partAddr a0 k0 1 2) (n0 - 1) (k0 - 1), .slice a1 n1 k1, .slice a2 n2 k2, .slice a3 n3 k3] Try.sizeOf44 ?_
    intro w_7 hS_8
    change Sat _ _ ([(b_1, .cells #[.int .i64 0, .int .i64 0] 33 (0, 0))] :: [(p, .cells #[.int .i64 S.cap, .slice (partAddr a0 k0 1 2) (n0 - 1) (k0 - 1), .slice a1 n1 k1, .slice a2 n2 k2, .slice a3 n3 k3] 49 (0, 0))] :: c0 :: c1 :: c2 :: c3 :: F) at hS_8
    refine nilO ⟨trivial, ?_⟩
    refine wN ?_
    refine thenK_n <| ?_
    refine seqE ?_
    refine regionE ?_
    refine p1 (by kernel_rfl) ?_
    refine sIdxO hO0 0 0 Try.runUnderlying44 Try.sizeOf33 ?_
    intro x_9 b_10 o_11 hx_12 hp_13 hq_14
    refine sLpA hS_8 (hp_13.up 2 rfl) 0 [.int .i64 x_9.job, .int .i64 x_9.task] (Try.isAgg33 _) (Try.sizeOf33 _) ?_
    refine sT hS_8 0 0 (.agg #[.int .i64 x_9.job, .int .i64 x_9.task]) [.int .i64 x_9.job, .int .i64 x_9.task] #[.int .i64 x_9.job, .int .i64 x_9.task] Try.sizeOf33 ?_
    intro w_15 hS_16
    change Sat _ _ ([(b_1, .cells #[.int .i64 x_9.job, .int .i64 x_9.task] 33 (0, 0))] :: [(p, .cells #[.int .i64 S.cap, .slice (partAddr a0 k0 1 2) (n0 - 1) (k0 - 1), .slice a1 n1 k1, .slice a2 n2 k2, .slice a3 n3 k3] 49 (0, 0))] :: c0 :: c1 :: c2 :: c3 :: F) at hS_16
    refine p1 (by kernel_rfl) ?_
    refine nilO ?_
    refine thenK_n <| ?_
    refine retE (blockK_r <| thenK_r <| thenK_r <| blockK_r <| thenK_r <| ?_)
    refine retN (vs := [.agg #[.int .i64 x_9.job, .int .i64 x_9.task], .bool true]) rfl (.cons (.cell _ _ _ _ (by kernel_rfl) (lvA hS_16 0 0 [.int .i64 x_9.job, .int .i64 x_9.task] (Try.isAgg33 _) (Try.sizeOf33 _) rfl rfl rfl)) (.cons (.tmp _ _ (by kernel_rfl)) .nil)) <| ?_
    have hp := Inj.pop0  hx_12
    have hS_17 := hS_16.pick 5 rfl
    have hS_18 := hS_17.pick 5 rfl
    have hS_19 := hS_18.pick 5 rfl
    have hS_20 := hS_19.pick 5 rfl
    have hS_21 := hS_20.pick 5 rfl
    change Sat _ _ ([(p, .cells #[.int .i64 S.cap, .slice (partAddr a0 k0 1 2) (n0 - 1) (k0 - 1), .slice a1 n1 k1, .slice a2 n2 k2, .slice a3 n3 k3] 49 (0, 0))] :: c0 :: c1 :: c2 :: c3 :: [(b_1, .cells #[.int .i64 x_9.job, .int .i64 x_9.task] 33 (0, 0))] :: F) at hS_21
    have hS_22 := hS_21.dropAt 5 rfl
    change Sat _ _ ([(p, .cells #[.int .i64 S.cap, .slice (partAddr a0 k0 1 2) (n0 - 1) (k0 - 1), .slice a1 n1 k1, .slice a2 n2 k2, .slice a3 n3 k3] 49 (0, 0))] :: c0 :: c1 :: c2 :: c3 :: F) at hS_22
    have hS_23 := hS_22.merge5
    rw [hp]
    have hq := hP_6; rw [tail_part _ hl0] at hq
    exact ⟨rfl, _, ⟨_, _, _, _, _, _, _, _, _, _, _, _, _, _, _, _, rfl, hq, hO1, hO2, hO3⟩, hS_23⟩
  · refine cF (decide ((((n0 : Nat) : Int) : Int) > 0)) (decide_eq_false hc_4) ?_
    refine skipE ?_
    refine blockK_n <| thenK_n <| ?_
    refine regionE ?_
    refine p2 (by kernel_rfl) ?_
    refine nilO ?_
    refine thenK_n <| ?_
    refine roundS ?_
    refine seqE ?_
    refine regionE ?_
    refine p1 (by kernel_rfl) ?_
    refine nilO ?_
    refine thenK_n <| ?_
    refine seqE ?_
    refine condE_true (by kernel_rfl) ?_
    refine skipE ?_
    refine thenK_n <| ?_
    refine seqE ?_
    refine blockE ?_
    refine seqE ?_
    refine regionE ?_
    refine p4 (by kernel_rfl) ?_
    refine nilO ?_
    refine thenK_n <| ?_
    refine seqE ?_
    refine regionE ?_
    refine p3 (by kernel_rfl) ?_
    refine nilO ?_
    refine thenK_n <| ?_
    by_cases hc_24 : (((n1 : Nat) : Int) : Int) > 0
    · refine cT (decide ((((n1 : Nat) : Int) : Int) > 0)) (decide_eq_true hc_24) ?_
      refine seqE ?_
      refine drawE [7] [] [(true, [0, 1, 2]), (true, [3]), (true, [4, 5, 6]), (false, [7])] rfl (by kernel_rfl) trivial ?_
      have hS_25 := hS_3.drew
      refine wP [0, 1, 2] rfl (by kernel_rfl) ?_
      have hP_26 := hO1.part (lo := 1) (hi := n1) (by omega) (by omega)
      refine wS (.slice (partAddr a1 k1 1 2) (n1 - 1) (k1 - 1)) rfl rfl rfl (fun w _ => Y_sl (some 1) none 1 n1 Try.runUnderlying44 Try.sizeOf33 ⟨by decide, rfl⟩ rfl (by omega) (by omega)) ?_
      refine wP [4, 5, 6] rfl (by kernel_rfl) ?_
      refine wO rfl ?_
      refine sT hS_25 1 2 (.slice (partAddr a1 k1 1 2) (n1 - 1) (k1 - 1)) [.slice (partAddr a1 k1 1 2) (n1 - 1) (k1 - 1)] #[.int .i64 S.cap, .slice a0 n0 k0, .slice (partAddr a1 k1 1 2) (n1 - 1) (k1 - 1), .slice a2 n2 k2, .slice a3 n3 k3] Try.sizeOf44 ?_
      intro w_27 hS_28
      change Sat _ _ ([(b_1, .cells #[.int .i64 0, .int .i64 0] 33 (0, 0))] :: [(p, .cells #[.int .i64 S.cap, .slice a0 n0 k0, .slice (partAddr a1 k1 1 2) (n1 - 1) (k1 - 1), .slice a2 n2 k2, .slice a3 n3 k3] 49 (0, 0))] :: c0 :: c1 :: c2 :: c3 :: F) at hS_28
      refine nilO ⟨trivial, ?_⟩
      refine wN ?_
      refine thenK_n <| ?_
      refine seqE ?_
      refine regionE ?_
      refine p1 (by kernel_rfl) ?_
      refine sIdxO hO1 0 0 Try.runUnderlying44 Try.sizeOf33 ?_
      intro x_29 b_30 o_31 hx_32 hp_33 hq_34
      refine sLpA hS_28 (hp_33.up 3 rfl) 0 [.int .i64 x_29.job, .int .i64 x_29.task] (Try.isAgg33 _) (Try.sizeOf33 _) ?_
      refine sT hS_28 0 0 (.agg #[.int .i64 x_29.job, .int .i64 x_29.task]) [.int .i64 x_29.job, .int .i64 x_29.task] #[.int .i64 x_29.job, .int .i64 x_29.task] Try.sizeOf33 ?_
      intro w_35 hS_36
      change Sat _ _ ([(b_1, .cells #[.int .i64 x_29.job, .int .i64 x_29.task] 33 (0, 0))] :: [(p, .cells #[.int .i64 S.cap, .slice a0 n0 k0, .slice (partAddr a1 k1 1 2) (n1 - 1) (k1 - 1), .slice a2 n2 k2, .slice a3 n3 k3] 49 (0, 0))] :: c0 :: c1 :: c2 :: c3 :: F) at hS_36
      refine p1 (by kernel_rfl) ?_
      refine nilO ?_
      refine thenK_n <| ?_
      refine retE (blockK_r <| thenK_r <| thenK_r <| blockK_r <| thenK_r <| ?_)
      refine retN (vs := [.agg #[.int .i64 x_29.job, .int .i64 x_29.task], .bool true]) rfl (.cons (.cell _ _ _ _ (by kernel_rfl) (lvA hS_36 0 0 [.int .i64 x_29.job, .int .i64 x_29.task] (Try.isAgg33 _) (Try.sizeOf33 _) rfl rfl rfl)) (.cons (.tmp _ _ (by kernel_rfl)) .nil)) <| ?_
      have hp := Inj.pop1 (Inj.nil_of hl0 hc_4) hx_32
      have hS_37 := hS_36.pick 5 rfl
      have hS_38 := hS_37.pick 5 rfl
      have hS_39 := hS_38.pick 5 rfl
      have hS_40 := hS_39.pick 5 rfl
      have hS_41 := hS_40.pick 5 rfl
      change Sat _ _ ([(p, .cells #[.int .i64 S.cap, .slice a0 n0 k0, .slice (partAddr a1 k1 1 2) (n1 - 1) (k1 - 1), .slice a2 n2 k2, .slice a3 n3 k3] 49 (0, 0))] :: c0 :: c1 :: c2 :: c3 :: [(b_1, .cells #[.int .i64 x_29.job, .int .i64 x_29.task] 33 (0, 0))] :: F) at hS_41
      have hS_42 := hS_41.dropAt 5 rfl
      change Sat _ _ ([(p, .cells #[.int .i64 S.cap, .slice a0 n0 k0, .slice (partAddr a1 k1 1 2) (n1 - 1) (k1 - 1), .slice a2 n2 k2, .slice a3 n3 k3] 49 (0, 0))] :: c0 :: c1 :: c2 :: c3 :: F) at hS_42
      have hS_43 := hS_42.merge5
      rw [hp]
      have hq := hP_26; rw [tail_part _ hl1] at hq
      exact ⟨rfl, _, ⟨_, _, _, _, _, _, _, _, _, _, _, _, _, _, _, _, rfl, hO0, hq, hO2, hO3⟩, hS_43⟩
    · refine cF (decide ((((n1 : Nat) : Int) : Int) > 0)) (decide_eq_false hc_24) ?_
      refine skipE ?_
      refine blockK_n <| thenK_n <| ?_
      refine regionE ?_
      refine p2 (by kernel_rfl) ?_
      refine nilO ?_
      refine thenK_n <| ?_
      refine roundS ?_
      refine seqE ?_
      refine regionE ?_
      refine p1 (by kernel_rfl) ?_
      refine nilO ?_
      refine thenK_n <| ?_
      refine seqE ?_
      refine condE_true (by kernel_rfl) ?_
      refine skipE ?_
      refine thenK_n <| ?_
      refine seqE ?_
      refine blockE ?_
      refine seqE ?_
      refine regionE ?_
      refine p4 (by kernel_rfl) ?_
      refine nilO ?_
      refine thenK_n <| ?_
      refine seqE ?_
      refine regionE ?_
      refine p3 (by kernel_rfl) ?_
      refine nilO ?_
      refine thenK_n <| ?_
      by_cases hc_44 : (((n2 : Nat) : Int) : Int) > 0
      · refine cT (decide ((((n2 : Nat) : Int) : Int) > 0)) (decide_eq_true hc_44) ?_
        refine seqE ?_
        refine drawE [7] [] [(true, [0, 1, 2]), (true, [3]), (true, [4, 5, 6]), (false, [7])] rfl (by kernel_rfl) trivial ?_
        have hS_45 := hS_3.drew
        refine wP [0, 1, 2] rfl (by kernel_rfl) ?_
        have hP_46 := hO2.part (lo := 1) (hi := n2) (by omega) (by omega)
        refine wS (.slice (partAddr a2 k2 1 2) (n2 - 1) (k2 - 1)) rfl rfl rfl (fun w _ => Y_sl (some 1) none 1 n2 Try.runUnderlying44 Try.sizeOf33 ⟨by decide, rfl⟩ rfl (by omega) (by omega)) ?_
        refine wP [4, 5, 6] rfl (by kernel_rfl) ?_
        refine wO rfl ?_
        refine sT hS_45 1 3 (.slice (partAddr a2 k2 1 2) (n2 - 1) (k2 - 1)) [.slice (partAddr a2 k2 1 2) (n2 - 1) (k2 - 1)] #[.int .i64 S.cap, .slice a0 n0 k0, .slice a1 n1 k1, .slice (partAddr a2 k2 1 2) (n2 - 1) (k2 - 1), .slice a3 n3 k3] Try.sizeOf44 ?_
        intro w_47 hS_48
        change Sat _ _ ([(b_1, .cells #[.int .i64 0, .int .i64 0] 33 (0, 0))] :: [(p, .cells #[.int .i64 S.cap, .slice a0 n0 k0, .slice a1 n1 k1, .slice (partAddr a2 k2 1 2) (n2 - 1) (k2 - 1), .slice a3 n3 k3] 49 (0, 0))] :: c0 :: c1 :: c2 :: c3 :: F) at hS_48
        refine nilO ⟨trivial, ?_⟩
        refine wN ?_
        refine thenK_n <| ?_
        refine seqE ?_
        refine regionE ?_
        refine p1 (by kernel_rfl) ?_
        refine sIdxO hO2 0 0 Try.runUnderlying44 Try.sizeOf33 ?_
        intro x_49 b_50 o_51 hx_52 hp_53 hq_54
        refine sLpA hS_48 (hp_53.up 4 rfl) 0 [.int .i64 x_49.job, .int .i64 x_49.task] (Try.isAgg33 _) (Try.sizeOf33 _) ?_
        refine sT hS_48 0 0 (.agg #[.int .i64 x_49.job, .int .i64 x_49.task]) [.int .i64 x_49.job, .int .i64 x_49.task] #[.int .i64 x_49.job, .int .i64 x_49.task] Try.sizeOf33 ?_
        intro w_55 hS_56
        change Sat _ _ ([(b_1, .cells #[.int .i64 x_49.job, .int .i64 x_49.task] 33 (0, 0))] :: [(p, .cells #[.int .i64 S.cap, .slice a0 n0 k0, .slice a1 n1 k1, .slice (partAddr a2 k2 1 2) (n2 - 1) (k2 - 1), .slice a3 n3 k3] 49 (0, 0))] :: c0 :: c1 :: c2 :: c3 :: F) at hS_56
        refine p1 (by kernel_rfl) ?_
        refine nilO ?_
        refine thenK_n <| ?_
        refine retE (blockK_r <| thenK_r <| thenK_r <| blockK_r <| thenK_r <| ?_)
        refine retN (vs := [.agg #[.int .i64 x_49.job, .int .i64 x_49.task], .bool true]) rfl (.cons (.cell _ _ _ _ (by kernel_rfl) (lvA hS_56 0 0 [.int .i64 x_49.job, .int .i64 x_49.task] (Try.isAgg33 _) (Try.sizeOf33 _) rfl rfl rfl)) (.cons (.tmp _ _ (by kernel_rfl)) .nil)) <| ?_
        have hp := Inj.pop2 (Inj.nil_of hl0 hc_4) (Inj.nil_of hl1 hc_24) hx_52
        have hS_57 := hS_56.pick 5 rfl
        have hS_58 := hS_57.pick 5 rfl
        have hS_59 := hS_58.pick 5 rfl
        have hS_60 := hS_59.pick 5 rfl
        have hS_61 := hS_60.pick 5 rfl
        change Sat _ _ ([(p, .cells #[.int .i64 S.cap, .slice a0 n0 k0, .slice a1 n1 k1, .slice (partAddr a2 k2 1 2) (n2 - 1) (k2 - 1), .slice a3 n3 k3] 49 (0, 0))] :: c0 :: c1 :: c2 :: c3 :: [(b_1, .cells #[.int .i64 x_49.job, .int .i64 x_49.task] 33 (0, 0))] :: F) at hS_61
        have hS_62 := hS_61.dropAt 5 rfl
        change Sat _ _ ([(p, .cells #[.int .i64 S.cap, .slice a0 n0 k0, .slice a1 n1 k1, .slice (partAddr a2 k2 1 2) (n2 - 1) (k2 - 1), .slice a3 n3 k3] 49 (0, 0))] :: c0 :: c1 :: c2 :: c3 :: F) at hS_62
        have hS_63 := hS_62.merge5
        rw [hp]
        have hq := hP_46; rw [tail_part _ hl2] at hq
        exact ⟨rfl, _, ⟨_, _, _, _, _, _, _, _, _, _, _, _, _, _, _, _, rfl, hO0, hO1, hq, hO3⟩, hS_63⟩
      · refine cF (decide ((((n2 : Nat) : Int) : Int) > 0)) (decide_eq_false hc_44) ?_
        refine skipE ?_
        refine blockK_n <| thenK_n <| ?_
        refine regionE ?_
        refine p2 (by kernel_rfl) ?_
        refine nilO ?_
        refine thenK_n <| ?_
        refine roundS ?_
        refine seqE ?_
        refine regionE ?_
        refine p1 (by kernel_rfl) ?_
        refine nilO ?_
        refine thenK_n <| ?_
        refine seqE ?_
        refine condE_true (by kernel_rfl) ?_
        refine skipE ?_
        refine thenK_n <| ?_
        refine seqE ?_
        refine blockE ?_
        refine seqE ?_
        refine regionE ?_
        refine p4 (by kernel_rfl) ?_
        refine nilO ?_
        refine thenK_n <| ?_
        refine seqE ?_
        refine regionE ?_
        refine p3 (by kernel_rfl) ?_
        refine nilO ?_
        refine thenK_n <| ?_
        by_cases hc_64 : (((n3 : Nat) : Int) : Int) > 0
        · refine cT (decide ((((n3 : Nat) : Int) : Int) > 0)) (decide_eq_true hc_64) ?_
          refine seqE ?_
          refine drawE [7] [] [(true, [0, 1, 2]), (true, [3]), (true, [4, 5, 6]), (false, [7])] rfl (by kernel_rfl) trivial ?_
          have hS_65 := hS_3.drew
          refine wP [0, 1, 2] rfl (by kernel_rfl) ?_
          have hP_66 := hO3.part (lo := 1) (hi := n3) (by omega) (by omega)
          refine wS (.slice (partAddr a3 k3 1 2) (n3 - 1) (k3 - 1)) rfl rfl rfl (fun w _ => Y_sl (some 1) none 1 n3 Try.runUnderlying44 Try.sizeOf33 ⟨by decide, rfl⟩ rfl (by omega) (by omega)) ?_
          refine wP [4, 5, 6] rfl (by kernel_rfl) ?_
          refine wO rfl ?_
          refine sT hS_65 1 4 (.slice (partAddr a3 k3 1 2) (n3 - 1) (k3 - 1)) [.slice (partAddr a3 k3 1 2) (n3 - 1) (k3 - 1)] #[.int .i64 S.cap, .slice a0 n0 k0, .slice a1 n1 k1, .slice a2 n2 k2, .slice (partAddr a3 k3 1 2) (n3 - 1) (k3 - 1)] Try.sizeOf44 ?_
          intro w_67 hS_68
          change Sat _ _ ([(b_1, .cells #[.int .i64 0, .int .i64 0] 33 (0, 0))] :: [(p, .cells #[.int .i64 S.cap, .slice a0 n0 k0, .slice a1 n1 k1, .slice a2 n2 k2, .slice (partAddr a3 k3 1 2) (n3 - 1) (k3 - 1)] 49 (0, 0))] :: c0 :: c1 :: c2 :: c3 :: F) at hS_68
          refine nilO ⟨trivial, ?_⟩
          refine wN ?_
          refine thenK_n <| ?_
          refine seqE ?_
          refine regionE ?_
          refine p1 (by kernel_rfl) ?_
          refine sIdxO hO3 0 0 Try.runUnderlying44 Try.sizeOf33 ?_
          intro x_69 b_70 o_71 hx_72 hp_73 hq_74
          refine sLpA hS_68 (hp_73.up 5 rfl) 0 [.int .i64 x_69.job, .int .i64 x_69.task] (Try.isAgg33 _) (Try.sizeOf33 _) ?_
          refine sT hS_68 0 0 (.agg #[.int .i64 x_69.job, .int .i64 x_69.task]) [.int .i64 x_69.job, .int .i64 x_69.task] #[.int .i64 x_69.job, .int .i64 x_69.task] Try.sizeOf33 ?_
          intro w_75 hS_76
          change Sat _ _ ([(b_1, .cells #[.int .i64 x_69.job, .int .i64 x_69.task] 33 (0, 0))] :: [(p, .cells #[.int .i64 S.cap, .slice a0 n0 k0, .slice a1 n1 k1, .slice a2 n2 k2, .slice (partAddr a3 k3 1 2) (n3 - 1) (k3 - 1)] 49 (0, 0))] :: c0 :: c1 :: c2 :: c3 :: F) at hS_76
          refine p1 (by kernel_rfl) ?_
          refine nilO ?_
          refine thenK_n <| ?_
          refine retE (blockK_r <| thenK_r <| thenK_r <| blockK_r <| thenK_r <| ?_)
          refine retN (vs := [.agg #[.int .i64 x_69.job, .int .i64 x_69.task], .bool true]) rfl (.cons (.cell _ _ _ _ (by kernel_rfl) (lvA hS_76 0 0 [.int .i64 x_69.job, .int .i64 x_69.task] (Try.isAgg33 _) (Try.sizeOf33 _) rfl rfl rfl)) (.cons (.tmp _ _ (by kernel_rfl)) .nil)) <| ?_
          have hp := Inj.pop3 (Inj.nil_of hl0 hc_4) (Inj.nil_of hl1 hc_24) (Inj.nil_of hl2 hc_44) hx_72
          have hS_77 := hS_76.pick 5 rfl
          have hS_78 := hS_77.pick 5 rfl
          have hS_79 := hS_78.pick 5 rfl
          have hS_80 := hS_79.pick 5 rfl
          have hS_81 := hS_80.pick 5 rfl
          change Sat _ _ ([(p, .cells #[.int .i64 S.cap, .slice a0 n0 k0, .slice a1 n1 k1, .slice a2 n2 k2, .slice (partAddr a3 k3 1 2) (n3 - 1) (k3 - 1)] 49 (0, 0))] :: c0 :: c1 :: c2 :: c3 :: [(b_1, .cells #[.int .i64 x_69.job, .int .i64 x_69.task] 33 (0, 0))] :: F) at hS_81
          have hS_82 := hS_81.dropAt 5 rfl
          change Sat _ _ ([(p, .cells #[.int .i64 S.cap, .slice a0 n0 k0, .slice a1 n1 k1, .slice a2 n2 k2, .slice (partAddr a3 k3 1 2) (n3 - 1) (k3 - 1)] 49 (0, 0))] :: c0 :: c1 :: c2 :: c3 :: F) at hS_82
          have hS_83 := hS_82.merge5
          rw [hp]
          have hq := hP_66; rw [tail_part _ hl3] at hq
          exact ⟨rfl, _, ⟨_, _, _, _, _, _, _, _, _, _, _, _, _, _, _, _, rfl, hO0, hO1, hO2, hq⟩, hS_83⟩
        · refine cF (decide ((((n3 : Nat) : Int) : Int) > 0)) (decide_eq_false hc_64) ?_
          refine skipE ?_
          refine blockK_n <| thenK_n <| ?_
          refine regionE ?_
          refine p2 (by kernel_rfl) ?_
          refine nilO ?_
          refine thenK_n <| ?_
          refine roundS ?_
          refine seqE ?_
          refine regionE ?_
          refine p1 (by kernel_rfl) ?_
          refine nilO ?_
          refine thenK_n <| ?_
          refine seqE ?_
          refine condE_false (by kernel_rfl) ?_
          refine exitE (thenK_x <| thenK_x <| blockK_x <| ?_)
          refine thenK_n <| ?_
          refine seqE ?_
          refine regionE ?_
          refine p1 (by kernel_rfl) ?_
          refine sT hS_3 0 0 (.agg #[.int .i64 0, .int .i64 0]) [.int .i64 0, .int .i64 0] #[.int .i64 0, .int .i64 0] Try.sizeOf33 ?_
          intro w_84 hS_85
          change Sat _ _ ([(b_1, .cells #[.int .i64 0, .int .i64 0] 33 (0, 0))] :: [(p, .cells #[.int .i64 S.cap, .slice a0 n0 k0, .slice a1 n1 k1, .slice a2 n2 k2, .slice a3 n3 k3] 49 (0, 0))] :: c0 :: c1 :: c2 :: c3 :: F) at hS_85
          refine p1 (by kernel_rfl) ?_
          refine nilO ?_
          refine thenK_n <| ?_
          refine retE ?_
          refine retN (vs := [.agg #[.int .i64 0, .int .i64 0], .bool false]) rfl (.cons (.cell _ _ _ _ (by kernel_rfl) (lvA hS_85 0 0 [.int .i64 0, .int .i64 0] (Try.isAgg33 _) (Try.sizeOf33 _) rfl rfl rfl)) (.cons (.tmp _ _ (by kernel_rfl)) .nil)) <| ?_
          have hp := Inj.popn (Inj.nil_of hl0 hc_4) (Inj.nil_of hl1 hc_24) (Inj.nil_of hl2 hc_44) (Inj.nil_of hl3 hc_64)
          have hS_86 := hS_85.pick 5 rfl
          have hS_87 := hS_86.pick 5 rfl
          have hS_88 := hS_87.pick 5 rfl
          have hS_89 := hS_88.pick 5 rfl
          have hS_90 := hS_89.pick 5 rfl
          change Sat _ _ ([(p, .cells #[.int .i64 S.cap, .slice a0 n0 k0, .slice a1 n1 k1, .slice a2 n2 k2, .slice a3 n3 k3] 49 (0, 0))] :: c0 :: c1 :: c2 :: c3 :: [(b_1, .cells #[.int .i64 0, .int .i64 0] 33 (0, 0))] :: F) at hS_90
          have hS_91 := hS_90.dropAt 5 rfl
          change Sat _ _ ([(p, .cells #[.int .i64 S.cap, .slice a0 n0 k0, .slice a1 n1 k1, .slice a2 n2 k2, .slice a3 n3 k3] 49 (0, 0))] :: c0 :: c1 :: c2 :: c3 :: F) at hS_91
          have hS_92 := hS_91.merge5
          rw [hp]
          exact ⟨rfl, _, ⟨_, _, _, _, _, _, _, _, _, _, _, _, _, _, _, _, rfl, hO0, hO1, hO2, hO3⟩, hS_92⟩
theorem inj_pop_nil (W w : World) (cs : List Chunk) (hS : Sat W w cs) :
    Calls Try.prog 11 #[.pointer none] w fun e w' => e = .returned (.tuple #[.agg #[.int .i64 0, .int .i64 0], .bool false]) ∧ Sat W w' cs := by
  refine callsE (n := 32) Try.func11 rfl rfl (Nat.le_of_ble_eq_true rfl) ?_
  refine seqE ?_
  refine regionE ?_
  refine sAlloc hS Try.zeroValue33 ?_
  intro b_1 w_2 hS_3
  change Sat _ _ ([(b_1, .cells #[.int .i64 0, .int .i64 0] 33 (0, 0))] :: cs) at hS_3
  refine p1 (by kernel_rfl) ?_
  refine nilO ?_
  refine thenK_n <| ?_
  refine seqE ?_
  refine seqE ?_
  refine regionE ?_
  refine p2 (by kernel_rfl) ?_
  refine nilO ?_
  refine thenK_n <| ?_
  refine condE_true (by kernel_rfl) ?_
  refine seqE ?_
  refine regionE ?_
  refine p1 (by kernel_rfl) ?_
  refine sT hS_3 0 0 (.agg #[.int .i64 0, .int .i64 0]) [.int .i64 0, .int .i64 0] #[.int .i64 0, .int .i64 0] Try.sizeOf33 ?_
  intro w_4 hS_5
  change Sat _ _ ([(b_1, .cells #[.int .i64 0, .int .i64 0] 33 (0, 0))] :: cs) at hS_5
  refine p1 (by kernel_rfl) ?_
  refine nilO ?_
  refine thenK_n <| ?_
  refine retE (thenK_r <| ?_)
  refine retN (vs := [.agg #[.int .i64 0, .int .i64 0], .bool false]) rfl (.cons (.cell _ _ _ _ (by kernel_rfl) (lvA hS_5 0 0 [.int .i64 0, .int .i64 0] (Try.isAgg33 _) (Try.sizeOf33 _) rfl rfl rfl)) (.cons (.tmp _ _ (by kernel_rfl)) .nil)) <| ?_
  exact ⟨rfl, hS_5.tail⟩
theorem rnj_len (W w : World) (p : Nat) (S : Inj) (fp : Chunk) (F : List Chunk) (hI : InjR2 p S fp) (hS : Sat W w (fp :: F)) (hb : S.len ≤ 1000000000000) :
    Calls Try.prog 24 #[.pointer (some ⟨p, 0, none⟩)] w fun e w' => e = .returned (.int .i64 ((S.len : Nat) : Int)) ∧ w' = w := by
  obtain ⟨a0, n0, k0, c0, a1, n1, k1, c1, a2, n2, k2, c2, a3, n3, k3, c3, rfl, hO0, hO1, hO2, hO3⟩ := hI
  have hS0 : Sat W w ([(p, .cells #[.int .i64 S.cap, .slice a0 n0 k0, .slice a1 n1 k1, .slice a2 n2 k2, .slice a3 n3 k3] 54 (0, 0))] :: c0 :: c1 :: c2 :: c3 :: F) := hS.perm (by simp)
  have hl0 := hO0.len; have hk0 := hO0.le
  have hl1 := hO1.len; have hk1 := hO1.le
  have hl2 := hO2.len; have hk2 := hO2.le
  have hl3 := hO3.len; have hk3 := hO3.le
  unfold Inj.len at hb
  refine callsE (n := 23) Try.func24 rfl rfl (Nat.le_of_ble_eq_true rfl) ?_
  refine seqE ?_
  refine regionE ?_
  refine p1 (by kernel_rfl) ?_
  refine nilO ?_
  refine thenK_n <| ?_
  refine seqE ?_
  refine regionE ?_
  refine p1 (by kernel_rfl) ?_
  refine nilO ?_
  refine thenK_n <| ?_
  refine seqE ?_
  refine seqE ?_
  refine regionE ?_
  refine p1 (by kernel_rfl) ?_
  refine nilO ?_
  refine thenK_n <| ?_
  refine blockE ?_
  refine loopN 5 ?_
  refine roundS ?_
  refine seqE ?_
  refine seqE ?_
  refine regionE ?_
  refine p6 (by kernel_rfl) ?_
  refine nilO ?_
  refine thenK_n <| ?_
  refine condE_true (by kernel_rfl) ?_
  refine skipE ?_
  refine thenK_n <| ?_
  refine seqE ?_
  refine blockE ?_
  refine regionE ?_
  refine p6 (by kernel_rfl) ?_
  refine sL hS0 0 1 (.slice a0 n0 k0) (Try.isAgg44 _) ?_
  refine p1 (by kernel_rfl) ?_
  refine sAdd 0 ((n0 : Nat) : Int) ?_
  refine p1 (by kernel_rfl) ?_
  refine nilO ?_
  refine blockK_n <| thenK_n <| ?_
  refine regionE ?_
  refine p3 (by kernel_rfl) ?_
  refine nilO ?_
  refine thenK_n <| ?_
  refine roundS ?_
  refine seqE ?_
  refine seqE ?_
  refine regionE ?_
  refine p6 (by kernel_rfl) ?_
  refine nilO ?_
  refine thenK_n <| ?_
  refine condE_true (by kernel_rfl) ?_
  refine skipE ?_
  refine thenK_n <| ?_
  refine seqE ?_
  refine blockE ?_
  refine regionE ?_
  refine p6 (by kernel_rfl) ?_
  refine sL hS0 0 2 (.slice a1 n1 k1) (Try.isAgg44 _) ?_
  refine p1 (by kernel_rfl) ?_
  refine sAdd (0 + ((n0 : Nat) : Int)) ((n1 : Nat) : Int) ?_
  refine p1 (by kernel_rfl) ?_
  refine nilO ?_
  refine blockK_n <| thenK_n <| ?_
  refine regionE ?_
  refine p3 (by kernel_rfl) ?_
  refine nilO ?_
  refine thenK_n <| ?_
  refine roundS ?_
  refine seqE ?_
  refine seqE ?_
  refine regionE ?_
  refine p6 (by kernel_rfl) ?_
  refine nilO ?_
  refine thenK_n <| ?_
  refine condE_true (by kernel_rfl) ?_
  refine skipE ?_
  refine thenK_n <| ?_
  refine seqE ?_
  refine blockE ?_
  refine regionE ?_
  refine p6 (by kernel_rfl) ?_
  refine sL hS0 0 3 (.slice a2 n2 k2) (Try.isAgg44 _) ?_
  refine p1 (by kernel_rfl) ?_
  refine sAdd ((0 + ((n0 : Nat) : Int)) + ((n1 : Nat) : Int)) ((n2 : Nat) : Int) ?_
  refine p1 (by kernel_rfl) ?_
  refine nilO ?_
  refine blockK_n <| thenK_n <| ?_
  refine regionE ?_
  refine p3 (by kernel_rfl) ?_
  refine nilO ?_
  refine thenK_n <| ?_
  refine roundS ?_
  refine seqE ?_
  refine seqE ?_
  refine regionE ?_
  refine p6 (by kernel_rfl) ?_
  refine nilO ?_
  refine thenK_n <| ?_
  refine condE_true (by kernel_rfl) ?_
  refine skipE ?_
  refine thenK_n <| ?_
  refine seqE ?_
  refine blockE ?_
  refine regionE ?_
  refine p6 (by kernel_rfl) ?_
  refine sL hS0 0 4 (.slice a3 n3 k3) (Try.isAgg44 _) ?_
  refine p1 (by kernel_rfl) ?_
  refine sAdd (((0 + ((n0 : Nat) : Int)) + ((n1 : Nat) : Int)) + ((n2 : Nat) : Int)) ((n3 : Nat) : Int) ?_
  refine p1 (by kernel_rfl) ?_
  refine nilO ?_
  refine blockK_n <| thenK_n <| ?_
  refine regionE ?_
  refine p3 (by kernel_rfl) ?_
  refine nilO ?_
  refine thenK_n <| ?_
  refine roundS ?_
  refine seqE ?_
  refine seqE ?_
  refine regionE ?_
  refine p6 (by kernel_rfl) ?_
  refine nilO ?_
  refine thenK_n <| ?_
  refine condE_false (by kernel_rfl) ?_
  refine exitE (thenK_x <| thenK_x <| blockK_x <| ?_)
  refine thenK_n <| ?_
  refine seqE ?_
  refine regionE ?_
  refine p2 (by kernel_rfl) ?_
  refine nilO ?_
  refine thenK_n <| ?_
  refine retE ?_
  refine retN (vs := [.int .i64 ((((0 + ((n0 : Nat) : Int)) + ((n1 : Nat) : Int)) + ((n2 : Nat) : Int)) + ((n3 : Nat) : Int))]) rfl (.cons (.tmp _ _ (by kernel_rfl)) .nil) <| ?_
  exact ⟨by simp only [packed]; congr 2; simp only [Inj.len]; omega, rfl⟩
theorem rnj_len_nil (w : World) :
    Calls Try.prog 24 #[.pointer none] w fun e w' => e = .returned (.int .i64 0) ∧ w' = w := by
  refine callsE (n := 23) Try.func24 rfl rfl (Nat.le_of_ble_eq_true rfl) ?_
  refine seqE ?_
  refine regionE ?_
  refine p1 (by kernel_rfl) ?_
  refine nilO ?_
  refine thenK_n <| ?_
  refine seqE ?_
  refine regionE ?_
  refine p1 (by kernel_rfl) ?_
  refine nilO ?_
  refine thenK_n <| ?_
  refine seqE ?_
  refine seqE ?_
  refine regionE ?_
  refine p1 (by kernel_rfl) ?_
  refine nilO ?_
  refine thenK_n <| ?_
  refine blockE ?_
  refine loopN 5 ?_
  refine roundS ?_
  refine seqE ?_
  refine seqE ?_
  refine regionE ?_
  refine p6 (by kernel_rfl) ?_
  refine nilO ?_
  refine thenK_n <| ?_
  refine condE_false (by kernel_rfl) ?_
  refine exitE (thenK_x <| thenK_x <| blockK_x <| ?_)
  refine thenK_n <| ?_
  refine seqE ?_
  refine regionE ?_
  refine p2 (by kernel_rfl) ?_
  refine nilO ?_
  refine thenK_n <| ?_
  refine retE ?_
  refine retN (vs := [.int .i64 0]) rfl (.cons (.tmp _ _ (by kernel_rfl)) .nil) <| ?_
  exact ⟨rfl, rfl⟩
theorem rnj_new (W w : World) (cs : List Chunk) (cap : Int) (hc : 1 ≤ cap ∧ cap ≤ 4096) (hS : Sat W w cs) :
    Calls Try.prog 14 #[.int .i64 cap] w fun e w' => ∃ p : Nat, e = .returned (.tuple #[.pointer (some ⟨p, 0, none⟩), .int .i64 0]) ∧ ∃ fp : Chunk, InjR2 p ⟨cap, [], [], [], []⟩ fp ∧ Sat W w' (fp :: cs) := by
  refine callsE (n := 13) Try.func14 rfl rfl (Nat.le_of_ble_eq_true rfl) ?_
  refine seqE ?_
  refine regionE ?_
  refine p2 (by kernel_rfl) ?_
  refine nilO ?_
  refine thenK_n <| ?_
  refine seqE ?_
  refine seqE ?_
  refine regionE ?_
  refine p3 (by kernel_rfl) ?_
  have hc_1 : ¬ ((cap : Int) < 1) := by omega
  refine sFix 6 (decide ((cap : Int) < 1)) false (decide_eq_false hc_1) ?_
  refine p3 (by kernel_rfl) ?_
  refine nilO ?_
  refine thenK_n <| ?_
  have hc_2 : ¬ ((cap : Int) > 4096) := by omega
  refine cF (decide ((cap : Int) > 4096)) (decide_eq_false hc_2) ?_
  refine skipE ?_
  refine thenK_n <| ?_
  refine seqE ?_
  refine regionE ?_
  refine p2 (by kernel_rfl) ?_
  refine sBox hS (.agg #[.int .i64 cap, .slice none 0 0, .slice none 0 0, .slice none 0 0, .slice none 0 0]) #[.int .i64 cap, .slice none 0 0, .slice none 0 0, .slice none 0 0, .slice none 0 0] ?_
  intro b_3 w_4 hS_5
  refine p2 (by kernel_rfl) ?_
  refine nilO ?_
  refine thenK_n <| ?_
  refine retE ?_
  refine retN (vs := [.pointer (some ⟨b_3, 0, none⟩), .int .i64 0]) rfl (.cons (.tmp _ _ (by kernel_rfl)) (.cons (.tmp _ _ (by kernel_rfl)) .nil)) <| ?_
  exact ⟨_, rfl, _, ⟨_, _, _, [], _, _, _, [], _, _, _, [], _, _, _, [], rfl, OwnT.nil (fun _ => rfl), OwnT.nil (fun _ => rfl), OwnT.nil (fun _ => rfl), OwnT.nil (fun _ => rfl)⟩, hS_5⟩
theorem rnj_new_bad (W w : World) (cs : List Chunk) (cap : Int) (hc : ¬ (1 ≤ cap ∧ cap ≤ 4096)) (hS : Sat W w cs) :
    Calls Try.prog 14 #[.int .i64 cap] w fun e w' => e = .returned (.tuple #[.pointer none, .int .i64 2]) ∧ Sat W w' cs := by
  refine callsE (n := 13) Try.func14 rfl rfl (Nat.le_of_ble_eq_true rfl) ?_
  refine seqE ?_
  refine regionE ?_
  refine p2 (by kernel_rfl) ?_
  refine nilO ?_
  refine thenK_n <| ?_
  refine seqE ?_
  refine seqE ?_
  refine regionE ?_
  refine p3 (by kernel_rfl) ?_
  by_cases hc_1 : (cap : Int) < 1
  · refine sFix 6 (decide ((cap : Int) < 1)) true (decide_eq_true hc_1) ?_
    refine p3 (by kernel_rfl) ?_
    refine nilO ?_
    refine thenK_n <| ?_
    refine condE_true (by kernel_rfl) ?_
    refine seqE ?_
    refine regionE ?_
    refine p2 (by kernel_rfl) ?_
    refine nilO ?_
    refine thenK_n <| ?_
    refine retE (thenK_r <| ?_)
    refine retN (vs := [.pointer none, .int .i64 2]) rfl (.cons (.tmp _ _ (by kernel_rfl)) (.cons (.tmp _ _ (by kernel_rfl)) .nil)) <| ?_
    exact ⟨rfl, hS⟩
  · refine sFix 6 (decide ((cap : Int) < 1)) false (decide_eq_false hc_1) ?_
    refine p3 (by kernel_rfl) ?_
    refine nilO ?_
    refine thenK_n <| ?_
    by_cases hc_2 : (cap : Int) > 4096
    · refine cT (decide ((cap : Int) > 4096)) (decide_eq_true hc_2) ?_
      refine seqE ?_
      refine regionE ?_
      refine p2 (by kernel_rfl) ?_
      refine nilO ?_
      refine thenK_n <| ?_
      refine retE (thenK_r <| ?_)
      refine retN (vs := [.pointer none, .int .i64 2]) rfl (.cons (.tmp _ _ (by kernel_rfl)) (.cons (.tmp _ _ (by kernel_rfl)) .nil)) <| ?_
      exact ⟨rfl, hS⟩
    · refine cF (decide ((cap : Int) > 4096)) (decide_eq_false hc_2) ?_
      refine skipE ?_
      refine thenK_n <| ?_
      refine seqE ?_
      refine regionE ?_
      refine p2 (by kernel_rfl) ?_
      refine sBox hS (.agg #[.int .i64 cap, .slice none 0 0, .slice none 0 0, .slice none 0 0, .slice none 0 0]) #[.int .i64 cap, .slice none 0 0, .slice none 0 0, .slice none 0 0, .slice none 0 0] ?_
      intro b_3 w_4 hS_5
      refine p2 (by kernel_rfl) ?_
      refine nilO ?_
      refine thenK_n <| ?_
      refine retE ?_
      refine retN (vs := [.pointer (some ⟨b_3, 0, none⟩), .int .i64 0]) rfl (.cons (.tmp _ _ (by kernel_rfl)) (.cons (.tmp _ _ (by kernel_rfl)) .nil)) <| ?_
      exact absurd trivial (by omega)
theorem rnj_push0 (W w : World) (p : Nat) (S : Inj) (fp : Chunk) (F : List Chunk) (hI : InjR2 p S fp) (hS : Sat W w (fp :: F)) (hb : S.len ≤ 1000000000000) (r : Ref) :
    Calls Try.prog 17 #[.pointer (some ⟨p, 0, none⟩), .agg #[.int .i64 r.job, .int .i64 r.task], .int .i64 0] w fun e w' => e = .returned (.int .i64 (S.pushCode 0)) ∧ ∃ fp' : Chunk, InjR2 p (S.push r 0) fp' ∧ Sat W w' (fp' :: F) := by
  obtain ⟨a0, n0, k0, c0, a1, n1, k1, c1, a2, n2, k2, c2, a3, n3, k3, c3, rfl, hO0, hO1, hO2, hO3⟩ := hI
  have hS0 : Sat W w ([(p, .cells #[.int .i64 S.cap, .slice a0 n0 k0, .slice a1 n1 k1, .slice a2 n2 k2, .slice a3 n3 k3] 54 (0, 0))] :: c0 :: c1 :: c2 :: c3 :: F) := hS.perm (by simp)
  have hl0 := hO0.len; have hk0 := hO0.le
  have hl1 := hO1.len; have hk1 := hO1.le
  have hl2 := hO2.len; have hk2 := hO2.le
  have hl3 := hO3.len; have hk3 := hO3.le
  unfold Inj.len at hb
  refine callsE (n := 43) Try.func17 rfl rfl (Nat.le_of_ble_eq_true rfl) ?_
  refine seqE ?_
  refine regionE ?_
  refine sBox hS0 (.agg #[.int .i64 r.job, .int .i64 r.task]) #[.int .i64 r.job, .int .i64 r.task] ?_
  intro b_1 w_2 hS_3
  refine p1 (by kernel_rfl) ?_
  refine nilO ?_
  refine thenK_n <| ?_
  refine seqE ?_
  refine seqE ?_
  refine regionE ?_
  refine p6 (by kernel_rfl) ?_
  refine guardYes rfl ⟨_, rfl, rfl, by kernel_rfl⟩ ?_
  refine sL hS_3 1 0 (.int .i64 S.cap) (Try.isAgg3 _) ?_
  refine p2 (by kernel_rfl) ?_
  refine nilO ?_
  refine thenK_n <| ?_
  by_cases hc_4 : (S.cap : Int) = 0
  · refine cT ((S.cap : Int) == 0) (beq_iff_eq.2 hc_4) ?_
    refine seqE ?_
    refine regionE ?_
    refine p1 (by kernel_rfl) ?_
    refine nilO ?_
    refine thenK_n <| ?_
    refine retE (thenK_r <| ?_)
    refine retN (vs := [.int .i64 20]) rfl (.cons (.tmp _ _ (by kernel_rfl)) .nil) <| ?_
    have hp : S.pushCode 0 = 20 := by unfold Inj.pushCode; (repeat' split) <;> omega
    have hS_5 := hS_3.pick 5 rfl
    have hS_6 := hS_5.pick 5 rfl
    have hS_7 := hS_6.pick 5 rfl
    have hS_8 := hS_7.pick 5 rfl
    have hS_9 := hS_8.pick 5 rfl
    change Sat _ _ ([(p, .cells #[.int .i64 S.cap, .slice a0 n0 k0, .slice a1 n1 k1, .slice a2 n2 k2, .slice a3 n3 k3] 54 (0, 0))] :: c0 :: c1 :: c2 :: c3 :: [(b_1, .cells #[.int .i64 r.job, .int .i64 r.task] 33 (0, 0))] :: F) at hS_9
    have hS_10 := hS_9.dropAt 5 rfl
    change Sat _ _ ([(p, .cells #[.int .i64 S.cap, .slice a0 n0 k0, .slice a1 n1 k1, .slice a2 n2 k2, .slice a3 n3 k3] 54 (0, 0))] :: c0 :: c1 :: c2 :: c3 :: F) at hS_10
    have hS_11 := hS_10.merge5
    refine ⟨by simp only [packed, hp], _, ?_, hS_11⟩
    rw [show S.push r 0 = S from by simp [Inj.push, hp]]
    exact ⟨_, _, _, _, _, _, _, _, _, _, _, _, _, _, _, _, rfl, hO0, hO1, hO2, hO3⟩
  · refine cF ((S.cap : Int) == 0) (beq_eq_false_iff_ne.2 hc_4) ?_
    refine skipE ?_
    refine thenK_n <| ?_
    refine seqE ?_
    refine seqE ?_
    refine regionE ?_
    refine p6 (by kernel_rfl) ?_
    refine nilO ?_
    refine thenK_n <| ?_
    refine condE_false (by kernel_rfl) ?_
    refine skipE ?_
    refine thenK_n <| ?_
    refine seqE ?_
    refine seqE ?_
    refine drawE [1] [(5, ⟨p, 0, none⟩, .int .i64 S.cap)] [(true, [0, 2, 3, 4]), (true, [5]), (false, [1]), (true, [6])] rfl (by kernel_rfl) ⟨.inr (hS_3.cell 1 rfl rfl), trivial⟩ ?_
    have hS_12 := hS_3.drew
    refine wP [0, 2, 3, 4] rfl (by kernel_rfl) ?_
    refine wS (.int .i64 S.cap) rfl rfl rfl (fun w hF => Y_load rfl (Try.isAgg3 w) (by kernel_rfl) (hF 0 _ _ rfl)) ?_
    refine wO rfl ?_
    have hS_13 := hS_12.pick 5 rfl
    have hS_14 := hS_13.pick 5 rfl
    have hS_15 := hS_14.pick 5 rfl
    have hS_16 := hS_15.pick 5 rfl
    have hS_17 := hS_16.pick 5 rfl
    change Sat _ _ ([(p, .cells #[.int .i64 S.cap, .slice a0 n0 k0, .slice a1 n1 k1, .slice a2 n2 k2, .slice a3 n3 k3] 54 (0, 0))] :: c0 :: c1 :: c2 :: c3 :: [(b_1, .cells #[.int .i64 r.job, .int .i64 r.task] 33 (0, 0))] :: F) at hS_17
    have hS_18 := hS_17.merge5
    refine sF #[.pointer (some ⟨p, 0, none⟩)] Try.call24 (Calls.mono (rnj_len W _ _ S _ _ ⟨_, _, _, _, _, _, _, _, _, _, _, _, _, _, _, _, rfl, hO0, hO1, hO2, hO3⟩ hS_18 (by unfold Inj.len; omega)) ?_)
    rintro _ _ ⟨rfl, rfl⟩
    refine ⟨_, rfl, ?_⟩
    have hlen : S.len = S.q0.length + (S.q1.length + (S.q2.length + S.q3.length)) := rfl
    refine nilO ⟨⟨.inr (hS_17.cell 0 rfl rfl), trivial⟩, ?_⟩
    refine wP [6] rfl (by kernel_rfl) ?_
    refine wN ?_
    refine thenK_n <| ?_
    by_cases hc_19 : (((S.len : Nat) : Int) : Int) ≥ S.cap
    · refine cT (decide ((((S.len : Nat) : Int) : Int) ≥ S.cap)) (decide_eq_true hc_19) ?_
      refine seqE ?_
      refine regionE ?_
      refine p1 (by kernel_rfl) ?_
      refine nilO ?_
      refine thenK_n <| ?_
      refine retE (thenK_r <| ?_)
      refine retN (vs := [.int .i64 19]) rfl (.cons (.tmp _ _ (by kernel_rfl)) .nil) <| ?_
      have hp : S.pushCode 0 = 19 := by unfold Inj.pushCode; (repeat' split) <;> omega
      have hS_20 := hS_17.pick 4 rfl
      have hS_21 := hS_20.pick 4 rfl
      have hS_22 := hS_21.pick 4 rfl
      have hS_23 := hS_22.pick 4 rfl
      have hS_24 := hS_23.pick 4 rfl
      change Sat _ _ ([(p, .cells #[.int .i64 S.cap, .slice a0 n0 k0, .slice a1 n1 k1, .slice a2 n2 k2, .slice a3 n3 k3] 54 (0, 0))] :: c0 :: c1 :: c2 :: c3 :: [(b_1, .cells #[.int .i64 r.job, .int .i64 r.task] 33 (0, 0))] :: F) at hS_24
      have hS_25 := hS_24.dropAt 5 rfl
      change Sat _ _ ([(p, .cells #[.int .i64 S.cap, .slice a0 n0 k0, .slice a1 n1 k1, .slice a2 n2 k2, .slice a3 n3 k3] 54 (0, 0))] :: c0 :: c1 :: c2 :: c3 :: F) at hS_25
      have hS_26 := hS_25.merge5
      refine ⟨by simp only [packed, hp], _, ?_, hS_26⟩
      rw [show S.push r 0 = S from by simp [Inj.push, hp]]
      exact ⟨_, _, _, _, _, _, _, _, _, _, _, _, _, _, _, _, rfl, hO0, hO1, hO2, hO3⟩
    · refine cF (decide ((((S.len : Nat) : Int) : Int) ≥ S.cap)) (decide_eq_false hc_19) ?_
      refine skipE ?_
      refine thenK_n <| ?_
      refine seqE ?_
      refine drawE [9, 10, 14] [(7, ⟨p, 1, none⟩, .slice a0 n0 k0), (8, ⟨b_1, 0, none⟩, .int .i64 r.job), (8, ⟨b_1, 1, none⟩, .int .i64 r.task)] [(true, [0, 1, 2, 3, 4, 5, 6, 11, 12]), (true, [7]), (true, [8]), (false, [9]), (false, [10]), (true, [13]), (false, [14])] rfl (by kernel_rfl) ⟨.inr (hS_17.cell 0 rfl rfl), .inr (hS_17.cell 5 rfl rfl), .inr (hS_17.cell 5 rfl rfl), trivial⟩ ?_
      have hS_27 := hS_17.drew
      refine wP [0, 1, 2, 3, 4, 5, 6, 11, 12] rfl (by kernel_rfl) ?_
      refine wS (.slice a0 n0 k0) rfl rfl rfl (fun w hF => Y_load rfl (Try.isAgg44 w) (by kernel_rfl) (hF 0 _ _ rfl)) ?_
      refine wS (.agg #[.int .i64 r.job, .int .i64 r.task]) rfl rfl rfl (fun w hF => Y_loadF rfl (Try.isAgg33 w) (Try.sizeOf33 w) (by kernel_rfl) rfl ⟨hF 1 _ _ rfl, hF 2 _ _ rfl, trivial⟩) ?_
      refine wO rfl ?_
      refine sBS hS_27 #[.int .i64 r.job, .int .i64 r.task] Try.runUnderlying44 Try.sizeOf33 Try.zeroValue33 ?_
      intro b_28 w_29 hS_30
      refine nilO ⟨⟨.inr (hS_30.cell 1 rfl rfl), .inl (by kernel_rfl), .inl (by kernel_rfl), trivial⟩, ?_⟩
      refine wO rfl ?_
      refine sApp (nb := 16) hS_30 hO0 2 (RdT.blk (enc := encR) (sz := 2) (xs := [⟨r.job, r.task⟩]) (fun _ => rfl) 1 0 rfl rfl rfl (by omega)) Try.underlying44 (i := Try.t33) rfl (fun _ => rfl) ?_
      intro a_31 cap_32 c_33 w_34 hO_35 hS_36
      change Sat _ _ ([(b_28, .cells #[.int .i64 r.job, .int .i64 r.task] 33 (0, 0))] :: [(p, .cells #[.int .i64 S.cap, .slice a0 n0 k0, .slice a1 n1 k1, .slice a2 n2 k2, .slice a3 n3 k3] 54 (0, 0))] :: c_33 :: c1 :: c2 :: c3 :: [(b_1, .cells #[.int .i64 r.job, .int .i64 r.task] 33 (0, 0))] :: F) at hS_36
      refine nilO ⟨⟨.inl (by kernel_rfl), .inl (by kernel_rfl), .inl (by kernel_rfl), trivial⟩, ?_⟩
      refine wP [13] rfl (by kernel_rfl) ?_
      refine wO rfl ?_
      refine sT hS_36 1 1 (.slice a_31 (n0 + 1) cap_32) [.slice a_31 (n0 + 1) cap_32] #[.int .i64 S.cap, .slice a_31 (n0 + 1) cap_32, .slice a1 n1 k1, .slice a2 n2 k2, .slice a3 n3 k3] Try.sizeOf44 ?_
      intro w_37 hS_38
      change Sat _ _ ([(b_28, .cells #[.int .i64 r.job, .int .i64 r.task] 33 (0, 0))] :: [(p, .cells #[.int .i64 S.cap, .slice a_31 (n0 + 1) cap_32, .slice a1 n1 k1, .slice a2 n2 k2, .slice a3 n3 k3] 54 (0, 0))] :: c_33 :: c1 :: c2 :: c3 :: [(b_1, .cells #[.int .i64 r.job, .int .i64 r.task] 33 (0, 0))] :: F) at hS_38
      refine nilO ⟨⟨.inl (by kernel_rfl), .inl (by kernel_rfl), .inl (by kernel_rfl), trivial⟩, ?_⟩
      refine wN ?_
      refine thenK_n <| ?_
      refine seqE ?_
      refine regionE ?_
      refine p1 (by kernel_rfl) ?_
      refine nilO ?_
      refine thenK_n <| ?_
      refine retE ?_
      refine retN (vs := [.int .i64 0]) rfl (.cons (.tmp _ _ (by kernel_rfl)) .nil) <| ?_
      have hp : S.pushCode 0 = 0 := by unfold Inj.pushCode; (repeat' split) <;> omega
      have hS_39 := hS_38.pick 5 rfl
      have hS_40 := hS_39.pick 5 rfl
      have hS_41 := hS_40.pick 5 rfl
      have hS_42 := hS_41.pick 5 rfl
      have hS_43 := hS_42.pick 5 rfl
      change Sat _ _ ([(p, .cells #[.int .i64 S.cap, .slice a_31 (n0 + 1) cap_32, .slice a1 n1 k1, .slice a2 n2 k2, .slice a3 n3 k3] 54 (0, 0))] :: c_33 :: c1 :: c2 :: c3 :: [(b_28, .cells #[.int .i64 r.job, .int .i64 r.task] 33 (0, 0))] :: [(b_1, .cells #[.int .i64 r.job, .int .i64 r.task] 33 (0, 0))] :: F) at hS_43
      have hS_44 := hS_43.dropAt 5 rfl
      have hS_45 := hS_44.dropAt 5 rfl
      change Sat _ _ ([(p, .cells #[.int .i64 S.cap, .slice a_31 (n0 + 1) cap_32, .slice a1 n1 k1, .slice a2 n2 k2, .slice a3 n3 k3] 54 (0, 0))] :: c_33 :: c1 :: c2 :: c3 :: F) at hS_45
      have hS_46 := hS_45.merge5
      refine ⟨by simp only [packed, hp], _, ?_, hS_46⟩
      rw [show S.push r 0 = { S with q0 := S.q0 ++ [r] } from by simp [Inj.push, hp, Inj.setq, Inj.q]]
      exact ⟨_, _, _, _, _, _, _, _, _, _, _, _, _, _, _, _, rfl, hO_35, hO1, hO2, hO3⟩
theorem rnj_push1 (W w : World) (p : Nat) (S : Inj) (fp : Chunk) (F : List Chunk) (hI : InjR2 p S fp) (hS : Sat W w (fp :: F)) (hb : S.len ≤ 1000000000000) (r : Ref) :
    Calls Try.prog 17 #[.pointer (some ⟨p, 0, none⟩), .agg #[.int .i64 r.job, .int .i64 r.task], .int .i64 1] w fun e w' => e = .returned (.int .i64 (S.pushCode 1)) ∧ ∃ fp' : Chunk, InjR2 p (S.push r 1) fp' ∧ Sat W w' (fp' :: F) := by
  obtain ⟨a0, n0, k0, c0, a1, n1, k1, c1, a2, n2, k2, c2, a3, n3, k3, c3, rfl, hO0, hO1, hO2, hO3⟩ := hI
  have hS0 : Sat W w ([(p, .cells #[.int .i64 S.cap, .slice a0 n0 k0, .slice a1 n1 k1, .slice a2 n2 k2, .slice a3 n3 k3] 54 (0, 0))] :: c0 :: c1 :: c2 :: c3 :: F) := hS.perm (by simp)
  have hl0 := hO0.len; have hk0 := hO0.le
  have hl1 := hO1.len; have hk1 := hO1.le
  have hl2 := hO2.len; have hk2 := hO2.le
  have hl3 := hO3.len; have hk3 := hO3.le
  unfold Inj.len at hb
  refine callsE (n := 43) Try.func17 rfl rfl (Nat.le_of_ble_eq_true rfl) ?_
  refine seqE ?_
  refine regionE ?_
  refine sBox hS0 (.agg #[.int .i64 r.job, .int .i64 r.task]) #[.int .i64 r.job, .int .i64 r.task] ?_
  intro b_1 w_2 hS_3
  refine p1 (by kernel_rfl) ?_
  refine nilO ?_
  refine thenK_n <| ?_
  refine seqE ?_
  refine seqE ?_
  refine regionE ?_
  refine p6 (by kernel_rfl) ?_
  refine guardYes rfl ⟨_, rfl, rfl, by kernel_rfl⟩ ?_
  refine sL hS_3 1 0 (.int .i64 S.cap) (Try.isAgg3 _) ?_
  refine p2 (by kernel_rfl) ?_
  refine nilO ?_
  refine thenK_n <| ?_
  by_cases hc_4 : (S.cap : Int) = 0
  · refine cT ((S.cap : Int) == 0) (beq_iff_eq.2 hc_4) ?_
    refine seqE ?_
    refine regionE ?_
    refine p1 (by kernel_rfl) ?_
    refine nilO ?_
    refine thenK_n <| ?_
    refine retE (thenK_r <| ?_)
    refine retN (vs := [.int .i64 20]) rfl (.cons (.tmp _ _ (by kernel_rfl)) .nil) <| ?_
    have hp : S.pushCode 1 = 20 := by unfold Inj.pushCode; (repeat' split) <;> omega
    have hS_5 := hS_3.pick 5 rfl
    have hS_6 := hS_5.pick 5 rfl
    have hS_7 := hS_6.pick 5 rfl
    have hS_8 := hS_7.pick 5 rfl
    have hS_9 := hS_8.pick 5 rfl
    change Sat _ _ ([(p, .cells #[.int .i64 S.cap, .slice a0 n0 k0, .slice a1 n1 k1, .slice a2 n2 k2, .slice a3 n3 k3] 54 (0, 0))] :: c0 :: c1 :: c2 :: c3 :: [(b_1, .cells #[.int .i64 r.job, .int .i64 r.task] 33 (0, 0))] :: F) at hS_9
    have hS_10 := hS_9.dropAt 5 rfl
    change Sat _ _ ([(p, .cells #[.int .i64 S.cap, .slice a0 n0 k0, .slice a1 n1 k1, .slice a2 n2 k2, .slice a3 n3 k3] 54 (0, 0))] :: c0 :: c1 :: c2 :: c3 :: F) at hS_10
    have hS_11 := hS_10.merge5
    refine ⟨by simp only [packed, hp], _, ?_, hS_11⟩
    rw [show S.push r 1 = S from by simp [Inj.push, hp]]
    exact ⟨_, _, _, _, _, _, _, _, _, _, _, _, _, _, _, _, rfl, hO0, hO1, hO2, hO3⟩
  · refine cF ((S.cap : Int) == 0) (beq_eq_false_iff_ne.2 hc_4) ?_
    refine skipE ?_
    refine thenK_n <| ?_
    refine seqE ?_
    refine seqE ?_
    refine regionE ?_
    refine p6 (by kernel_rfl) ?_
    refine nilO ?_
    refine thenK_n <| ?_
    refine condE_false (by kernel_rfl) ?_
    refine skipE ?_
    refine thenK_n <| ?_
    refine seqE ?_
    refine seqE ?_
    refine drawE [1] [(5, ⟨p, 0, none⟩, .int .i64 S.cap)] [(true, [0, 2, 3, 4]), (true, [5]), (false, [1]), (true, [6])] rfl (by kernel_rfl) ⟨.inr (hS_3.cell 1 rfl rfl), trivial⟩ ?_
    have hS_12 := hS_3.drew
    refine wP [0, 2, 3, 4] rfl (by kernel_rfl) ?_
    refine wS (.int .i64 S.cap) rfl rfl rfl (fun w hF => Y_load rfl (Try.isAgg3 w) (by kernel_rfl) (hF 0 _ _ rfl)) ?_
    refine wO rfl ?_
    have hS_13 := hS_12.pick 5 rfl
    have hS_14 := hS_13.pick 5 rfl
    have hS_15 := hS_14.pick 5 rfl
    have hS_16 := hS_15.pick 5 rfl
    have hS_17 := hS_16.pick 5 rfl
    change Sat _ _ ([(p, .cells #[.int .i64 S.cap, .slice a0 n0 k0, .slice a1 n1 k1, .slice a2 n2 k2, .slice a3 n3 k3] 54 (0, 0))] :: c0 :: c1 :: c2 :: c3 :: [(b_1, .cells #[.int .i64 r.job, .int .i64 r.task] 33 (0, 0))] :: F) at hS_17
    have hS_18 := hS_17.merge5
    refine sF #[.pointer (some ⟨p, 0, none⟩)] Try.call24 (Calls.mono (rnj_len W _ _ S _ _ ⟨_, _, _, _, _, _, _, _, _, _, _, _, _, _, _, _, rfl, hO0, hO1, hO2, hO3⟩ hS_18 (by unfold Inj.len; omega)) ?_)
    rintro _ _ ⟨rfl, rfl⟩
    refine ⟨_, rfl, ?_⟩
    have hlen : S.len = S.q0.length + (S.q1.length + (S.q2.length + S.q3.length)) := rfl
    refine nilO ⟨⟨.inr (hS_17.cell 0 rfl rfl), trivial⟩, ?_⟩
    refine wP [6] rfl (by kernel_rfl) ?_
    refine wN ?_
    refine thenK_n <| ?_
    by_cases hc_19 : (((S.len : Nat) : Int) : Int) ≥ S.cap
    · refine cT (decide ((((S.len : Nat) : Int) : Int) ≥ S.cap)) (decide_eq_true hc_19) ?_
      refine seqE ?_
      refine regionE ?_
      refine p1 (by kernel_rfl) ?_
      refine nilO ?_
      refine thenK_n <| ?_
      refine retE (thenK_r <| ?_)
      refine retN (vs := [.int .i64 19]) rfl (.cons (.tmp _ _ (by kernel_rfl)) .nil) <| ?_
      have hp : S.pushCode 1 = 19 := by unfold Inj.pushCode; (repeat' split) <;> omega
      have hS_20 := hS_17.pick 4 rfl
      have hS_21 := hS_20.pick 4 rfl
      have hS_22 := hS_21.pick 4 rfl
      have hS_23 := hS_22.pick 4 rfl
      have hS_24 := hS_23.pick 4 rfl
      change Sat _ _ ([(p, .cells #[.int .i64 S.cap, .slice a0 n0 k0, .slice a1 n1 k1, .slice a2 n2 k2, .slice a3 n3 k3] 54 (0, 0))] :: c0 :: c1 :: c2 :: c3 :: [(b_1, .cells #[.int .i64 r.job, .int .i64 r.task] 33 (0, 0))] :: F) at hS_24
      have hS_25 := hS_24.dropAt 5 rfl
      change Sat _ _ ([(p, .cells #[.int .i64 S.cap, .slice a0 n0 k0, .slice a1 n1 k1, .slice a2 n2 k2, .slice a3 n3 k3] 54 (0, 0))] :: c0 :: c1 :: c2 :: c3 :: F) at hS_25
      have hS_26 := hS_25.merge5
      refine ⟨by simp only [packed, hp], _, ?_, hS_26⟩
      rw [show S.push r 1 = S from by simp [Inj.push, hp]]
      exact ⟨_, _, _, _, _, _, _, _, _, _, _, _, _, _, _, _, rfl, hO0, hO1, hO2, hO3⟩
    · refine cF (decide ((((S.len : Nat) : Int) : Int) ≥ S.cap)) (decide_eq_false hc_19) ?_
      refine skipE ?_
      refine thenK_n <| ?_
      refine seqE ?_
      refine drawE [9, 10, 14] [(7, ⟨p, 2, none⟩, .slice a1 n1 k1), (8, ⟨b_1, 0, none⟩, .int .i64 r.job), (8, ⟨b_1, 1, none⟩, .int .i64 r.task)] [(true, [0, 1, 2, 3, 4, 5, 6, 11, 12]), (true, [7]), (true, [8]), (false, [9]), (false, [10]), (true, [13]), (false, [14])] rfl (by kernel_rfl) ⟨.inr (hS_17.cell 0 rfl rfl), .inr (hS_17.cell 5 rfl rfl), .inr (hS_17.cell 5 rfl rfl), trivial⟩ ?_
      have hS_27 := hS_17.drew
      refine wP [0, 1, 2, 3, 4, 5, 6, 11, 12] rfl (by kernel_rfl) ?_
      refine wS (.slice a1 n1 k1) rfl rfl rfl (fun w hF => Y_load rfl (Try.isAgg44 w) (by kernel_rfl) (hF 0 _ _ rfl)) ?_
      refine wS (.agg #[.int .i64 r.job, .int .i64 r.task]) rfl rfl rfl (fun w hF => Y_loadF rfl (Try.isAgg33 w) (Try.sizeOf33 w) (by kernel_rfl) rfl ⟨hF 1 _ _ rfl, hF 2 _ _ rfl, trivial⟩) ?_
      refine wO rfl ?_
      refine sBS hS_27 #[.int .i64 r.job, .int .i64 r.task] Try.runUnderlying44 Try.sizeOf33 Try.zeroValue33 ?_
      intro b_28 w_29 hS_30
      refine nilO ⟨⟨.inr (hS_30.cell 1 rfl rfl), .inl (by kernel_rfl), .inl (by kernel_rfl), trivial⟩, ?_⟩
      refine wO rfl ?_
      refine sApp (nb := 16) hS_30 hO1 3 (RdT.blk (enc := encR) (sz := 2) (xs := [⟨r.job, r.task⟩]) (fun _ => rfl) 1 0 rfl rfl rfl (by omega)) Try.underlying44 (i := Try.t33) rfl (fun _ => rfl) ?_
      intro a_31 cap_32 c_33 w_34 hO_35 hS_36
      change Sat _ _ ([(b_28, .cells #[.int .i64 r.job, .int .i64 r.task] 33 (0, 0))] :: [(p, .cells #[.int .i64 S.cap, .slice a0 n0 k0, .slice a1 n1 k1, .slice a2 n2 k2, .slice a3 n3 k3] 54 (0, 0))] :: c0 :: c_33 :: c2 :: c3 :: [(b_1, .cells #[.int .i64 r.job, .int .i64 r.task] 33 (0, 0))] :: F) at hS_36
      refine nilO ⟨⟨.inl (by kernel_rfl), .inl (by kernel_rfl), .inl (by kernel_rfl), trivial⟩, ?_⟩
      refine wP [13] rfl (by kernel_rfl) ?_
      refine wO rfl ?_
      refine sT hS_36 1 2 (.slice a_31 (n1 + 1) cap_32) [.slice a_31 (n1 + 1) cap_32] #[.int .i64 S.cap, .slice a0 n0 k0, .slice a_31 (n1 + 1) cap_32, .slice a2 n2 k2, .slice a3 n3 k3] Try.sizeOf44 ?_
      intro w_37 hS_38
      change Sat _ _ ([(b_28, .cells #[.int .i64 r.job, .int .i64 r.task] 33 (0, 0))] :: [(p, .cells #[.int .i64 S.cap, .slice a0 n0 k0, .slice a_31 (n1 + 1) cap_32, .slice a2 n2 k2, .slice a3 n3 k3] 54 (0, 0))] :: c0 :: c_33 :: c2 :: c3 :: [(b_1, .cells #[.int .i64 r.job, .int .i64 r.task] 33 (0, 0))] :: F) at hS_38
      refine nilO ⟨⟨.inl (by kernel_rfl), .inl (by kernel_rfl), .inl (by kernel_rfl), trivial⟩, ?_⟩
      refine wN ?_
      refine thenK_n <| ?_
      refine seqE ?_
      refine regionE ?_
      refine p1 (by kernel_rfl) ?_
      refine nilO ?_
      refine thenK_n <| ?_
      refine retE ?_
      refine retN (vs := [.int .i64 0]) rfl (.cons (.tmp _ _ (by kernel_rfl)) .nil) <| ?_
      have hp : S.pushCode 1 = 0 := by unfold Inj.pushCode; (repeat' split) <;> omega
      have hS_39 := hS_38.pick 5 rfl
      have hS_40 := hS_39.pick 5 rfl
      have hS_41 := hS_40.pick 5 rfl
      have hS_42 := hS_41.pick 5 rfl
      have hS_43 := hS_42.pick 5 rfl
      change Sat _ _ ([(p, .cells #[.int .i64 S.cap, .slice a0 n0 k0, .slice a_31 (n1 + 1) cap_32, .slice a2 n2 k2, .slice a3 n3 k3] 54 (0, 0))] :: c0 :: c_33 :: c2 :: c3 :: [(b_28, .cells #[.int .i64 r.job, .int .i64 r.task] 33 (0, 0))] :: [(b_1, .cells #[.int .i64 r.job, .int .i64 r.task] 33 (0, 0))] :: F) at hS_43
      have hS_44 := hS_43.dropAt 5 rfl
      have hS_45 := hS_44.dropAt 5 rfl
      change Sat _ _ ([(p, .cells #[.int .i64 S.cap, .slice a0 n0 k0, .slice a_31 (n1 + 1) cap_32, .slice a2 n2 k2, .slice a3 n3 k3] 54 (0, 0))] :: c0 :: c_33 :: c2 :: c3 :: F) at hS_45
      have hS_46 := hS_45.merge5
      refine ⟨by simp only [packed, hp], _, ?_, hS_46⟩
      rw [show S.push r 1 = { S with q1 := S.q1 ++ [r] } from by simp [Inj.push, hp, Inj.setq, Inj.q]]
      exact ⟨_, _, _, _, _, _, _, _, _, _, _, _, _, _, _, _, rfl, hO0, hO_35, hO2, hO3⟩
theorem rnj_push2 (W w : World) (p : Nat) (S : Inj) (fp : Chunk) (F : List Chunk) (hI : InjR2 p S fp) (hS : Sat W w (fp :: F)) (hb : S.len ≤ 1000000000000) (r : Ref) :
    Calls Try.prog 17 #[.pointer (some ⟨p, 0, none⟩), .agg #[.int .i64 r.job, .int .i64 r.task], .int .i64 2] w fun e w' => e = .returned (.int .i64 (S.pushCode 2)) ∧ ∃ fp' : Chunk, InjR2 p (S.push r 2) fp' ∧ Sat W w' (fp' :: F) := by
  obtain ⟨a0, n0, k0, c0, a1, n1, k1, c1, a2, n2, k2, c2, a3, n3, k3, c3, rfl, hO0, hO1, hO2, hO3⟩ := hI
  have hS0 : Sat W w ([(p, .cells #[.int .i64 S.cap, .slice a0 n0 k0, .slice a1 n1 k1, .slice a2 n2 k2, .slice a3 n3 k3] 54 (0, 0))] :: c0 :: c1 :: c2 :: c3 :: F) := hS.perm (by simp)
  have hl0 := hO0.len; have hk0 := hO0.le
  have hl1 := hO1.len; have hk1 := hO1.le
  have hl2 := hO2.len; have hk2 := hO2.le
  have hl3 := hO3.len; have hk3 := hO3.le
  unfold Inj.len at hb
  refine callsE (n := 43) Try.func17 rfl rfl (Nat.le_of_ble_eq_true rfl) ?_
  refine seqE ?_
  refine regionE ?_
  refine sBox hS0 (.agg #[.int .i64 r.job, .int .i64 r.task]) #[.int .i64 r.job, .int .i64 r.task] ?_
  intro b_1 w_2 hS_3
  refine p1 (by kernel_rfl) ?_
  refine nilO ?_
  refine thenK_n <| ?_
  refine seqE ?_
  refine seqE ?_
  refine regionE ?_
  refine p6 (by kernel_rfl) ?_
  refine guardYes rfl ⟨_, rfl, rfl, by kernel_rfl⟩ ?_
  refine sL hS_3 1 0 (.int .i64 S.cap) (Try.isAgg3 _) ?_
  refine p2 (by kernel_rfl) ?_
  refine nilO ?_
  refine thenK_n <| ?_
  by_cases hc_4 : (S.cap : Int) = 0
  · refine cT ((S.cap : Int) == 0) (beq_iff_eq.2 hc_4) ?_
    refine seqE ?_
    refine regionE ?_
    refine p1 (by kernel_rfl) ?_
    refine nilO ?_
    refine thenK_n <| ?_
    refine retE (thenK_r <| ?_)
    refine retN (vs := [.int .i64 20]) rfl (.cons (.tmp _ _ (by kernel_rfl)) .nil) <| ?_
    have hp : S.pushCode 2 = 20 := by unfold Inj.pushCode; (repeat' split) <;> omega
    have hS_5 := hS_3.pick 5 rfl
    have hS_6 := hS_5.pick 5 rfl
    have hS_7 := hS_6.pick 5 rfl
    have hS_8 := hS_7.pick 5 rfl
    have hS_9 := hS_8.pick 5 rfl
    change Sat _ _ ([(p, .cells #[.int .i64 S.cap, .slice a0 n0 k0, .slice a1 n1 k1, .slice a2 n2 k2, .slice a3 n3 k3] 54 (0, 0))] :: c0 :: c1 :: c2 :: c3 :: [(b_1, .cells #[.int .i64 r.job, .int .i64 r.task] 33 (0, 0))] :: F) at hS_9
    have hS_10 := hS_9.dropAt 5 rfl
    change Sat _ _ ([(p, .cells #[.int .i64 S.cap, .slice a0 n0 k0, .slice a1 n1 k1, .slice a2 n2 k2, .slice a3 n3 k3] 54 (0, 0))] :: c0 :: c1 :: c2 :: c3 :: F) at hS_10
    have hS_11 := hS_10.merge5
    refine ⟨by simp only [packed, hp], _, ?_, hS_11⟩
    rw [show S.push r 2 = S from by simp [Inj.push, hp]]
    exact ⟨_, _, _, _, _, _, _, _, _, _, _, _, _, _, _, _, rfl, hO0, hO1, hO2, hO3⟩
  · refine cF ((S.cap : Int) == 0) (beq_eq_false_iff_ne.2 hc_4) ?_
    refine skipE ?_
    refine thenK_n <| ?_
    refine seqE ?_
    refine seqE ?_
    refine regionE ?_
    refine p6 (by kernel_rfl) ?_
    refine nilO ?_
    refine thenK_n <| ?_
    refine condE_false (by kernel_rfl) ?_
    refine skipE ?_
    refine thenK_n <| ?_
    refine seqE ?_
    refine seqE ?_
    refine drawE [1] [(5, ⟨p, 0, none⟩, .int .i64 S.cap)] [(true, [0, 2, 3, 4]), (true, [5]), (false, [1]), (true, [6])] rfl (by kernel_rfl) ⟨.inr (hS_3.cell 1 rfl rfl), trivial⟩ ?_
    have hS_12 := hS_3.drew
    refine wP [0, 2, 3, 4] rfl (by kernel_rfl) ?_
    refine wS (.int .i64 S.cap) rfl rfl rfl (fun w hF => Y_load rfl (Try.isAgg3 w) (by kernel_rfl) (hF 0 _ _ rfl)) ?_
    refine wO rfl ?_
    have hS_13 := hS_12.pick 5 rfl
    have hS_14 := hS_13.pick 5 rfl
    have hS_15 := hS_14.pick 5 rfl
    have hS_16 := hS_15.pick 5 rfl
    have hS_17 := hS_16.pick 5 rfl
    change Sat _ _ ([(p, .cells #[.int .i64 S.cap, .slice a0 n0 k0, .slice a1 n1 k1, .slice a2 n2 k2, .slice a3 n3 k3] 54 (0, 0))] :: c0 :: c1 :: c2 :: c3 :: [(b_1, .cells #[.int .i64 r.job, .int .i64 r.task] 33 (0, 0))] :: F) at hS_17
    have hS_18 := hS_17.merge5
    refine sF #[.pointer (some ⟨p, 0, none⟩)] Try.call24 (Calls.mono (rnj_len W _ _ S _ _ ⟨_, _, _, _, _, _, _, _, _, _, _, _, _, _, _, _, rfl, hO0, hO1, hO2, hO3⟩ hS_18 (by unfold Inj.len; omega)) ?_)
    rintro _ _ ⟨rfl, rfl⟩
    refine ⟨_, rfl, ?_⟩
    have hlen : S.len = S.q0.length + (S.q1.length + (S.q2.length + S.q3.length)) := rfl
    refine nilO ⟨⟨.inr (hS_17.cell 0 rfl rfl), trivial⟩, ?_⟩
    refine wP [6] rfl (by kernel_rfl) ?_
    refine wN ?_
    refine thenK_n <| ?_
    by_cases hc_19 : (((S.len : Nat) : Int) : Int) ≥ S.cap
    · refine cT (decide ((((S.len : Nat) : Int) : Int) ≥ S.cap)) (decide_eq_true hc_19) ?_
      refine seqE ?_
      refine regionE ?_
      refine p1 (by kernel_rfl) ?_
      refine nilO ?_
      refine thenK_n <| ?_
      refine retE (thenK_r <| ?_)
      refine retN (vs := [.int .i64 19]) rfl (.cons (.tmp _ _ (by kernel_rfl)) .nil) <| ?_
      have hp : S.pushCode 2 = 19 := by unfold Inj.pushCode; (repeat' split) <;> omega
      have hS_20 := hS_17.pick 4 rfl
      have hS_21 := hS_20.pick 4 rfl
      have hS_22 := hS_21.pick 4 rfl
      have hS_23 := hS_22.pick 4 rfl
      have hS_24 := hS_23.pick 4 rfl
      change Sat _ _ ([(p, .cells #[.int .i64 S.cap, .slice a0 n0 k0, .slice a1 n1 k1, .slice a2 n2 k2, .slice a3 n3 k3] 54 (0, 0))] :: c0 :: c1 :: c2 :: c3 :: [(b_1, .cells #[.int .i64 r.job, .int .i64 r.task] 33 (0, 0))] :: F) at hS_24
      have hS_25 := hS_24.dropAt 5 rfl
      change Sat _ _ ([(p, .cells #[.int .i64 S.cap, .slice a0 n0 k0, .slice a1 n1 k1, .slice a2 n2 k2, .slice a3 n3 k3] 54 (0, 0))] :: c0 :: c1 :: c2 :: c3 :: F) at hS_25
      have hS_26 := hS_25.merge5
      refine ⟨by simp only [packed, hp], _, ?_, hS_26⟩
      rw [show S.push r 2 = S from by simp [Inj.push, hp]]
      exact ⟨_, _, _, _, _, _, _, _, _, _, _, _, _, _, _, _, rfl, hO0, hO1, hO2, hO3⟩
    · refine cF (decide ((((S.len : Nat) : Int) : Int) ≥ S.cap)) (decide_eq_false hc_19) ?_
      refine skipE ?_
      refine thenK_n <| ?_
      refine seqE ?_
      refine drawE [9, 10, 14] [(7, ⟨p, 3, none⟩, .slice a2 n2 k2), (8, ⟨b_1, 0, none⟩, .int .i64 r.job), (8, ⟨b_1, 1, none⟩, .int .i64 r.task)] [(true, [0, 1, 2, 3, 4, 5, 6, 11, 12]), (true, [7]), (true, [8]), (false, [9]), (false, [10]), (true, [13]), (false, [14])] rfl (by kernel_rfl) ⟨.inr (hS_17.cell 0 rfl rfl), .inr (hS_17.cell 5 rfl rfl), .inr (hS_17.cell 5 rfl rfl), trivial⟩ ?_
      have hS_27 := hS_17.drew
      refine wP [0, 1, 2, 3, 4, 5, 6, 11, 12] rfl (by kernel_rfl) ?_
      refine wS (.slice a2 n2 k2) rfl rfl rfl (fun w hF => Y_load rfl (Try.isAgg44 w) (by kernel_rfl) (hF 0 _ _ rfl)) ?_
      refine wS (.agg #[.int .i64 r.job, .int .i64 r.task]) rfl rfl rfl (fun w hF => Y_loadF rfl (Try.isAgg33 w) (Try.sizeOf33 w) (by kernel_rfl) rfl ⟨hF 1 _ _ rfl, hF 2 _ _ rfl, trivial⟩) ?_
      refine wO rfl ?_
      refine sBS hS_27 #[.int .i64 r.job, .int .i64 r.task] Try.runUnderlying44 Try.sizeOf33 Try.zeroValue33 ?_
      intro b_28 w_29 hS_30
      refine nilO ⟨⟨.inr (hS_30.cell 1 rfl rfl), .inl (by kernel_rfl), .inl (by kernel_rfl), trivial⟩, ?_⟩
      refine wO rfl ?_
      refine sApp (nb := 16) hS_30 hO2 4 (RdT.blk (enc := encR) (sz := 2) (xs := [⟨r.job, r.task⟩]) (fun _ => rfl) 1 0 rfl rfl rfl (by omega)) Try.underlying44 (i := Try.t33) rfl (fun _ => rfl) ?_
      intro a_31 cap_32 c_33 w_34 hO_35 hS_36
      change Sat _ _ ([(b_28, .cells #[.int .i64 r.job, .int .i64 r.task] 33 (0, 0))] :: [(p, .cells #[.int .i64 S.cap, .slice a0 n0 k0, .slice a1 n1 k1, .slice a2 n2 k2, .slice a3 n3 k3] 54 (0, 0))] :: c0 :: c1 :: c_33 :: c3 :: [(b_1, .cells #[.int .i64 r.job, .int .i64 r.task] 33 (0, 0))] :: F) at hS_36
      refine nilO ⟨⟨.inl (by kernel_rfl), .inl (by kernel_rfl), .inl (by kernel_rfl), trivial⟩, ?_⟩
      refine wP [13] rfl (by kernel_rfl) ?_
      refine wO rfl ?_
      refine sT hS_36 1 3 (.slice a_31 (n2 + 1) cap_32) [.slice a_31 (n2 + 1) cap_32] #[.int .i64 S.cap, .slice a0 n0 k0, .slice a1 n1 k1, .slice a_31 (n2 + 1) cap_32, .slice a3 n3 k3] Try.sizeOf44 ?_
      intro w_37 hS_38
      change Sat _ _ ([(b_28, .cells #[.int .i64 r.job, .int .i64 r.task] 33 (0, 0))] :: [(p, .cells #[.int .i64 S.cap, .slice a0 n0 k0, .slice a1 n1 k1, .slice a_31 (n2 + 1) cap_32, .slice a3 n3 k3] 54 (0, 0))] :: c0 :: c1 :: c_33 :: c3 :: [(b_1, .cells #[.int .i64 r.job, .int .i64 r.task] 33 (0, 0))] :: F) at hS_38
      refine nilO ⟨⟨.inl (by kernel_rfl), .inl (by kernel_rfl), .inl (by kernel_rfl), trivial⟩, ?_⟩
      refine wN ?_
      refine thenK_n <| ?_
      refine seqE ?_
      refine regionE ?_
      refine p1 (by kernel_rfl) ?_
      refine nilO ?_
      refine thenK_n <| ?_
      refine retE ?_
      refine retN (vs := [.int .i64 0]) rfl (.cons (.tmp _ _ (by kernel_rfl)) .nil) <| ?_
      have hp : S.pushCode 2 = 0 := by unfold Inj.pushCode; (repeat' split) <;> omega
      have hS_39 := hS_38.pick 5 rfl
      have hS_40 := hS_39.pick 5 rfl
      have hS_41 := hS_40.pick 5 rfl
      have hS_42 := hS_41.pick 5 rfl
      have hS_43 := hS_42.pick 5 rfl
      change Sat _ _ ([(p, .cells #[.int .i64 S.cap, .slice a0 n0 k0, .slice a1 n1 k1, .slice a_31 (n2 + 1) cap_32, .slice a3 n3 k3] 54 (0, 0))] :: c0 :: c1 :: c_33 :: c3 :: [(b_28, .cells #[.int .i64 r.job, .int .i64 r.task] 33 (0, 0))] :: [(b_1, .cells #[.int .i64 r.job, .int .i64 r.task] 33 (0, 0))] :: F) at hS_43
      have hS_44 := hS_43.dropAt 5 rfl
      have hS_45 := hS_44.dropAt 5 rfl
      change Sat _ _ ([(p, .cells #[.int .i64 S.cap, .slice a0 n0 k0, .slice a1 n1 k1, .slice a_31 (n2 + 1) cap_32, .slice a3 n3 k3] 54 (0, 0))] :: c0 :: c1 :: c_33 :: c3 :: F) at hS_45
      have hS_46 := hS_45.merge5
      refine ⟨by simp only [packed, hp], _, ?_, hS_46⟩
      rw [show S.push r 2 = { S with q2 := S.q2 ++ [r] } from by simp [Inj.push, hp, Inj.setq, Inj.q]]
      exact ⟨_, _, _, _, _, _, _, _, _, _, _, _, _, _, _, _, rfl, hO0, hO1, hO_35, hO3⟩
theorem rnj_push3 (W w : World) (p : Nat) (S : Inj) (fp : Chunk) (F : List Chunk) (hI : InjR2 p S fp) (hS : Sat W w (fp :: F)) (hb : S.len ≤ 1000000000000) (r : Ref) :
    Calls Try.prog 17 #[.pointer (some ⟨p, 0, none⟩), .agg #[.int .i64 r.job, .int .i64 r.task], .int .i64 3] w fun e w' => e = .returned (.int .i64 (S.pushCode 3)) ∧ ∃ fp' : Chunk, InjR2 p (S.push r 3) fp' ∧ Sat W w' (fp' :: F) := by
  obtain ⟨a0, n0, k0, c0, a1, n1, k1, c1, a2, n2, k2, c2, a3, n3, k3, c3, rfl, hO0, hO1, hO2, hO3⟩ := hI
  have hS0 : Sat W w ([(p, .cells #[.int .i64 S.cap, .slice a0 n0 k0, .slice a1 n1 k1, .slice a2 n2 k2, .slice a3 n3 k3] 54 (0, 0))] :: c0 :: c1 :: c2 :: c3 :: F) := hS.perm (by simp)
  have hl0 := hO0.len; have hk0 := hO0.le
  have hl1 := hO1.len; have hk1 := hO1.le
  have hl2 := hO2.len; have hk2 := hO2.le
  have hl3 := hO3.len; have hk3 := hO3.le
  unfold Inj.len at hb
  refine callsE (n := 43) Try.func17 rfl rfl (Nat.le_of_ble_eq_true rfl) ?_
  refine seqE ?_
  refine regionE ?_
  refine sBox hS0 (.agg #[.int .i64 r.job, .int .i64 r.task]) #[.int .i64 r.job, .int .i64 r.task] ?_
  intro b_1 w_2 hS_3
  refine p1 (by kernel_rfl) ?_
  refine nilO ?_
  refine thenK_n <| ?_
  refine seqE ?_
  refine seqE ?_
  refine regionE ?_
  refine p6 (by kernel_rfl) ?_
  refine guardYes rfl ⟨_, rfl, rfl, by kernel_rfl⟩ ?_
  refine sL hS_3 1 0 (.int .i64 S.cap) (Try.isAgg3 _) ?_
  refine p2 (by kernel_rfl) ?_
  refine nilO ?_
  refine thenK_n <| ?_
  by_cases hc_4 : (S.cap : Int) = 0
  · refine cT ((S.cap : Int) == 0) (beq_iff_eq.2 hc_4) ?_
    refine seqE ?_
    refine regionE ?_
    refine p1 (by kernel_rfl) ?_
    refine nilO ?_
    refine thenK_n <| ?_
    refine retE (thenK_r <| ?_)
    refine retN (vs := [.int .i64 20]) rfl (.cons (.tmp _ _ (by kernel_rfl)) .nil) <| ?_
    have hp : S.pushCode 3 = 20 := by unfold Inj.pushCode; (repeat' split) <;> omega
    have hS_5 := hS_3.pick 5 rfl
    have hS_6 := hS_5.pick 5 rfl
    have hS_7 := hS_6.pick 5 rfl
    have hS_8 := hS_7.pick 5 rfl
    have hS_9 := hS_8.pick 5 rfl
    change Sat _ _ ([(p, .cells #[.int .i64 S.cap, .slice a0 n0 k0, .slice a1 n1 k1, .slice a2 n2 k2, .slice a3 n3 k3] 54 (0, 0))] :: c0 :: c1 :: c2 :: c3 :: [(b_1, .cells #[.int .i64 r.job, .int .i64 r.task] 33 (0, 0))] :: F) at hS_9
    have hS_10 := hS_9.dropAt 5 rfl
    change Sat _ _ ([(p, .cells #[.int .i64 S.cap, .slice a0 n0 k0, .slice a1 n1 k1, .slice a2 n2 k2, .slice a3 n3 k3] 54 (0, 0))] :: c0 :: c1 :: c2 :: c3 :: F) at hS_10
    have hS_11 := hS_10.merge5
    refine ⟨by simp only [packed, hp], _, ?_, hS_11⟩
    rw [show S.push r 3 = S from by simp [Inj.push, hp]]
    exact ⟨_, _, _, _, _, _, _, _, _, _, _, _, _, _, _, _, rfl, hO0, hO1, hO2, hO3⟩
  · refine cF ((S.cap : Int) == 0) (beq_eq_false_iff_ne.2 hc_4) ?_
    refine skipE ?_
    refine thenK_n <| ?_
    refine seqE ?_
    refine seqE ?_
    refine regionE ?_
    refine p6 (by kernel_rfl) ?_
    refine nilO ?_
    refine thenK_n <| ?_
    refine condE_false (by kernel_rfl) ?_
    refine skipE ?_
    refine thenK_n <| ?_
    refine seqE ?_
    refine seqE ?_
    refine drawE [1] [(5, ⟨p, 0, none⟩, .int .i64 S.cap)] [(true, [0, 2, 3, 4]), (true, [5]), (false, [1]), (true, [6])] rfl (by kernel_rfl) ⟨.inr (hS_3.cell 1 rfl rfl), trivial⟩ ?_
    have hS_12 := hS_3.drew
    refine wP [0, 2, 3, 4] rfl (by kernel_rfl) ?_
    refine wS (.int .i64 S.cap) rfl rfl rfl (fun w hF => Y_load rfl (Try.isAgg3 w) (by kernel_rfl) (hF 0 _ _ rfl)) ?_
    refine wO rfl ?_
    have hS_13 := hS_12.pick 5 rfl
    have hS_14 := hS_13.pick 5 rfl
    have hS_15 := hS_14.pick 5 rfl
    have hS_16 := hS_15.pick 5 rfl
    have hS_17 := hS_16.pick 5 rfl
    change Sat _ _ ([(p, .cells #[.int .i64 S.cap, .slice a0 n0 k0, .slice a1 n1 k1, .slice a2 n2 k2, .slice a3 n3 k3] 54 (0, 0))] :: c0 :: c1 :: c2 :: c3 :: [(b_1, .cells #[.int .i64 r.job, .int .i64 r.task] 33 (0, 0))] :: F) at hS_17
    have hS_18 := hS_17.merge5
    refine sF #[.pointer (some ⟨p, 0, none⟩)] Try.call24 (Calls.mono (rnj_len W _ _ S _ _ ⟨_, _, _, _, _, _, _, _, _, _, _, _, _, _, _, _, rfl, hO0, hO1, hO2, hO3⟩ hS_18 (by unfold Inj.len; omega)) ?_)
    rintro _ _ ⟨rfl, rfl⟩
    refine ⟨_, rfl, ?_⟩
    have hlen : S.len = S.q0.length + (S.q1.length + (S.q2.length + S.q3.length)) := rfl
    refine nilO ⟨⟨.inr (hS_17.cell 0 rfl rfl), trivial⟩, ?_⟩
    refine wP [6] rfl (by kernel_rfl) ?_
    refine wN ?_
    refine thenK_n <| ?_
    by_cases hc_19 : (((S.len : Nat) : Int) : Int) ≥ S.cap
    · refine cT (decide ((((S.len : Nat) : Int) : Int) ≥ S.cap)) (decide_eq_true hc_19) ?_
      refine seqE ?_
      refine regionE ?_
      refine p1 (by kernel_rfl) ?_
      refine nilO ?_
      refine thenK_n <| ?_
      refine retE (thenK_r <| ?_)
      refine retN (vs := [.int .i64 19]) rfl (.cons (.tmp _ _ (by kernel_rfl)) .nil) <| ?_
      have hp : S.pushCode 3 = 19 := by unfold Inj.pushCode; (repeat' split) <;> omega
      have hS_20 := hS_17.pick 4 rfl
      have hS_21 := hS_20.pick 4 rfl
      have hS_22 := hS_21.pick 4 rfl
      have hS_23 := hS_22.pick 4 rfl
      have hS_24 := hS_23.pick 4 rfl
      change Sat _ _ ([(p, .cells #[.int .i64 S.cap, .slice a0 n0 k0, .slice a1 n1 k1, .slice a2 n2 k2, .slice a3 n3 k3] 54 (0, 0))] :: c0 :: c1 :: c2 :: c3 :: [(b_1, .cells #[.int .i64 r.job, .int .i64 r.task] 33 (0, 0))] :: F) at hS_24
      have hS_25 := hS_24.dropAt 5 rfl
      change Sat _ _ ([(p, .cells #[.int .i64 S.cap, .slice a0 n0 k0, .slice a1 n1 k1, .slice a2 n2 k2, .slice a3 n3 k3] 54 (0, 0))] :: c0 :: c1 :: c2 :: c3 :: F) at hS_25
      have hS_26 := hS_25.merge5
      refine ⟨by simp only [packed, hp], _, ?_, hS_26⟩
      rw [show S.push r 3 = S from by simp [Inj.push, hp]]
      exact ⟨_, _, _, _, _, _, _, _, _, _, _, _, _, _, _, _, rfl, hO0, hO1, hO2, hO3⟩
    · refine cF (decide ((((S.len : Nat) : Int) : Int) ≥ S.cap)) (decide_eq_false hc_19) ?_
      refine skipE ?_
      refine thenK_n <| ?_
      refine seqE ?_
      refine drawE [9, 10, 14] [(7, ⟨p, 4, none⟩, .slice a3 n3 k3), (8, ⟨b_1, 0, none⟩, .int .i64 r.job), (8, ⟨b_1, 1, none⟩, .int .i64 r.task)] [(true, [0, 1, 2, 3, 4, 5, 6, 11, 12]), (true, [7]), (true, [8]), (false, [9]), (false, [10]), (true, [13]), (false, [14])] rfl (by kernel_rfl) ⟨.inr (hS_17.cell 0 rfl rfl), .inr (hS_17.cell 5 rfl rfl), .inr (hS_17.cell 5 rfl rfl), trivial⟩ ?_
      have hS_27 := hS_17.drew
      refine wP [0, 1, 2, 3, 4, 5, 6, 11, 12] rfl (by kernel_rfl) ?_
      refine wS (.slice a3 n3 k3) rfl rfl rfl (fun w hF => Y_load rfl (Try.isAgg44 w) (by kernel_rfl) (hF 0 _ _ rfl)) ?_
      refine wS (.agg #[.int .i64 r.job, .int .i64 r.task]) rfl rfl rfl (fun w hF => Y_loadF rfl (Try.isAgg33 w) (Try.sizeOf33 w) (by kernel_rfl) rfl ⟨hF 1 _ _ rfl, hF 2 _ _ rfl, trivial⟩) ?_
      refine wO rfl ?_
      refine sBS hS_27 #[.int .i64 r.job, .int .i64 r.task] Try.runUnderlying44 Try.sizeOf33 Try.zeroValue33 ?_
      intro b_28 w_29 hS_30
      refine nilO ⟨⟨.inr (hS_30.cell 1 rfl rfl), .inl (by kernel_rfl), .inl (by kernel_rfl), trivial⟩, ?_⟩
      refine wO rfl ?_
      refine sApp (nb := 16) hS_30 hO3 5 (RdT.blk (enc := encR) (sz := 2) (xs := [⟨r.job, r.task⟩]) (fun _ => rfl) 1 0 rfl rfl rfl (by omega)) Try.underlying44 (i := Try.t33) rfl (fun _ => rfl) ?_
      intro a_31 cap_32 c_33 w_34 hO_35 hS_36
      change Sat _ _ ([(b_28, .cells #[.int .i64 r.job, .int .i64 r.task] 33 (0, 0))] :: [(p, .cells #[.int .i64 S.cap, .slice a0 n0 k0, .slice a1 n1 k1, .slice a2 n2 k2, .slice a3 n3 k3] 54 (0, 0))] :: c0 :: c1 :: c2 :: c_33 :: [(b_1, .cells #[.int .i64 r.job, .int .i64 r.task] 33 (0, 0))] :: F) at hS_36
      refine nilO ⟨⟨.inl (by kernel_rfl), .inl (by kernel_rfl), .inl (by kernel_rfl), trivial⟩, ?_⟩
      refine wP [13] rfl (by kernel_rfl) ?_
      refine wO rfl ?_
      refine sT hS_36 1 4 (.slice a_31 (n3 + 1) cap_32) [.slice a_31 (n3 + 1) cap_32] #[.int .i64 S.cap, .slice a0 n0 k0, .slice a1 n1 k1, .slice a2 n2 k2, .slice a_31 (n3 + 1) cap_32] Try.sizeOf44 ?_
      intro w_37 hS_38
      change Sat _ _ ([(b_28, .cells #[.int .i64 r.job, .int .i64 r.task] 33 (0, 0))] :: [(p, .cells #[.int .i64 S.cap, .slice a0 n0 k0, .slice a1 n1 k1, .slice a2 n2 k2, .slice a_31 (n3 + 1) cap_32] 54 (0, 0))] :: c0 :: c1 :: c2 :: c_33 :: [(b_1, .cells #[.int .i64 r.job, .int .i64 r.task] 33 (0, 0))] :: F) at hS_38
      refine nilO ⟨⟨.inl (by kernel_rfl), .inl (by kernel_rfl), .inl (by kernel_rfl), trivial⟩, ?_⟩
      refine wN ?_
      refine thenK_n <| ?_
      refine seqE ?_
      refine regionE ?_
      refine p1 (by kernel_rfl) ?_
      refine nilO ?_
      refine thenK_n <| ?_
      refine retE ?_
      refine retN (vs := [.int .i64 0]) rfl (.cons (.tmp _ _ (by kernel_rfl)) .nil) <| ?_
      have hp : S.pushCode 3 = 0 := by unfold Inj.pushCode; (repeat' split) <;> omega
      have hS_39 := hS_38.pick 5 rfl
      have hS_40 := hS_39.pick 5 rfl
      have hS_41 := hS_40.pick 5 rfl
      have hS_42 := hS_41.pick 5 rfl
      have hS_43 := hS_42.pick 5 rfl
      change Sat _ _ ([(p, .cells #[.int .i64 S.cap, .slice a0 n0 k0, .slice a1 n1 k1, .slice a2 n2 k2, .slice a_31 (n3 + 1) cap_32] 54 (0, 0))] :: c0 :: c1 :: c2 :: c_33 :: [(b_28, .cells #[.int .i64 r.job, .int .i64 r.task] 33 (0, 0))] :: [(b_1, .cells #[.int .i64 r.job, .int .i64 r.task] 33 (0, 0))] :: F) at hS_43
      have hS_44 := hS_43.dropAt 5 rfl
      have hS_45 := hS_44.dropAt 5 rfl
      change Sat _ _ ([(p, .cells #[.int .i64 S.cap, .slice a0 n0 k0, .slice a1 n1 k1, .slice a2 n2 k2, .slice a_31 (n3 + 1) cap_32] 54 (0, 0))] :: c0 :: c1 :: c2 :: c_33 :: F) at hS_45
      have hS_46 := hS_45.merge5
      refine ⟨by simp only [packed, hp], _, ?_, hS_46⟩
      rw [show S.push r 3 = { S with q3 := S.q3 ++ [r] } from by simp [Inj.push, hp, Inj.setq, Inj.q]]
      exact ⟨_, _, _, _, _, _, _, _, _, _, _, _, _, _, _, _, rfl, hO0, hO1, hO2, hO_35⟩
theorem rnj_pushb (W w : World) (p : Nat) (S : Inj) (fp : Chunk) (F : List Chunk) (hI : InjR2 p S fp) (hS : Sat W w (fp :: F)) (hb : S.len ≤ 1000000000000) (r : Ref) (b : Int) (hb4 : b < 0 ∨ 4 ≤ b) :
    Calls Try.prog 17 #[.pointer (some ⟨p, 0, none⟩), .agg #[.int .i64 r.job, .int .i64 r.task], .int .i64 b] w fun e w' => e = .returned (.int .i64 (S.pushCode b)) ∧ ∃ fp' : Chunk, InjR2 p (S.push r b) fp' ∧ Sat W w' (fp' :: F) := by
  obtain ⟨a0, n0, k0, c0, a1, n1, k1, c1, a2, n2, k2, c2, a3, n3, k3, c3, rfl, hO0, hO1, hO2, hO3⟩ := hI
  have hS0 : Sat W w ([(p, .cells #[.int .i64 S.cap, .slice a0 n0 k0, .slice a1 n1 k1, .slice a2 n2 k2, .slice a3 n3 k3] 54 (0, 0))] :: c0 :: c1 :: c2 :: c3 :: F) := hS.perm (by simp)
  have hl0 := hO0.len; have hk0 := hO0.le
  have hl1 := hO1.len; have hk1 := hO1.le
  have hl2 := hO2.len; have hk2 := hO2.le
  have hl3 := hO3.len; have hk3 := hO3.le
  unfold Inj.len at hb
  refine callsE (n := 43) Try.func17 rfl rfl (Nat.le_of_ble_eq_true rfl) ?_
  refine seqE ?_
  refine regionE ?_
  refine sBox hS0 (.agg #[.int .i64 r.job, .int .i64 r.task]) #[.int .i64 r.job, .int .i64 r.task] ?_
  intro b_1 w_2 hS_3
  refine p1 (by kernel_rfl) ?_
  refine nilO ?_
  refine thenK_n <| ?_
  refine seqE ?_
  refine seqE ?_
  refine regionE ?_
  refine p6 (by kernel_rfl) ?_
  refine guardYes rfl ⟨_, rfl, rfl, by kernel_rfl⟩ ?_
  refine sL hS_3 1 0 (.int .i64 S.cap) (Try.isAgg3 _) ?_
  refine p2 (by kernel_rfl) ?_
  refine nilO ?_
  refine thenK_n <| ?_
  by_cases hc_4 : (S.cap : Int) = 0
  · refine cT ((S.cap : Int) == 0) (beq_iff_eq.2 hc_4) ?_
    refine seqE ?_
    refine regionE ?_
    refine p1 (by kernel_rfl) ?_
    refine nilO ?_
    refine thenK_n <| ?_
    refine retE (thenK_r <| ?_)
    refine retN (vs := [.int .i64 20]) rfl (.cons (.tmp _ _ (by kernel_rfl)) .nil) <| ?_
    have hp : S.pushCode b = 20 := by unfold Inj.pushCode; (repeat' split) <;> omega
    have hS_5 := hS_3.pick 5 rfl
    have hS_6 := hS_5.pick 5 rfl
    have hS_7 := hS_6.pick 5 rfl
    have hS_8 := hS_7.pick 5 rfl
    have hS_9 := hS_8.pick 5 rfl
    change Sat _ _ ([(p, .cells #[.int .i64 S.cap, .slice a0 n0 k0, .slice a1 n1 k1, .slice a2 n2 k2, .slice a3 n3 k3] 54 (0, 0))] :: c0 :: c1 :: c2 :: c3 :: [(b_1, .cells #[.int .i64 r.job, .int .i64 r.task] 33 (0, 0))] :: F) at hS_9
    have hS_10 := hS_9.dropAt 5 rfl
    change Sat _ _ ([(p, .cells #[.int .i64 S.cap, .slice a0 n0 k0, .slice a1 n1 k1, .slice a2 n2 k2, .slice a3 n3 k3] 54 (0, 0))] :: c0 :: c1 :: c2 :: c3 :: F) at hS_10
    have hS_11 := hS_10.merge5
    refine ⟨by simp only [packed, hp], _, ?_, hS_11⟩
    rw [show S.push r b = S from by simp [Inj.push, hp]]
    exact ⟨_, _, _, _, _, _, _, _, _, _, _, _, _, _, _, _, rfl, hO0, hO1, hO2, hO3⟩
  · refine cF ((S.cap : Int) == 0) (beq_eq_false_iff_ne.2 hc_4) ?_
    refine skipE ?_
    refine thenK_n <| ?_
    refine seqE ?_
    refine seqE ?_
    refine regionE ?_
    refine p3 (by kernel_rfl) ?_
    by_cases hc_12 : (b : Int) < 0
    · refine sFix 18 (decide ((b : Int) < 0)) true (decide_eq_true hc_12) ?_
      refine p3 (by kernel_rfl) ?_
      refine nilO ?_
      refine thenK_n <| ?_
      refine condE_true (by kernel_rfl) ?_
      refine seqE ?_
      refine regionE ?_
      refine p1 (by kernel_rfl) ?_
      refine nilO ?_
      refine thenK_n <| ?_
      refine retE (thenK_r <| ?_)
      refine retN (vs := [.int .i64 2]) rfl (.cons (.tmp _ _ (by kernel_rfl)) .nil) <| ?_
      have hp : S.pushCode b = 2 := by unfold Inj.pushCode; (repeat' split) <;> omega
      have hS_13 := hS_3.pick 5 rfl
      have hS_14 := hS_13.pick 5 rfl
      have hS_15 := hS_14.pick 5 rfl
      have hS_16 := hS_15.pick 5 rfl
      have hS_17 := hS_16.pick 5 rfl
      change Sat _ _ ([(p, .cells #[.int .i64 S.cap, .slice a0 n0 k0, .slice a1 n1 k1, .slice a2 n2 k2, .slice a3 n3 k3] 54 (0, 0))] :: c0 :: c1 :: c2 :: c3 :: [(b_1, .cells #[.int .i64 r.job, .int .i64 r.task] 33 (0, 0))] :: F) at hS_17
      have hS_18 := hS_17.dropAt 5 rfl
      change Sat _ _ ([(p, .cells #[.int .i64 S.cap, .slice a0 n0 k0, .slice a1 n1 k1, .slice a2 n2 k2, .slice a3 n3 k3] 54 (0, 0))] :: c0 :: c1 :: c2 :: c3 :: F) at hS_18
      have hS_19 := hS_18.merge5
      refine ⟨by simp only [packed, hp], _, ?_, hS_19⟩
      rw [show S.push r b = S from by simp [Inj.push, hp]]
      exact ⟨_, _, _, _, _, _, _, _, _, _, _, _, _, _, _, _, rfl, hO0, hO1, hO2, hO3⟩
    · refine sFix 18 (decide ((b : Int) < 0)) false (decide_eq_false hc_12) ?_
      refine p3 (by kernel_rfl) ?_
      refine nilO ?_
      refine thenK_n <| ?_
      have hc_20 : (b : Int) ≥ 4 := by omega
      refine cT (decide ((b : Int) ≥ 4)) (decide_eq_true hc_20) ?_
      refine seqE ?_
      refine regionE ?_
      refine p1 (by kernel_rfl) ?_
      refine nilO ?_
      refine thenK_n <| ?_
      refine retE (thenK_r <| ?_)
      refine retN (vs := [.int .i64 2]) rfl (.cons (.tmp _ _ (by kernel_rfl)) .nil) <| ?_
      have hp : S.pushCode b = 2 := by unfold Inj.pushCode; (repeat' split) <;> omega
      have hS_21 := hS_3.pick 5 rfl
      have hS_22 := hS_21.pick 5 rfl
      have hS_23 := hS_22.pick 5 rfl
      have hS_24 := hS_23.pick 5 rfl
      have hS_25 := hS_24.pick 5 rfl
      change Sat _ _ ([(p, .cells #[.int .i64 S.cap, .slice a0 n0 k0, .slice a1 n1 k1, .slice a2 n2 k2, .slice a3 n3 k3] 54 (0, 0))] :: c0 :: c1 :: c2 :: c3 :: [(b_1, .cells #[.int .i64 r.job, .int .i64 r.task] 33 (0, 0))] :: F) at hS_25
      have hS_26 := hS_25.dropAt 5 rfl
      change Sat _ _ ([(p, .cells #[.int .i64 S.cap, .slice a0 n0 k0, .slice a1 n1 k1, .slice a2 n2 k2, .slice a3 n3 k3] 54 (0, 0))] :: c0 :: c1 :: c2 :: c3 :: F) at hS_26
      have hS_27 := hS_26.merge5
      refine ⟨by simp only [packed, hp], _, ?_, hS_27⟩
      rw [show S.push r b = S from by simp [Inj.push, hp]]
      exact ⟨_, _, _, _, _, _, _, _, _, _, _, _, _, _, _, _, rfl, hO0, hO1, hO2, hO3⟩
theorem rnj_push (W w : World) (p : Nat) (S : Inj) (fp : Chunk) (F : List Chunk) (hI : InjR2 p S fp) (hS : Sat W w (fp :: F)) (hb : S.len ≤ 1000000000000) (r : Ref) (b : Int) : Calls Try.prog 17 #[.pointer (some ⟨p, 0, none⟩), .agg #[.int .i64 r.job, .int .i64 r.task], .int .i64 b] w
    fun e w' => e = .returned (.int .i64 (S.pushCode b)) ∧ ∃ fp' : Chunk, InjR2 p (S.push r b) fp' ∧ Sat W w' (fp' :: F) := by
  by_cases h : b < 0 ∨ 4 ≤ b
  · exact rnj_pushb W w p S fp F hI hS hb r b h
  · obtain rfl | rfl | rfl | rfl : b = 0 ∨ b = 1 ∨ b = 2 ∨ b = 3 := by omega
    · exact rnj_push0 W w p S fp F hI hS hb r
    · exact rnj_push1 W w p S fp F hI hS hb r
    · exact rnj_push2 W w p S fp F hI hS hb r
    · exact rnj_push3 W w p S fp F hI hS hb r
theorem rnj_push_nil (W w : World) (cs : List Chunk) (x y b : Int) (hS : Sat W w cs) :
    Calls Try.prog 17 #[.pointer none, .agg #[.int .i64 x, .int .i64 y], .int .i64 b] w fun e w' => e = .returned (.int .i64 20) ∧ Sat W w' cs := by
  refine callsE (n := 43) Try.func17 rfl rfl (Nat.le_of_ble_eq_true rfl) ?_
  refine seqE ?_
  refine regionE ?_
  refine sBox hS (.agg #[.int .i64 x, .int .i64 y]) #[.int .i64 x, .int .i64 y] ?_
  intro b_1 w_2 hS_3
  refine p1 (by kernel_rfl) ?_
  refine nilO ?_
  refine thenK_n <| ?_
  refine seqE ?_
  refine seqE ?_
  refine regionE ?_
  refine p9 (by kernel_rfl) ?_
  refine nilO ?_
  refine thenK_n <| ?_
  refine condE_true (by kernel_rfl) ?_
  refine seqE ?_
  refine regionE ?_
  refine p1 (by kernel_rfl) ?_
  refine nilO ?_
  refine thenK_n <| ?_
  refine retE (thenK_r <| ?_)
  refine retN (vs := [.int .i64 20]) rfl (.cons (.tmp _ _ (by kernel_rfl)) .nil) <| ?_
  exact ⟨rfl, hS_3.tail⟩
theorem rnj_pop (W w : World) (p : Nat) (S : Inj) (fp : Chunk) (F : List Chunk) (hI : InjR2 p S fp) (hS : Sat W w (fp :: F)) (hb : S.len ≤ 1000000000000) :
    Calls Try.prog 20 #[.pointer (some ⟨p, 0, none⟩)] w fun e w' => e = .returned (.tuple #[.agg #[.int .i64 S.pop.2.1.job, .int .i64 S.pop.2.1.task], .bool S.pop.2.2]) ∧ ∃ fp' : Chunk, InjR2 p S.pop.1 fp' ∧ Sat W w' (fp' :: F) := by
  obtain ⟨a0, n0, k0, c0, a1, n1, k1, c1, a2, n2, k2, c2, a3, n3, k3, c3, rfl, hO0, hO1, hO2, hO3⟩ := hI
  have hS0 : Sat W w ([(p, .cells #[.int .i64 S.cap, .slice a0 n0 k0, .slice a1 n1 k1, .slice a2 n2 k2, .slice a3 n3 k3] 54 (0, 0))] :: c0 :: c1 :: c2 :: c3 :: F) := hS.perm (by simp)
  have hl0 := hO0.len; have hk0 := hO0.le
  have hl1 := hO1.len; have hk1 := hO1.le
  have hl2 := hO2.len; have hk2 := hO2.le
  have hl3 := hO3.len; have hk3 := hO3.le
  unfold Inj.len at hb
  refine callsE (n := 35) Try.func20 rfl rfl (Nat.le_of_ble_eq_true rfl) ?_
  refine seqE ?_
  refine regionE ?_
  refine sAlloc hS0 Try.zeroValue33 ?_
  intro b_1 w_2 hS_3
  change Sat _ _ ([(b_1, .cells #[.int .i64 0, .int .i64 0] 33 (0, 0))] :: [(p, .cells #[.int .i64 S.cap, .slice a0 n0 k0, .slice a1 n1 k1, .slice a2 n2 k2, .slice a3 n3 k3] 54 (0, 0))] :: c0 :: c1 :: c2 :: c3 :: F) at hS_3
  refine p1 (by kernel_rfl) ?_
  refine nilO ?_
  refine thenK_n <| ?_
  refine seqE ?_
  refine seqE ?_
  refine regionE ?_
  refine p1 (by kernel_rfl) ?_
  refine nilO ?_
  refine thenK_n <| ?_
  refine blockE ?_
  refine loopN 5 ?_
  refine roundS ?_
  refine seqE ?_
  refine seqE ?_
  refine regionE ?_
  refine p6 (by kernel_rfl) ?_
  refine nilO ?_
  refine thenK_n <| ?_
  refine condE_true (by kernel_rfl) ?_
  refine skipE ?_
  refine thenK_n <| ?_
  refine seqE ?_
  refine blockE ?_
  refine seqE ?_
  refine regionE ?_
  refine p5 (by kernel_rfl) ?_
  refine sL hS_3 1 1 (.slice a0 n0 k0) (Try.isAgg44 _) ?_
  refine p1 (by kernel_rfl) ?_
  refine nilO ?_
  refine thenK_n <| ?_
  refine seqE ?_
  refine regionE ?_
  refine p3 (by kernel_rfl) ?_
  refine nilO ?_
  refine thenK_n <| ?_
  by_cases hc_4 : (((n0 : Nat) : Int) : Int) > 0
  · refine cT (decide ((((n0 : Nat) : Int) : Int) > 0)) (decide_eq_true hc_4) ?_
    refine seqE ?_
    refine drawE [4, 8] [] [(true, [0, 1, 2]), (true, [3]), (true, [5, 6]), (false, [4]), (true, [7]), (false, [8])] rfl (by kernel_rfl) trivial ?_
    have hS_5 := hS_3.drew
    refine wP [0, 1, 2] rfl (by kernel_rfl) ?_
    have hP_6 := hO0.part (lo := 1) (hi := n0) (by omega) (by omega)
    refine wS (.slice (partAddr a0 k0 1 2) (n0 - 1) (k0 - 1)) rfl rfl rfl (fun w _ => Y_sl (some 1) none 1 n0 Try.runUnderlying44 Try.sizeOf33 ⟨by decide, rfl⟩ rfl (by omega) (by omega)) ?_
    refine wP [5, 6] rfl (by kernel_rfl) ?_
    refine wO rfl ?_
    have hS_7 := Sat.nilc hS_5
    have hO_8 := OwnT.nil (enc := encR) (E := 33) (sz := 2) (fun _ => rfl)
    refine sApp (nb := 16) hS_7 hO_8 0 (hP_6.rdAt 3 rfl) Try.underlying44 (i := Try.t33) rfl (fun _ => rfl) ?_
    intro a_9 cap_10 c_11 w_12 hO_13 hS_14
    change Sat _ _ (c_11 :: [(b_1, .cells #[.int .i64 0, .int .i64 0] 33 (0, 0))] :: [(p, .cells #[.int .i64 S.cap, .slice a0 n0 k0, .slice a1 n1 k1, .slice a2 n2 k2, .slice a3 n3 k3] 54 (0, 0))] :: c0 :: c1 :: c2 :: c3 :: F) at hS_14
    refine nilO ⟨trivial, ?_⟩
    refine wP [7] rfl (by kernel_rfl) ?_
    refine wO rfl ?_
    refine sT hS_14 2 1 (.slice a_9 (0 + (n0 - 1)) cap_10) [.slice a_9 (0 + (n0 - 1)) cap_10] #[.int .i64 S.cap, .slice a_9 (0 + (n0 - 1)) cap_10, .slice a1 n1 k1, .slice a2 n2 k2, .slice a3 n3 k3] Try.sizeOf44 ?_
    intro w_15 hS_16
    change Sat _ _ (c_11 :: [(b_1, .cells #[.int .i64 0, .int .i64 0] 33 (0, 0))] :: [(p, .cells #[.int .i64 S.cap, .slice a_9 (0 + (n0 - 1)) cap_10, .slice a1 n1 k1, .slice a2 n2 k2, .slice a3 n3 k3] 54 (0, 0))] :: c0 :: c1 :: c2 :: c3 :: F) at hS_16
    refine nilO ⟨trivial, ?_⟩
    refine wN ?_
    refine thenK_n <| ?_
    refine seqE ?_
    refine regionE ?_
    refine p1 (by kernel_rfl) ?_
    refine sIdxO hO0 0 0 Try.runUnderlying44 Try.sizeOf33 ?_
    intro x_17 b_18 o_19 hx_20 hp_21 hq_22
    refine sLpA hS_16 (hp_21.up 3 rfl) 0 [.int .i64 x_17.job, .int .i64 x_17.task] (Try.isAgg33 _) (Try.sizeOf33 _) ?_
    refine sT hS_16 1 0 (.agg #[.int .i64 x_17.job, .int .i64 x_17.task]) [.int .i64 x_17.job, .int .i64 x_17.task] #[.int .i64 x_17.job, .int .i64 x_17.task] Try.sizeOf33 ?_
    intro w_23 hS_24
    change Sat _ _ (c_11 :: [(b_1, .cells #[.int .i64 x_17.job, .int .i64 x_17.task] 33 (0, 0))] :: [(p, .cells #[.int .i64 S.cap, .slice a_9 (0 + (n0 - 1)) cap_10, .slice a1 n1 k1, .slice a2 n2 k2, .slice a3 n3 k3] 54 (0, 0))] :: c0 :: c1 :: c2 :: c3 :: F) at hS_24
    refine p1 (by kernel_rfl) ?_
    refine nilO ?_
    refine thenK_n <| ?_
    refine retE (blockK_r <| thenK_r <| thenK_r <| blockK_r <| thenK_r <| ?_)
    refine retN (vs := [.agg #[.int .i64 x_17.job, .int .i64 x_17.task], .bool true]) rfl (.cons (.cell _ _ _ _ (by kernel_rfl) (lvA hS_24 1 0 [.int .i64 x_17.job, .int .i64 x_17.task] (Try.isAgg33 _) (Try.sizeOf33 _) rfl rfl rfl)) (.cons (.tmp _ _ (by kernel_rfl)) .nil)) <| ?_
    have hp := Inj.pop0  hx_20
    have hS_25 := hS_24.pick 6 rfl
    have hS_26 := hS_25.pick 6 rfl
    have hS_27 := hS_26.pick 6 rfl
    have hS_28 := hS_27.pick 3 rfl
    have hS_29 := hS_28.pick 5 rfl
    change Sat _ _ ([(p, .cells #[.int .i64 S.cap, .slice a_9 (0 + (n0 - 1)) cap_10, .slice a1 n1 k1, .slice a2 n2 k2, .slice a3 n3 k3] 54 (0, 0))] :: c_11 :: c1 :: c2 :: c3 :: [(b_1, .cells #[.int .i64 x_17.job, .int .i64 x_17.task] 33 (0, 0))] :: c0 :: F) at hS_29
    have hS_30 := hS_29.dropAt 5 rfl
    have hS_31 := hS_30.dropAt 5 rfl
    change Sat _ _ ([(p, .cells #[.int .i64 S.cap, .slice a_9 (0 + (n0 - 1)) cap_10, .slice a1 n1 k1, .slice a2 n2 k2, .slice a3 n3 k3] 54 (0, 0))] :: c_11 :: c1 :: c2 :: c3 :: F) at hS_31
    have hS_32 := hS_31.merge5
    rw [hp]
    have hq := hO_13; simp only [List.nil_append] at hq; rw [tail_part _ hl0] at hq
    exact ⟨rfl, _, ⟨_, _, _, _, _, _, _, _, _, _, _, _, _, _, _, _, rfl, hq, hO1, hO2, hO3⟩, hS_32⟩
  · refine cF (decide ((((n0 : Nat) : Int) : Int) > 0)) (decide_eq_false hc_4) ?_
    refine skipE ?_
    refine blockK_n <| thenK_n <| ?_
    refine regionE ?_
    refine p3 (by kernel_rfl) ?_
    refine nilO ?_
    refine thenK_n <| ?_
    refine roundS ?_
    refine seqE ?_
    refine seqE ?_
    refine regionE ?_
    refine p6 (by kernel_rfl) ?_
    refine nilO ?_
    refine thenK_n <| ?_
    refine condE_true (by kernel_rfl) ?_
    refine skipE ?_
    refine thenK_n <| ?_
    refine seqE ?_
    refine blockE ?_
    refine seqE ?_
    refine regionE ?_
    refine p5 (by kernel_rfl) ?_
    refine sL hS_3 1 2 (.slice a1 n1 k1) (Try.isAgg44 _) ?_
    refine p1 (by kernel_rfl) ?_
    refine nilO ?_
    refine thenK_n <| ?_
    refine seqE ?_
    refine regionE ?_
    refine p3 (by kernel_rfl) ?_
    refine nilO ?_
    refine thenK_n <| ?_
    by_cases hc_33 : (((n1 : Nat) : Int) : Int) > 0
    · refine cT (decide ((((n1 : Nat) : Int) : Int) > 0)) (decide_eq_true hc_33) ?_
      refine seqE ?_
      refine drawE [4, 8] [] [(true, [0, 1, 2]), (true, [3]), (true, [5, 6]), (false, [4]), (true, [7]), (false, [8])] rfl (by kernel_rfl) trivial ?_
      have hS_34 := hS_3.drew
      refine wP [0, 1, 2] rfl (by kernel_rfl) ?_
      have hP_35 := hO1.part (lo := 1) (hi := n1) (by omega) (by omega)
      refine wS (.slice (partAddr a1 k1 1 2) (n1 - 1) (k1 - 1)) rfl rfl rfl (fun w _ => Y_sl (some 1) none 1 n1 Try.runUnderlying44 Try.sizeOf33 ⟨by decide, rfl⟩ rfl (by omega) (by omega)) ?_
      refine wP [5, 6] rfl (by kernel_rfl) ?_
      refine wO rfl ?_
      have hS_36 := Sat.nilc hS_34
      have hO_37 := OwnT.nil (enc := encR) (E := 33) (sz := 2) (fun _ => rfl)
      refine sApp (nb := 16) hS_36 hO_37 0 (hP_35.rdAt 4 rfl) Try.underlying44 (i := Try.t33) rfl (fun _ => rfl) ?_
      intro a_38 cap_39 c_40 w_41 hO_42 hS_43
      change Sat _ _ (c_40 :: [(b_1, .cells #[.int .i64 0, .int .i64 0] 33 (0, 0))] :: [(p, .cells #[.int .i64 S.cap, .slice a0 n0 k0, .slice a1 n1 k1, .slice a2 n2 k2, .slice a3 n3 k3] 54 (0, 0))] :: c0 :: c1 :: c2 :: c3 :: F) at hS_43
      refine nilO ⟨trivial, ?_⟩
      refine wP [7] rfl (by kernel_rfl) ?_
      refine wO rfl ?_
      refine sT hS_43 2 2 (.slice a_38 (0 + (n1 - 1)) cap_39) [.slice a_38 (0 + (n1 - 1)) cap_39] #[.int .i64 S.cap, .slice a0 n0 k0, .slice a_38 (0 + (n1 - 1)) cap_39, .slice a2 n2 k2, .slice a3 n3 k3] Try.sizeOf44 ?_
      intro w_44 hS_45
      change Sat _ _ (c_40 :: [(b_1, .cells #[.int .i64 0, .int .i64 0] 33 (0, 0))] :: [(p, .cells #[.int .i64 S.cap, .slice a0 n0 k0, .slice a_38 (0 + (n1 - 1)) cap_39, .slice a2 n2 k2, .slice a3 n3 k3] 54 (0, 0))] :: c0 :: c1 :: c2 :: c3 :: F) at hS_45
      refine nilO ⟨trivial, ?_⟩
      refine wN ?_
      refine thenK_n <| ?_
      refine seqE ?_
      refine regionE ?_
      refine p1 (by kernel_rfl) ?_
      refine sIdxO hO1 0 0 Try.runUnderlying44 Try.sizeOf33 ?_
      intro x_46 b_47 o_48 hx_49 hp_50 hq_51
      refine sLpA hS_45 (hp_50.up 4 rfl) 0 [.int .i64 x_46.job, .int .i64 x_46.task] (Try.isAgg33 _) (Try.sizeOf33 _) ?_
      refine sT hS_45 1 0 (.agg #[.int .i64 x_46.job, .int .i64 x_46.task]) [.int .i64 x_46.job, .int .i64 x_46.task] #[.int .i64 x_46.job, .int .i64 x_46.task] Try.sizeOf33 ?_
      intro w_52 hS_53
      change Sat _ _ (c_40 :: [(b_1, .cells #[.int .i64 x_46.job, .int .i64 x_46.task] 33 (0, 0))] :: [(p, .cells #[.int .i64 S.cap, .slice a0 n0 k0, .slice a_38 (0 + (n1 - 1)) cap_39, .slice a2 n2 k2, .slice a3 n3 k3] 54 (0, 0))] :: c0 :: c1 :: c2 :: c3 :: F) at hS_53
      refine p1 (by kernel_rfl) ?_
      refine nilO ?_
      refine thenK_n <| ?_
      refine retE (blockK_r <| thenK_r <| thenK_r <| blockK_r <| thenK_r <| ?_)
      refine retN (vs := [.agg #[.int .i64 x_46.job, .int .i64 x_46.task], .bool true]) rfl (.cons (.cell _ _ _ _ (by kernel_rfl) (lvA hS_53 1 0 [.int .i64 x_46.job, .int .i64 x_46.task] (Try.isAgg33 _) (Try.sizeOf33 _) rfl rfl rfl)) (.cons (.tmp _ _ (by kernel_rfl)) .nil)) <| ?_
      have hp := Inj.pop1 (Inj.nil_of hl0 hc_4) hx_49
      have hS_54 := hS_53.pick 6 rfl
      have hS_55 := hS_54.pick 6 rfl
      have hS_56 := hS_55.pick 2 rfl
      have hS_57 := hS_56.pick 5 rfl
      have hS_58 := hS_57.pick 5 rfl
      change Sat _ _ ([(p, .cells #[.int .i64 S.cap, .slice a0 n0 k0, .slice a_38 (0 + (n1 - 1)) cap_39, .slice a2 n2 k2, .slice a3 n3 k3] 54 (0, 0))] :: c0 :: c_40 :: c2 :: c3 :: [(b_1, .cells #[.int .i64 x_46.job, .int .i64 x_46.task] 33 (0, 0))] :: c1 :: F) at hS_58
      have hS_59 := hS_58.dropAt 5 rfl
      have hS_60 := hS_59.dropAt 5 rfl
      change Sat _ _ ([(p, .cells #[.int .i64 S.cap, .slice a0 n0 k0, .slice a_38 (0 + (n1 - 1)) cap_39, .slice a2 n2 k2, .slice a3 n3 k3] 54 (0, 0))] :: c0 :: c_40 :: c2 :: c3 :: F) at hS_60
      have hS_61 := hS_60.merge5
      rw [hp]
      have hq := hO_42; simp only [List.nil_append] at hq; rw [tail_part _ hl1] at hq
      exact ⟨rfl, _, ⟨_, _, _, _, _, _, _, _, _, _, _, _, _, _, _, _, rfl, hO0, hq, hO2, hO3⟩, hS_61⟩
    · refine cF (decide ((((n1 : Nat) : Int) : Int) > 0)) (decide_eq_false hc_33) ?_
      refine skipE ?_
      refine blockK_n <| thenK_n <| ?_
      refine regionE ?_
      refine p3 (by kernel_rfl) ?_
      refine nilO ?_
      refine thenK_n <| ?_
      refine roundS ?_
      refine seqE ?_
      refine seqE ?_
      refine regionE ?_
      refine p6 (by kernel_rfl) ?_
      refine nilO ?_
      refine thenK_n <| ?_
      refine condE_true (by kernel_rfl) ?_
      refine skipE ?_
      refine thenK_n <| ?_
      refine seqE ?_
      refine blockE ?_
      refine seqE ?_
      refine regionE ?_
      refine p5 (by kernel_rfl) ?_
      refine sL hS_3 1 3 (.slice a2 n2 k2) (Try.isAgg44 _) ?_
      refine p1 (by kernel_rfl) ?_
      refine nilO ?_
      refine thenK_n <| ?_
      refine seqE ?_
      refine regionE ?_
      refine p3 (by kernel_rfl) ?_
      refine nilO ?_
      refine thenK_n <| ?_
      by_cases hc_62 : (((n2 : Nat) : Int) : Int) > 0
      · refine cT (decide ((((n2 : Nat) : Int) : Int) > 0)) (decide_eq_true hc_62) ?_
        refine seqE ?_
        refine drawE [4, 8] [] [(true, [0, 1, 2]), (true, [3]), (true, [5, 6]), (false, [4]), (true, [7]), (false, [8])] rfl (by kernel_rfl) trivial ?_
        have hS_63 := hS_3.drew
        refine wP [0, 1, 2] rfl (by kernel_rfl) ?_
        have hP_64 := hO2.part (lo := 1) (hi := n2) (by omega) (by omega)
        refine wS (.slice (partAddr a2 k2 1 2) (n2 - 1) (k2 - 1)) rfl rfl rfl (fun w _ => Y_sl (some 1) none 1 n2 Try.runUnderlying44 Try.sizeOf33 ⟨by decide, rfl⟩ rfl (by omega) (by omega)) ?_
        refine wP [5, 6] rfl (by kernel_rfl) ?_
        refine wO rfl ?_
        have hS_65 := Sat.nilc hS_63
        have hO_66 := OwnT.nil (enc := encR) (E := 33) (sz := 2) (fun _ => rfl)
        refine sApp (nb := 16) hS_65 hO_66 0 (hP_64.rdAt 5 rfl) Try.underlying44 (i := Try.t33) rfl (fun _ => rfl) ?_
        intro a_67 cap_68 c_69 w_70 hO_71 hS_72
        change Sat _ _ (c_69 :: [(b_1, .cells #[.int .i64 0, .int .i64 0] 33 (0, 0))] :: [(p, .cells #[.int .i64 S.cap, .slice a0 n0 k0, .slice a1 n1 k1, .slice a2 n2 k2, .slice a3 n3 k3] 54 (0, 0))] :: c0 :: c1 :: c2 :: c3 :: F) at hS_72
        refine nilO ⟨trivial, ?_⟩
        refine wP [7] rfl (by kernel_rfl) ?_
        refine wO rfl ?_
        refine sT hS_72 2 3 (.slice a_67 (0 + (n2 - 1)) cap_68) [.slice a_67 (0 + (n2 - 1)) cap_68] #[.int .i64 S.cap, .slice a0 n0 k0, .slice a1 n1 k1, .slice a_67 (0 + (n2 - 1)) cap_68, .slice a3 n3 k3] Try.sizeOf44 ?_
        intro w_73 hS_74
        change Sat _ _ (c_69 :: [(b_1, .cells #[.int .i64 0, .int .i64 0] 33 (0, 0))] :: [(p, .cells #[.int .i64 S.cap, .slice a0 n0 k0, .slice a1 n1 k1, .slice a_67 (0 + (n2 - 1)) cap_68, .slice a3 n3 k3] 54 (0, 0))] :: c0 :: c1 :: c2 :: c3 :: F) at hS_74
        refine nilO ⟨trivial, ?_⟩
        refine wN ?_
        refine thenK_n <| ?_
        refine seqE ?_
        refine regionE ?_
        refine p1 (by kernel_rfl) ?_
        refine sIdxO hO2 0 0 Try.runUnderlying44 Try.sizeOf33 ?_
        intro x_75 b_76 o_77 hx_78 hp_79 hq_80
        refine sLpA hS_74 (hp_79.up 5 rfl) 0 [.int .i64 x_75.job, .int .i64 x_75.task] (Try.isAgg33 _) (Try.sizeOf33 _) ?_
        refine sT hS_74 1 0 (.agg #[.int .i64 x_75.job, .int .i64 x_75.task]) [.int .i64 x_75.job, .int .i64 x_75.task] #[.int .i64 x_75.job, .int .i64 x_75.task] Try.sizeOf33 ?_
        intro w_81 hS_82
        change Sat _ _ (c_69 :: [(b_1, .cells #[.int .i64 x_75.job, .int .i64 x_75.task] 33 (0, 0))] :: [(p, .cells #[.int .i64 S.cap, .slice a0 n0 k0, .slice a1 n1 k1, .slice a_67 (0 + (n2 - 1)) cap_68, .slice a3 n3 k3] 54 (0, 0))] :: c0 :: c1 :: c2 :: c3 :: F) at hS_82
        refine p1 (by kernel_rfl) ?_
        refine nilO ?_
        refine thenK_n <| ?_
        refine retE (blockK_r <| thenK_r <| thenK_r <| blockK_r <| thenK_r <| ?_)
        refine retN (vs := [.agg #[.int .i64 x_75.job, .int .i64 x_75.task], .bool true]) rfl (.cons (.cell _ _ _ _ (by kernel_rfl) (lvA hS_82 1 0 [.int .i64 x_75.job, .int .i64 x_75.task] (Try.isAgg33 _) (Try.sizeOf33 _) rfl rfl rfl)) (.cons (.tmp _ _ (by kernel_rfl)) .nil)) <| ?_
        have hp := Inj.pop2 (Inj.nil_of hl0 hc_4) (Inj.nil_of hl1 hc_33) hx_78
        have hS_83 := hS_82.pick 6 rfl
        have hS_84 := hS_83.pick 1 rfl
        have hS_85 := hS_84.pick 5 rfl
        have hS_86 := hS_85.pick 5 rfl
        have hS_87 := hS_86.pick 5 rfl
        change Sat _ _ ([(p, .cells #[.int .i64 S.cap, .slice a0 n0 k0, .slice a1 n1 k1, .slice a_67 (0 + (n2 - 1)) cap_68, .slice a3 n3 k3] 54 (0, 0))] :: c0 :: c1 :: c_69 :: c3 :: [(b_1, .cells #[.int .i64 x_75.job, .int .i64 x_75.task] 33 (0, 0))] :: c2 :: F) at hS_87
        have hS_88 := hS_87.dropAt 5 rfl
        have hS_89 := hS_88.dropAt 5 rfl
        change Sat _ _ ([(p, .cells #[.int .i64 S.cap, .slice a0 n0 k0, .slice a1 n1 k1, .slice a_67 (0 + (n2 - 1)) cap_68, .slice a3 n3 k3] 54 (0, 0))] :: c0 :: c1 :: c_69 :: c3 :: F) at hS_89
        have hS_90 := hS_89.merge5
        rw [hp]
        have hq := hO_71; simp only [List.nil_append] at hq; rw [tail_part _ hl2] at hq
        exact ⟨rfl, _, ⟨_, _, _, _, _, _, _, _, _, _, _, _, _, _, _, _, rfl, hO0, hO1, hq, hO3⟩, hS_90⟩
      · refine cF (decide ((((n2 : Nat) : Int) : Int) > 0)) (decide_eq_false hc_62) ?_
        refine skipE ?_
        refine blockK_n <| thenK_n <| ?_
        refine regionE ?_
        refine p3 (by kernel_rfl) ?_
        refine nilO ?_
        refine thenK_n <| ?_
        refine roundS ?_
        refine seqE ?_
        refine seqE ?_
        refine regionE ?_
        refine p6 (by kernel_rfl) ?_
        refine nilO ?_
        refine thenK_n <| ?_
        refine condE_true (by kernel_rfl) ?_
        refine skipE ?_
        refine thenK_n <| ?_
        refine seqE ?_
        refine blockE ?_
        refine seqE ?_
        refine regionE ?_
        refine p5 (by kernel_rfl) ?_
        refine sL hS_3 1 4 (.slice a3 n3 k3) (Try.isAgg44 _) ?_
        refine p1 (by kernel_rfl) ?_
        refine nilO ?_
        refine thenK_n <| ?_
        refine seqE ?_
        refine regionE ?_
        refine p3 (by kernel_rfl) ?_
        refine nilO ?_
        refine thenK_n <| ?_
        by_cases hc_91 : (((n3 : Nat) : Int) : Int) > 0
        · refine cT (decide ((((n3 : Nat) : Int) : Int) > 0)) (decide_eq_true hc_91) ?_
          refine seqE ?_
          refine drawE [4, 8] [] [(true, [0, 1, 2]), (true, [3]), (true, [5, 6]), (false, [4]), (true, [7]), (false, [8])] rfl (by kernel_rfl) trivial ?_
          have hS_92 := hS_3.drew
          refine wP [0, 1, 2] rfl (by kernel_rfl) ?_
          have hP_93 := hO3.part (lo := 1) (hi := n3) (by omega) (by omega)
          refine wS (.slice (partAddr a3 k3 1 2) (n3 - 1) (k3 - 1)) rfl rfl rfl (fun w _ => Y_sl (some 1) none 1 n3 Try.runUnderlying44 Try.sizeOf33 ⟨by decide, rfl⟩ rfl (by omega) (by omega)) ?_
          refine wP [5, 6] rfl (by kernel_rfl) ?_
          refine wO rfl ?_
          have hS_94 := Sat.nilc hS_92
          have hO_95 := OwnT.nil (enc := encR) (E := 33) (sz := 2) (fun _ => rfl)
          refine sApp (nb := 16) hS_94 hO_95 0 (hP_93.rdAt 6 rfl) Try.underlying44 (i := Try.t33) rfl (fun _ => rfl) ?_
          intro a_96 cap_97 c_98 w_99 hO_100 hS_101
          change Sat _ _ (c_98 :: [(b_1, .cells #[.int .i64 0, .int .i64 0] 33 (0, 0))] :: [(p, .cells #[.int .i64 S.cap, .slice a0 n0 k0, .slice a1 n1 k1, .slice a2 n2 k2, .slice a3 n3 k3] 54 (0, 0))] :: c0 :: c1 :: c2 :: c3 :: F) at hS_101
          refine nilO ⟨trivial, ?_⟩
          refine wP [7] rfl (by kernel_rfl) ?_
          refine wO rfl ?_
          refine sT hS_101 2 4 (.slice a_96 (0 + (n3 - 1)) cap_97) [.slice a_96 (0 + (n3 - 1)) cap_97] #[.int .i64 S.cap, .slice a0 n0 k0, .slice a1 n1 k1, .slice a2 n2 k2, .slice a_96 (0 + (n3 - 1)) cap_97] Try.sizeOf44 ?_
          intro w_102 hS_103
          change Sat _ _ (c_98 :: [(b_1, .cells #[.int .i64 0, .int .i64 0] 33 (0, 0))] :: [(p, .cells #[.int .i64 S.cap, .slice a0 n0 k0, .slice a1 n1 k1, .slice a2 n2 k2, .slice a_96 (0 + (n3 - 1)) cap_97] 54 (0, 0))] :: c0 :: c1 :: c2 :: c3 :: F) at hS_103
          refine nilO ⟨trivial, ?_⟩
          refine wN ?_
          refine thenK_n <| ?_
          refine seqE ?_
          refine regionE ?_
          refine p1 (by kernel_rfl) ?_
          refine sIdxO hO3 0 0 Try.runUnderlying44 Try.sizeOf33 ?_
          intro x_104 b_105 o_106 hx_107 hp_108 hq_109
          refine sLpA hS_103 (hp_108.up 6 rfl) 0 [.int .i64 x_104.job, .int .i64 x_104.task] (Try.isAgg33 _) (Try.sizeOf33 _) ?_
          refine sT hS_103 1 0 (.agg #[.int .i64 x_104.job, .int .i64 x_104.task]) [.int .i64 x_104.job, .int .i64 x_104.task] #[.int .i64 x_104.job, .int .i64 x_104.task] Try.sizeOf33 ?_
          intro w_110 hS_111
          change Sat _ _ (c_98 :: [(b_1, .cells #[.int .i64 x_104.job, .int .i64 x_104.task] 33 (0, 0))] :: [(p, .cells #[.int .i64 S.cap, .slice a0 n0 k0, .slice a1 n1 k1, .slice a2 n2 k2, .slice a_96 (0 + (n3 - 1)) cap_97] 54 (0, 0))] :: c0 :: c1 :: c2 :: c3 :: F) at hS_111
          refine p1 (by kernel_rfl) ?_
          refine nilO ?_
          refine thenK_n <| ?_
          refine retE (blockK_r <| thenK_r <| thenK_r <| blockK_r <| thenK_r <| ?_)
          refine retN (vs := [.agg #[.int .i64 x_104.job, .int .i64 x_104.task], .bool true]) rfl (.cons (.cell _ _ _ _ (by kernel_rfl) (lvA hS_111 1 0 [.int .i64 x_104.job, .int .i64 x_104.task] (Try.isAgg33 _) (Try.sizeOf33 _) rfl rfl rfl)) (.cons (.tmp _ _ (by kernel_rfl)) .nil)) <| ?_
          have hp := Inj.pop3 (Inj.nil_of hl0 hc_4) (Inj.nil_of hl1 hc_33) (Inj.nil_of hl2 hc_62) hx_107
          have hS_112 := hS_111.pick 0 rfl
          have hS_113 := hS_112.pick 5 rfl
          have hS_114 := hS_113.pick 5 rfl
          have hS_115 := hS_114.pick 5 rfl
          have hS_116 := hS_115.pick 5 rfl
          change Sat _ _ ([(p, .cells #[.int .i64 S.cap, .slice a0 n0 k0, .slice a1 n1 k1, .slice a2 n2 k2, .slice a_96 (0 + (n3 - 1)) cap_97] 54 (0, 0))] :: c0 :: c1 :: c2 :: c_98 :: [(b_1, .cells #[.int .i64 x_104.job, .int .i64 x_104.task] 33 (0, 0))] :: c3 :: F) at hS_116
          have hS_117 := hS_116.dropAt 5 rfl
          have hS_118 := hS_117.dropAt 5 rfl
          change Sat _ _ ([(p, .cells #[.int .i64 S.cap, .slice a0 n0 k0, .slice a1 n1 k1, .slice a2 n2 k2, .slice a_96 (0 + (n3 - 1)) cap_97] 54 (0, 0))] :: c0 :: c1 :: c2 :: c_98 :: F) at hS_118
          have hS_119 := hS_118.merge5
          rw [hp]
          have hq := hO_100; simp only [List.nil_append] at hq; rw [tail_part _ hl3] at hq
          exact ⟨rfl, _, ⟨_, _, _, _, _, _, _, _, _, _, _, _, _, _, _, _, rfl, hO0, hO1, hO2, hq⟩, hS_119⟩
        · refine cF (decide ((((n3 : Nat) : Int) : Int) > 0)) (decide_eq_false hc_91) ?_
          refine skipE ?_
          refine blockK_n <| thenK_n <| ?_
          refine regionE ?_
          refine p3 (by kernel_rfl) ?_
          refine nilO ?_
          refine thenK_n <| ?_
          refine roundS ?_
          refine seqE ?_
          refine seqE ?_
          refine regionE ?_
          refine p6 (by kernel_rfl) ?_
          refine nilO ?_
          refine thenK_n <| ?_
          refine condE_false (by kernel_rfl) ?_
          refine exitE (thenK_x <| thenK_x <| blockK_x <| ?_)
          refine thenK_n <| ?_
          refine seqE ?_
          refine regionE ?_
          refine p1 (by kernel_rfl) ?_
          refine sT hS_3 0 0 (.agg #[.int .i64 0, .int .i64 0]) [.int .i64 0, .int .i64 0] #[.int .i64 0, .int .i64 0] Try.sizeOf33 ?_
          intro w_120 hS_121
          change Sat _ _ ([(b_1, .cells #[.int .i64 0, .int .i64 0] 33 (0, 0))] :: [(p, .cells #[.int .i64 S.cap, .slice a0 n0 k0, .slice a1 n1 k1, .slice a2 n2 k2, .slice a3 n3 k3] 54 (0, 0))] :: c0 :: c1 :: c2 :: c3 :: F) at hS_121
          refine p1 (by kernel_rfl) ?_
          refine nilO ?_
          refine thenK_n <| ?_
          refine retE ?_
          refine retN (vs := [.agg #[.int .i64 0, .int .i64 0], .bool false]) rfl (.cons (.cell _ _ _ _ (by kernel_rfl) (lvA hS_121 0 0 [.int .i64 0, .int .i64 0] (Try.isAgg33 _) (Try.sizeOf33 _) rfl rfl rfl)) (.cons (.tmp _ _ (by kernel_rfl)) .nil)) <| ?_
          have hp := Inj.popn (Inj.nil_of hl0 hc_4) (Inj.nil_of hl1 hc_33) (Inj.nil_of hl2 hc_62) (Inj.nil_of hl3 hc_91)
          have hS_122 := hS_121.pick 5 rfl
          have hS_123 := hS_122.pick 5 rfl
          have hS_124 := hS_123.pick 5 rfl
          have hS_125 := hS_124.pick 5 rfl
          have hS_126 := hS_125.pick 5 rfl
          change Sat _ _ ([(p, .cells #[.int .i64 S.cap, .slice a0 n0 k0, .slice a1 n1 k1, .slice a2 n2 k2, .slice a3 n3 k3] 54 (0, 0))] :: c0 :: c1 :: c2 :: c3 :: [(b_1, .cells #[.int .i64 0, .int .i64 0] 33 (0, 0))] :: F) at hS_126
          have hS_127 := hS_126.dropAt 5 rfl
          change Sat _ _ ([(p, .cells #[.int .i64 S.cap, .slice a0 n0 k0, .slice a1 n1 k1, .slice a2 n2 k2, .slice a3 n3 k3] 54 (0, 0))] :: c0 :: c1 :: c2 :: c3 :: F) at hS_127
          have hS_128 := hS_127.merge5
          rw [hp]
          exact ⟨rfl, _, ⟨_, _, _, _, _, _, _, _, _, _, _, _, _, _, _, _, rfl, hO0, hO1, hO2, hO3⟩, hS_128⟩
theorem rnj_pop_nil (W w : World) (cs : List Chunk) (hS : Sat W w cs) :
    Calls Try.prog 20 #[.pointer none] w fun e w' => e = .returned (.tuple #[.agg #[.int .i64 0, .int .i64 0], .bool false]) ∧ Sat W w' cs := by
  refine callsE (n := 35) Try.func20 rfl rfl (Nat.le_of_ble_eq_true rfl) ?_
  refine seqE ?_
  refine regionE ?_
  refine sAlloc hS Try.zeroValue33 ?_
  intro b_1 w_2 hS_3
  change Sat _ _ ([(b_1, .cells #[.int .i64 0, .int .i64 0] 33 (0, 0))] :: cs) at hS_3
  refine p1 (by kernel_rfl) ?_
  refine nilO ?_
  refine thenK_n <| ?_
  refine seqE ?_
  refine seqE ?_
  refine regionE ?_
  refine p1 (by kernel_rfl) ?_
  refine nilO ?_
  refine thenK_n <| ?_
  refine blockE ?_
  refine loopN 5 ?_
  refine roundS ?_
  refine seqE ?_
  refine seqE ?_
  refine regionE ?_
  refine p6 (by kernel_rfl) ?_
  refine nilO ?_
  refine thenK_n <| ?_
  refine condE_false (by kernel_rfl) ?_
  refine exitE (thenK_x <| thenK_x <| blockK_x <| ?_)
  refine thenK_n <| ?_
  refine seqE ?_
  refine regionE ?_
  refine p1 (by kernel_rfl) ?_
  refine sT hS_3 0 0 (.agg #[.int .i64 0, .int .i64 0]) [.int .i64 0, .int .i64 0] #[.int .i64 0, .int .i64 0] Try.sizeOf33 ?_
  intro w_4 hS_5
  change Sat _ _ ([(b_1, .cells #[.int .i64 0, .int .i64 0] 33 (0, 0))] :: cs) at hS_5
  refine p1 (by kernel_rfl) ?_
  refine nilO ?_
  refine thenK_n <| ?_
  refine retE ?_
  refine retN (vs := [.agg #[.int .i64 0, .int .i64 0], .bool false]) rfl (.cons (.cell _ _ _ _ (by kernel_rfl) (lvA hS_5 0 0 [.int .i64 0, .int .i64 0] (Try.isAgg33 _) (Try.sizeOf33 _) rfl rfl rfl)) (.cons (.tmp _ _ (by kernel_rfl)) .nil)) <| ?_
  exact ⟨rfl, hS_5.tail⟩
end Go.Proofs.Ytmbiiginpomjnaa
