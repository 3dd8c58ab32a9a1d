import Derived.Test.YtimkhljglpookaaGreatDq
namespace Go.Proofs.YtimkhljglpookaaGreat
open Go Go.E
set_option linter.unusedVariables false
set_option linter.unusedSimpArgs false
set_option linter.unnecessarySimpa false
set_option maxRecDepth 100000
set_option maxHeartbeats 2000000
variable {W w : World} {H : Chunk} {F : List Chunk}

structure QS where
  cap : Int
  bs : List (List Ref)
def totB (bs : List (List Ref)) : Int := (((bs.map List.length).sum : Nat) : Int)
def pushCQ (S : QS) : Int := if S.cap ≤ totB S.bs then 19 else 0
def pushB : List (List Ref) → Nat → Ref → List (List Ref)
  | [], _, _ => []
  | l :: t, 0, r => (l ++ [r]) :: t
  | l :: t, i + 1, r => l :: pushB t i r
def pushQ (S : QS) (r : Ref) (b : Int) : QS := if pushCQ S = 0 then { S with bs := pushB S.bs b.toNat r } else S
def popB : List (List Ref) → Option (Ref × List (List Ref))
  | [] => none
  | [] :: t => (popB t).map fun q => (q.1, [] :: q.2)
  | (x :: l) :: t => some (x, l :: t)
theorem popB_nil {l : List Ref} (h : l.length = 0) (t : List (List Ref)) : popB (l :: t) = (popB t).map fun q => (q.1, l :: q.2) := by
  obtain rfl := List.length_eq_zero_iff.1 h; rfl
theorem popB_at {l : List Ref} {x : Ref} (h : l[0]? = some x) (t : List (List Ref)) : popB (l :: t) = some (x, l.tail :: t) := by
  cases l with
  | nil => cases h
  | cons y l => cases h; rfl
theorem tail_part {l : List Ref} {n : Nat} (h : l.length = n) : [] ++ (l.drop 1).take (n - 1) = l.tail := by
  rw [List.nil_append, List.take_of_length_le (by simp; omega), List.drop_one]

def InjR (p : Nat) (S : QS) (M : Chunk) : Prop := ∃ (a0 : Option Addr) (n0 k0 : Nat) (l0 : List Ref) (c0 : Chunk) (a1 : Option Addr) (n1 k1 : Nat) (l1 : List Ref) (c1 : Chunk) (a2 : Option Addr) (n2 k2 : Nat) (l2 : List Ref) (c2 : Chunk) (a3 : Option Addr) (n3 k3 : Nat) (l3 : List Ref) (c3 : Chunk), M = [(p, .cells #[.int .i64 S.cap, .slice a0 n0 k0, .slice a1 n1 k1, .slice a2 n2 k2, .slice a3 n3 k3] 133 (0, 0))] ++ (c0 ++ (c1 ++ (c2 ++ c3))) ∧ OwnT encRef 40 2 a0 n0 k0 l0 c0 ∧ OwnT encRef 40 2 a1 n1 k1 l1 c1 ∧ OwnT encRef 40 2 a2 n2 k2 l2 c2 ∧ OwnT encRef 40 2 a3 n3 k3 l3 c3 ∧ S.bs = [l0, l1, l2, l3] ∧ (1 ≤ S.cap ∧ S.cap ≤ 4096) ∧ totB S.bs ≤ S.cap
theorem iq_len {p : Nat} {S : QS} {M : Chunk} (hR : InjR p S M)  (hS : Sat W w (M :: H :: F)) :
    Calls Tryz.prog 66 #[.pointer (some ⟨p, 0, none⟩)] w fun e w' => e = .returned (.int .i64 (totB S.bs)) ∧ Sat W w' (M :: H :: F) := by
  obtain ⟨a0, n0, k0, l0, c0, a1, n1, k1, l1, c1, a2, n2, k2, l2, c2, a3, n3, k3, l3, c3, rfl, hO0, hO1, hO2, hO3, hb, hw1, hw2⟩ := hR
  have hS : Sat W _ ([(p, .cells #[.int .i64 S.cap, .slice a0 n0 k0, .slice a1 n1 k1, .slice a2 n2 k2, .slice a3 n3 k3] 133 (0, 0))] :: c0 :: c1 :: c2 :: c3 :: H :: F) := Sat.perm hS (by simp)
  have ht : totB S.bs = n0 + n1 + n2 + n3 := by rw [hb]; unfold totB; simp [hO0.len, hO1.len, hO2.len, hO3.len]; omega
  have hn0 := hO0.len; have hl0 := hO0.le; have hn1 := hO1.len; have hl1 := hO1.le; have hn2 := hO2.len; have hl2 := hO2.le; have hn3 := hO3.len; have hl3 := hO3.le
  refine callsA 23 Tryz.func66 rfl ?_
  refine seqE <| regionE <| pu1 <| nilO <| thenK_n <| seqE <| regionE <| pu1 <| nilO <| thenK_n <| seqE <| seqE <| regionE <| pu1 <| nilO <| thenK_n <| blockE ?_
  refine loopN 5 ?_
  refine roundS ?_
  refine seqE <| seqE <| regionE <| pu6 <| nilO <| thenK_n <| cTt <| skipE <| thenK_n <| seqE <| blockE <| regionE <| pu6 ?_
  refine sL hS 0 1 (.slice a0 n0 k0) (Tryz.isAgg104 _) ?_
  refine pu1 ?_
  refine sAdd 0 ((n0 : Nat) : Int) ?_
  refine pu1 <| nilO <| blockK_n <| thenK_n <| regionE <| pu3 <| nilO <| thenK_n <| ?_
  refine roundS ?_
  refine seqE <| seqE <| regionE <| pu6 <| nilO <| thenK_n <| cTt <| skipE <| thenK_n <| seqE <| blockE <| regionE <| pu6 ?_
  refine sL hS 0 2 (.slice a1 n1 k1) (Tryz.isAgg104 _) ?_
  refine pu1 ?_
  refine sAdd (0 + ((n0 : Nat) : Int)) ((n1 : Nat) : Int) ?_
  refine pu1 <| nilO <| blockK_n <| thenK_n <| regionE <| pu3 <| nilO <| thenK_n <| ?_
  refine roundS ?_
  refine seqE <| seqE <| regionE <| pu6 <| nilO <| thenK_n <| cTt <| skipE <| thenK_n <| seqE <| blockE <| regionE <| pu6 ?_
  refine sL hS 0 3 (.slice a2 n2 k2) (Tryz.isAgg104 _) ?_
  refine pu1 ?_
  refine sAdd ((0 + ((n0 : Nat) : Int)) + ((n1 : Nat) : Int)) ((n2 : Nat) : Int) ?_
  refine pu1 <| nilO <| blockK_n <| thenK_n <| regionE <| pu3 <| nilO <| thenK_n <| ?_
  refine roundS ?_
  refine seqE <| seqE <| regionE <| pu6 <| nilO <| thenK_n <| cTt <| skipE <| thenK_n <| seqE <| blockE <| regionE <| pu6 ?_
  refine sL hS 0 4 (.slice a3 n3 k3) (Tryz.isAgg104 _) ?_
  refine pu1 ?_
  refine sAdd (((0 + ((n0 : Nat) : Int)) + ((n1 : Nat) : Int)) + ((n2 : Nat) : Int)) ((n3 : Nat) : Int) ?_
  refine pu1 <| nilO <| blockK_n <| thenK_n <| regionE <| pu3 <| nilO <| thenK_n <| ?_
  refine roundS ?_
  refine seqE <| seqE <| regionE <| pu6 <| nilO <| thenK_n <| cFf <| exitE <| thenK_x <| thenK_x <| blockK_x <| thenK_n <| seqE <| regionE <| pu2 <| nilO <| thenK_n <| retE <| retT [.int .i64 ((((0 + ((n0 : Nat) : Int)) + ((n1 : Nat) : Int)) + ((n2 : Nat) : Int)) + ((n3 : Nat) : Int))] <| ?_
  have hS_1 := ((((((hS.pick 5 rfl).pick 5 rfl).pick 5 rfl).pick 5 rfl).pick 5 rfl).pick 5 rfl)
  have hS_2 : Sat W _ (([(p, .cells #[.int .i64 S.cap, .slice a0 n0 k0, .slice a1 n1 k1, .slice a2 n2 k2, .slice a3 n3 k3] 133 (0, 0))] ++ (c0 ++ (c1 ++ (c2 ++ c3)))) :: H :: F) := Sat.perm (show Sat W _ ([(p, .cells #[.int .i64 S.cap, .slice a0 n0 k0, .slice a1 n1 k1, .slice a2 n2 k2, .slice a3 n3 k3] 133 (0, 0))] :: c0 :: c1 :: c2 :: c3 :: H :: F) from hS_1) (by simp)
  exact ⟨congrArg (fun z => Ending.returned (.int .i64 z)) (by omega), hS_2⟩
theorem iq_push0 {p : Nat} {S : QS} {M : Chunk} (hR : InjR p S M) (r : Ref) (hS : Sat W w (M :: H :: F)) :
    Calls Tryz.prog 39 #[.pointer (some ⟨p, 0, none⟩), .agg #[.int .i64 r.job, .int .i64 r.task], .int .i64 0] w fun e w' => ∃ M' : Chunk, e = .returned (.int .i64 (pushCQ S)) ∧ InjR p (pushQ S r 0) M' ∧ Sat W w' (M' :: H :: F) := by
  obtain ⟨a0, n0, k0, l0, c0, a1, n1, k1, l1, c1, a2, n2, k2, l2, c2, a3, n3, k3, l3, c3, rfl, hO0, hO1, hO2, hO3, hb, hw1, hw2⟩ := hR
  have hS : Sat W _ ([(p, .cells #[.int .i64 S.cap, .slice a0 n0 k0, .slice a1 n1 k1, .slice a2 n2 k2, .slice a3 n3 k3] 133 (0, 0))] :: c0 :: c1 :: c2 :: c3 :: H :: F) := Sat.perm hS (by simp)
  have ht : totB S.bs = n0 + n1 + n2 + n3 := by rw [hb]; unfold totB; simp [hO0.len, hO1.len, hO2.len, hO3.len]; omega
  have hn0 := hO0.len; have hl0 := hO0.le; have hn1 := hO1.len; have hl1 := hO1.le; have hn2 := hO2.len; have hl2 := hO2.le; have hn3 := hO3.len; have hl3 := hO3.le
  refine callsA 43 Tryz.func39 rfl ?_
  refine seqE <| regionE ?_
  refine sBox hS (.agg #[.int .i64 r.job, .int .i64 r.task]) #[.int .i64 r.job, .int .i64 r.task] ?_
  intro b_1 w_2 hS_3
  refine pu1 <| nilO <| thenK_n <| seqE <| seqE <| regionE <| pu6 <| gY ?_
  refine sL hS_3 1 0 (.int .i64 S.cap) (Tryz.isAgg3 _) ?_
  refine pu2 <| nilO <| thenK_n <| ?_
  refine cE S.cap 0 (fun hc_4 => ?_) (fun hc_4 => ?_)
  · refine seqE <| regionE <| pu1 <| nilO <| thenK_n <| retE <| thenK_r <| retT [.int .i64 20] <| ?_
    have hS_5 := (((((((hS_3.pick 6 rfl).pick 6 rfl).pick 6 rfl).pick 6 rfl).pick 6 rfl).pick 6 rfl).dropAt 6 rfl)
    have hS_6 : Sat W _ (([(p, .cells #[.int .i64 S.cap, .slice a0 n0 k0, .slice a1 n1 k1, .slice a2 n2 k2, .slice a3 n3 k3] 133 (0, 0))] ++ (c0 ++ (c1 ++ (c2 ++ c3)))) :: H :: F) := Sat.perm (show Sat W _ ([(p, .cells #[.int .i64 S.cap, .slice a0 n0 k0, .slice a1 n1 k1, .slice a2 n2 k2, .slice a3 n3 k3] 133 (0, 0))] :: c0 :: c1 :: c2 :: c3 :: H :: F) from hS_5) (by simp)
    have hq : totB [l0, l1, l2, l3] = totB S.bs := by rw [hb]
    omega
  refine skipE <| thenK_n <| seqE <| seqE <| regionE <| pu6 <| nilO <| thenK_n <| cFf <| skipE <| thenK_n <| seqE <| seqE ?_
  refine drawE [1] [(5, ⟨p, 0, none⟩, .int .i64 S.cap)] [(true, [0, 2, 3, 4]), (true, [5]), (false, [1]), (true, [6])] rfl (by kernel_rfl) ⟨.inr (hS_3.cell 1 rfl rfl), trivial⟩ ?_
  have hS_7 := hS_3.drew
  refine wU [0, 2, 3, 4] ?_
  refine wLd (.int .i64 S.cap) 0 Tryz.isAgg3 ?_
  refine wO rfl ?_
  have hS_8 := (((((((hS_7.pick 6 rfl).pick 1 rfl).pick 6 rfl).pick 6 rfl).pick 6 rfl).pick 6 rfl).pick 6 rfl)
  have hS_9 : Sat W _ (([(p, .cells #[.int .i64 S.cap, .slice a0 n0 k0, .slice a1 n1 k1, .slice a2 n2 k2, .slice a3 n3 k3] 133 (0, 0))] ++ (c0 ++ (c1 ++ (c2 ++ c3)))) :: [(b_1, .cells #[.int .i64 r.job, .int .i64 r.task] 40 (0, 0))] :: H :: F) := Sat.perm (show Sat W _ ([(p, .cells #[.int .i64 S.cap, .slice a0 n0 k0, .slice a1 n1 k1, .slice a2 n2 k2, .slice a3 n3 k3] 133 (0, 0))] :: c0 :: c1 :: c2 :: c3 :: [(b_1, .cells #[.int .i64 r.job, .int .i64 r.task] 40 (0, 0))] :: H :: F) from hS_8) (by simp)
  have ht_13 : totB [l0, l1, l2, l3] = ((n0 + n1 + n2 + n3 : Nat) : Int) := by unfold totB; simp only [List.map_cons, List.map_nil, List.sum_cons, List.sum_nil]; have h0 := (hO0).len; have h1 := (hO1).len; have h2 := (hO2).len; have h3 := (hO3).len; omega
  refine cX Tryz.call66 (iq_len (S := ⟨S.cap, [l0, l1, l2, l3]⟩) ⟨_, _, _, _, _, _, _, _, _, _, _, _, _, _, _, _, _, _, _, _, rfl, hO0, hO1, hO2, hO3, rfl, hw1, (by dsimp only; omega)⟩ (Sat.flat1 hS_9)) ?_
  rintro _ w_10 ⟨rfl, hS_11⟩
  have hS_12 : Sat W _ ([(p, .cells #[.int .i64 S.cap, .slice a0 n0 k0, .slice a1 n1 k1, .slice a2 n2 k2, .slice a3 n3 k3] 133 (0, 0))] :: c0 :: c1 :: c2 :: c3 :: [(b_1, .cells #[.int .i64 r.job, .int .i64 r.task] 40 (0, 0))] :: H :: F) := Sat.perm (Sat.unflat1 hS_11) (by simp)
  refine nilO ⟨⟨.inr (hS_12.cell 0 rfl rfl), trivial⟩, ?_⟩
  refine wU [6] ?_
  refine wN ?_
  refine thenK_n <| ?_
  refine cD ((totB [l0, l1, l2, l3]) ≥ S.cap) (fun hc_14 => ?_) (fun hc_14 => ?_)
  · refine seqE <| regionE <| pu1 <| nilO <| thenK_n <| retE <| thenK_r <| retT [.int .i64 19] <| ?_
    have hS_15 := (((((((hS_12.pick 6 rfl).pick 5 rfl).pick 5 rfl).pick 5 rfl).pick 5 rfl).pick 5 rfl).dropAt 6 rfl)
    have hS_16 : Sat W _ (([(p, .cells #[.int .i64 S.cap, .slice a0 n0 k0, .slice a1 n1 k1, .slice a2 n2 k2, .slice a3 n3 k3] 133 (0, 0))] ++ (c0 ++ (c1 ++ (c2 ++ c3)))) :: H :: F) := Sat.perm (show Sat W _ ([(p, .cells #[.int .i64 S.cap, .slice a0 n0 k0, .slice a1 n1 k1, .slice a2 n2 k2, .slice a3 n3 k3] 133 (0, 0))] :: c0 :: c1 :: c2 :: c3 :: H :: F) from hS_15) (by simp)
    have hq : totB [l0, l1, l2, l3] = totB S.bs := by rw [hb]
    have hc : pushCQ S = 19 := by unfold pushCQ; rw [if_pos (by omega)]
    have he : pushQ S r 0 = S := by unfold pushQ; rw [hc, if_neg (by decide)]
    exact ⟨_, by rw [hc]; rfl, by rw [he]; exact ⟨_, _, _, _, _, _, _, _, _, _, _, _, _, _, _, _, _, _, _, _, rfl, hO0, hO1, hO2, hO3, hb, hw1, hw2⟩, hS_16⟩
  refine skipE <| thenK_n <| seqE ?_
  refine drawE [9, 10, 14] [(7, ⟨p, 1, none⟩, .slice a0 n0 k0), (8, ⟨b_1, 0, none⟩, .int .i64 r.job), (8, ⟨b_1, 1, none⟩, .int .i64 r.task)] [(true, [0, 1, 2, 3, 4, 5, 6, 11, 12]), (true, [7]), (true, [8]), (false, [9]), (false, [10]), (true, [13]), (false, [14])] rfl (by kernel_rfl) ⟨.inr (hS_12.cell 0 rfl rfl), .inr (hS_12.cell 5 rfl rfl), .inr (hS_12.cell 5 rfl rfl), trivial⟩ ?_
  have hS_17 := hS_12.drew
  refine wU [0, 1, 2, 3, 4, 5, 6, 11, 12] ?_
  refine wLd (.slice a0 n0 k0) 0 Tryz.isAgg104 ?_
  refine wY (.agg #[.int .i64 r.job, .int .i64 r.task]) rfl (fun w hF => Y_loadF rfl (Tryz.isAgg40 w) (Tryz.sizeOf40 w) (by kernel_rfl) rfl ⟨hF 1 _ _ rfl, hF 2 _ _ rfl, trivial⟩) ?_
  refine wO rfl ?_
  refine sBS hS_17 #[.int .i64 r.job, .int .i64 r.task] Tryz.runUnderlying104 Tryz.sizeOf40 Tryz.zeroValue40 ?_
  intro b_18 w_19 hS_20
  refine nilO ⟨⟨.inr (hS_20.cell 1 rfl rfl), .inl (by kernel_rfl), .inl (by kernel_rfl), trivial⟩, ?_⟩
  refine wO rfl ?_
  refine sApp (nb := 16) hS_20 hO0 2 (RdT.blk (enc := encRef) (sz := 2) (xs := [(⟨r.job, r.task⟩ : Ref)]) (fun _ => rfl) 1 0 rfl rfl rfl (by omega)) Tryz.underlying104 (i := Tryz.t40) (by kernel_rfl) (fun _ => rfl) ?_
  intro a_21 cap_22 c_23 w_24 hO_25 hS_26
  refine nilO ⟨⟨.inl (by kernel_rfl), .inl (by kernel_rfl), .inl (by kernel_rfl), trivial⟩, ?_⟩
  refine wU [13] ?_
  refine wO rfl ?_
  refine tW hS_26 1 1 (.slice a_21 (n0 + 1) cap_22) Tryz.sizeOf104 ?_
  intro w_27 hS_28
  refine nilO ⟨⟨.inl (by kernel_rfl), .inl (by kernel_rfl), .inl (by kernel_rfl), trivial⟩, ?_⟩
  refine wN ?_
  refine thenK_n <| seqE <| regionE <| pu1 <| nilO <| thenK_n <| retE <| retT [.int .i64 0] <| ?_
  have hS_29 := ((((((((hS_28.pick 7 rfl).pick 6 rfl).pick 6 rfl).pick 6 rfl).pick 6 rfl).pick 6 rfl).dropAt 6 rfl).dropAt 6 rfl)
  have hS_30 : Sat W _ (([(p, .cells #[.int .i64 S.cap, .slice a_21 (n0 + 1) cap_22, .slice a1 n1 k1, .slice a2 n2 k2, .slice a3 n3 k3] 133 (0, 0))] ++ (c_23 ++ (c1 ++ (c2 ++ c3)))) :: H :: F) := Sat.perm (show Sat W _ ([(p, .cells #[.int .i64 S.cap, .slice a_21 (n0 + 1) cap_22, .slice a1 n1 k1, .slice a2 n2 k2, .slice a3 n3 k3] 133 (0, 0))] :: c_23 :: c1 :: c2 :: c3 :: H :: F) from hS_29) (by simp)
  have hq : totB [l0, l1, l2, l3] = totB S.bs := by rw [hb]
  have hc : pushCQ S = 0 := by unfold pushCQ; rw [if_neg (by omega)]
  have he : pushQ S r 0 = { S with bs := [(l0 ++ [(⟨r.job, r.task⟩ : Ref)]), l1, l2, l3] } := by unfold pushQ; rw [if_pos hc, hb]; rfl
  exact ⟨_, by rw [hc]; rfl, by rw [he]; exact ⟨_, _, _, _, _, _, _, _, _, _, _, _, _, _, _, _, _, _, _, _, rfl, hO_25, hO1, hO2, hO3, rfl, hw1, (by unfold totB; simp; omega)⟩, hS_30⟩
theorem iq_push1 {p : Nat} {S : QS} {M : Chunk} (hR : InjR p S M) (r : Ref) (hS : Sat W w (M :: H :: F)) :
    Calls Tryz.prog 39 #[.pointer (some ⟨p, 0, none⟩), .agg #[.int .i64 r.job, .int .i64 r.task], .int .i64 1] w fun e w' => ∃ M' : Chunk, e = .returned (.int .i64 (pushCQ S)) ∧ InjR p (pushQ S r 1) M' ∧ Sat W w' (M' :: H :: F) := by
  obtain ⟨a0, n0, k0, l0, c0, a1, n1, k1, l1, c1, a2, n2, k2, l2, c2, a3, n3, k3, l3, c3, rfl, hO0, hO1, hO2, hO3, hb, hw1, hw2⟩ := hR
  have hS : Sat W _ ([(p, .cells #[.int .i64 S.cap, .slice a0 n0 k0, .slice a1 n1 k1, .slice a2 n2 k2, .slice a3 n3 k3] 133 (0, 0))] :: c0 :: c1 :: c2 :: c3 :: H :: F) := Sat.perm hS (by simp)
  have ht : totB S.bs = n0 + n1 + n2 + n3 := by rw [hb]; unfold totB; simp [hO0.len, hO1.len, hO2.len, hO3.len]; omega
  have hn0 := hO0.len; have hl0 := hO0.le; have hn1 := hO1.len; have hl1 := hO1.le; have hn2 := hO2.len; have hl2 := hO2.le; have hn3 := hO3.len; have hl3 := hO3.le
  refine callsA 43 Tryz.func39 rfl ?_
  refine seqE <| regionE ?_
  refine sBox hS (.agg #[.int .i64 r.job, .int .i64 r.task]) #[.int .i64 r.job, .int .i64 r.task] ?_
  intro b_1 w_2 hS_3
  refine pu1 <| nilO <| thenK_n <| seqE <| seqE <| regionE <| pu6 <| gY ?_
  refine sL hS_3 1 0 (.int .i64 S.cap) (Tryz.isAgg3 _) ?_
  refine pu2 <| nilO <| thenK_n <| ?_
  refine cE S.cap 0 (fun hc_4 => ?_) (fun hc_4 => ?_)
  · refine seqE <| regionE <| pu1 <| nilO <| thenK_n <| retE <| thenK_r <| retT [.int .i64 20] <| ?_
    have hS_5 := (((((((hS_3.pick 6 rfl).pick 6 rfl).pick 6 rfl).pick 6 rfl).pick 6 rfl).pick 6 rfl).dropAt 6 rfl)
    have hS_6 : Sat W _ (([(p, .cells #[.int .i64 S.cap, .slice a0 n0 k0, .slice a1 n1 k1, .slice a2 n2 k2, .slice a3 n3 k3] 133 (0, 0))] ++ (c0 ++ (c1 ++ (c2 ++ c3)))) :: H :: F) := Sat.perm (show Sat W _ ([(p, .cells #[.int .i64 S.cap, .slice a0 n0 k0, .slice a1 n1 k1, .slice a2 n2 k2, .slice a3 n3 k3] 133 (0, 0))] :: c0 :: c1 :: c2 :: c3 :: H :: F) from hS_5) (by simp)
    have hq : totB [l0, l1, l2, l3] = totB S.bs := by rw [hb]
    omega
  refine skipE <| thenK_n <| seqE <| seqE <| regionE <| pu6 <| nilO <| thenK_n <| cFf <| skipE <| thenK_n <| seqE <| seqE ?_
  refine drawE [1] [(5, ⟨p, 0, none⟩, .int .i64 S.cap)] [(true, [0, 2, 3, 4]), (true, [5]), (false, [1]), (true, [6])] rfl (by kernel_rfl) ⟨.inr (hS_3.cell 1 rfl rfl), trivial⟩ ?_
  have hS_7 := hS_3.drew
  refine wU [0, 2, 3, 4] ?_
  refine wLd (.int .i64 S.cap) 0 Tryz.isAgg3 ?_
  refine wO rfl ?_
  have hS_8 := (((((((hS_7.pick 6 rfl).pick 1 rfl).pick 6 rfl).pick 6 rfl).pick 6 rfl).pick 6 rfl).pick 6 rfl)
  have hS_9 : Sat W _ (([(p, .cells #[.int .i64 S.cap, .slice a0 n0 k0, .slice a1 n1 k1, .slice a2 n2 k2, .slice a3 n3 k3] 133 (0, 0))] ++ (c0 ++ (c1 ++ (c2 ++ c3)))) :: [(b_1, .cells #[.int .i64 r.job, .int .i64 r.task] 40 (0, 0))] :: H :: F) := Sat.perm (show Sat W _ ([(p, .cells #[.int .i64 S.cap, .slice a0 n0 k0, .slice a1 n1 k1, .slice a2 n2 k2, .slice a3 n3 k3] 133 (0, 0))] :: c0 :: c1 :: c2 :: c3 :: [(b_1, .cells #[.int .i64 r.job, .int .i64 r.task] 40 (0, 0))] :: H :: F) from hS_8) (by simp)
  have ht_13 : totB [l0, l1, l2, l3] = ((n0 + n1 + n2 + n3 : Nat) : Int) := by unfold totB; simp only [List.map_cons, List.map_nil, List.sum_cons, List.sum_nil]; have h0 := (hO0).len; have h1 := (hO1).len; have h2 := (hO2).len; have h3 := (hO3).len; omega
  refine cX Tryz.call66 (iq_len (S := ⟨S.cap, [l0, l1, l2, l3]⟩) ⟨_, _, _, _, _, _, _, _, _, _, _, _, _, _, _, _, _, _, _, _, rfl, hO0, hO1, hO2, hO3, rfl, hw1, (by dsimp only; omega)⟩ (Sat.flat1 hS_9)) ?_
  rintro _ w_10 ⟨rfl, hS_11⟩
  have hS_12 : Sat W _ ([(p, .cells #[.int .i64 S.cap, .slice a0 n0 k0, .slice a1 n1 k1, .slice a2 n2 k2, .slice a3 n3 k3] 133 (0, 0))] :: c0 :: c1 :: c2 :: c3 :: [(b_1, .cells #[.int .i64 r.job, .int .i64 r.task] 40 (0, 0))] :: H :: F) := Sat.perm (Sat.unflat1 hS_11) (by simp)
  refine nilO ⟨⟨.inr (hS_12.cell 0 rfl rfl), trivial⟩, ?_⟩
  refine wU [6] ?_
  refine wN ?_
  refine thenK_n <| ?_
  refine cD ((totB [l0, l1, l2, l3]) ≥ S.cap) (fun hc_14 => ?_) (fun hc_14 => ?_)
  · refine seqE <| regionE <| pu1 <| nilO <| thenK_n <| retE <| thenK_r <| retT [.int .i64 19] <| ?_
    have hS_15 := (((((((hS_12.pick 6 rfl).pick 5 rfl).pick 5 rfl).pick 5 rfl).pick 5 rfl).pick 5 rfl).dropAt 6 rfl)
    have hS_16 : Sat W _ (([(p, .cells #[.int .i64 S.cap, .slice a0 n0 k0, .slice a1 n1 k1, .slice a2 n2 k2, .slice a3 n3 k3] 133 (0, 0))] ++ (c0 ++ (c1 ++ (c2 ++ c3)))) :: H :: F) := Sat.perm (show Sat W _ ([(p, .cells #[.int .i64 S.cap, .slice a0 n0 k0, .slice a1 n1 k1, .slice a2 n2 k2, .slice a3 n3 k3] 133 (0, 0))] :: c0 :: c1 :: c2 :: c3 :: H :: F) from hS_15) (by simp)
    have hq : totB [l0, l1, l2, l3] = totB S.bs := by rw [hb]
    have hc : pushCQ S = 19 := by unfold pushCQ; rw [if_pos (by omega)]
    have he : pushQ S r 1 = S := by unfold pushQ; rw [hc, if_neg (by decide)]
    exact ⟨_, by rw [hc]; rfl, by rw [he]; exact ⟨_, _, _, _, _, _, _, _, _, _, _, _, _, _, _, _, _, _, _, _, rfl, hO0, hO1, hO2, hO3, hb, hw1, hw2⟩, hS_16⟩
  refine skipE <| thenK_n <| seqE ?_
  refine drawE [9, 10, 14] [(7, ⟨p, 2, none⟩, .slice a1 n1 k1), (8, ⟨b_1, 0, none⟩, .int .i64 r.job), (8, ⟨b_1, 1, none⟩, .int .i64 r.task)] [(true, [0, 1, 2, 3, 4, 5, 6, 11, 12]), (true, [7]), (true, [8]), (false, [9]), (false, [10]), (true, [13]), (false, [14])] rfl (by kernel_rfl) ⟨.inr (hS_12.cell 0 rfl rfl), .inr (hS_12.cell 5 rfl rfl), .inr (hS_12.cell 5 rfl rfl), trivial⟩ ?_
  have hS_17 := hS_12.drew
  refine wU [0, 1, 2, 3, 4, 5, 6, 11, 12] ?_
  refine wLd (.slice a1 n1 k1) 0 Tryz.isAgg104 ?_
  refine wY (.agg #[.int .i64 r.job, .int .i64 r.task]) rfl (fun w hF => Y_loadF rfl (Tryz.isAgg40 w) (Tryz.sizeOf40 w) (by kernel_rfl) rfl ⟨hF 1 _ _ rfl, hF 2 _ _ rfl, trivial⟩) ?_
  refine wO rfl ?_
  refine sBS hS_17 #[.int .i64 r.job, .int .i64 r.task] Tryz.runUnderlying104 Tryz.sizeOf40 Tryz.zeroValue40 ?_
  intro b_18 w_19 hS_20
  refine nilO ⟨⟨.inr (hS_20.cell 1 rfl rfl), .inl (by kernel_rfl), .inl (by kernel_rfl), trivial⟩, ?_⟩
  refine wO rfl ?_
  refine sApp (nb := 16) hS_20 hO1 3 (RdT.blk (enc := encRef) (sz := 2) (xs := [(⟨r.job, r.task⟩ : Ref)]) (fun _ => rfl) 1 0 rfl rfl rfl (by omega)) Tryz.underlying104 (i := Tryz.t40) (by kernel_rfl) (fun _ => rfl) ?_
  intro a_21 cap_22 c_23 w_24 hO_25 hS_26
  refine nilO ⟨⟨.inl (by kernel_rfl), .inl (by kernel_rfl), .inl (by kernel_rfl), trivial⟩, ?_⟩
  refine wU [13] ?_
  refine wO rfl ?_
  refine tW hS_26 1 2 (.slice a_21 (n1 + 1) cap_22) Tryz.sizeOf104 ?_
  intro w_27 hS_28
  refine nilO ⟨⟨.inl (by kernel_rfl), .inl (by kernel_rfl), .inl (by kernel_rfl), trivial⟩, ?_⟩
  refine wN ?_
  refine thenK_n <| seqE <| regionE <| pu1 <| nilO <| thenK_n <| retE <| retT [.int .i64 0] <| ?_
  have hS_29 := ((((((((hS_28.pick 7 rfl).pick 6 rfl).pick 6 rfl).pick 6 rfl).pick 6 rfl).pick 6 rfl).dropAt 6 rfl).dropAt 6 rfl)
  have hS_30 : Sat W _ (([(p, .cells #[.int .i64 S.cap, .slice a0 n0 k0, .slice a_21 (n1 + 1) cap_22, .slice a2 n2 k2, .slice a3 n3 k3] 133 (0, 0))] ++ (c0 ++ (c_23 ++ (c2 ++ c3)))) :: H :: F) := Sat.perm (show Sat W _ ([(p, .cells #[.int .i64 S.cap, .slice a0 n0 k0, .slice a_21 (n1 + 1) cap_22, .slice a2 n2 k2, .slice a3 n3 k3] 133 (0, 0))] :: c0 :: c_23 :: c2 :: c3 :: H :: F) from hS_29) (by simp)
  have hq : totB [l0, l1, l2, l3] = totB S.bs := by rw [hb]
  have hc : pushCQ S = 0 := by unfold pushCQ; rw [if_neg (by omega)]
  have he : pushQ S r 1 = { S with bs := [l0, (l1 ++ [(⟨r.job, r.task⟩ : Ref)]), l2, l3] } := by unfold pushQ; rw [if_pos hc, hb]; rfl
  exact ⟨_, by rw [hc]; rfl, by rw [he]; exact ⟨_, _, _, _, _, _, _, _, _, _, _, _, _, _, _, _, _, _, _, _, rfl, hO0, hO_25, hO2, hO3, rfl, hw1, (by unfold totB; simp; omega)⟩, hS_30⟩
theorem iq_push2 {p : Nat} {S : QS} {M : Chunk} (hR : InjR p S M) (r : Ref) (hS : Sat W w (M :: H :: F)) :
    Calls Tryz.prog 39 #[.pointer (some ⟨p, 0, none⟩), .agg #[.int .i64 r.job, .int .i64 r.task], .int .i64 2] w fun e w' => ∃ M' : Chunk, e = .returned (.int .i64 (pushCQ S)) ∧ InjR p (pushQ S r 2) M' ∧ Sat W w' (M' :: H :: F) := by
  obtain ⟨a0, n0, k0, l0, c0, a1, n1, k1, l1, c1, a2, n2, k2, l2, c2, a3, n3, k3, l3, c3, rfl, hO0, hO1, hO2, hO3, hb, hw1, hw2⟩ := hR
  have hS : Sat W _ ([(p, .cells #[.int .i64 S.cap, .slice a0 n0 k0, .slice a1 n1 k1, .slice a2 n2 k2, .slice a3 n3 k3] 133 (0, 0))] :: c0 :: c1 :: c2 :: c3 :: H :: F) := Sat.perm hS (by simp)
  have ht : totB S.bs = n0 + n1 + n2 + n3 := by rw [hb]; unfold totB; simp [hO0.len, hO1.len, hO2.len, hO3.len]; omega
  have hn0 := hO0.len; have hl0 := hO0.le; have hn1 := hO1.len; have hl1 := hO1.le; have hn2 := hO2.len; have hl2 := hO2.le; have hn3 := hO3.len; have hl3 := hO3.le
  refine callsA 43 Tryz.func39 rfl ?_
  refine seqE <| regionE ?_
  refine sBox hS (.agg #[.int .i64 r.job, .int .i64 r.task]) #[.int .i64 r.job, .int .i64 r.task] ?_
  intro b_1 w_2 hS_3
  refine pu1 <| nilO <| thenK_n <| seqE <| seqE <| regionE <| pu6 <| gY ?_
  refine sL hS_3 1 0 (.int .i64 S.cap) (Tryz.isAgg3 _) ?_
  refine pu2 <| nilO <| thenK_n <| ?_
  refine cE S.cap 0 (fun hc_4 => ?_) (fun hc_4 => ?_)
  · refine seqE <| regionE <| pu1 <| nilO <| thenK_n <| retE <| thenK_r <| retT [.int .i64 20] <| ?_
    have hS_5 := (((((((hS_3.pick 6 rfl).pick 6 rfl).pick 6 rfl).pick 6 rfl).pick 6 rfl).pick 6 rfl).dropAt 6 rfl)
    have hS_6 : Sat W _ (([(p, .cells #[.int .i64 S.cap, .slice a0 n0 k0, .slice a1 n1 k1, .slice a2 n2 k2, .slice a3 n3 k3] 133 (0, 0))] ++ (c0 ++ (c1 ++ (c2 ++ c3)))) :: H :: F) := Sat.perm (show Sat W _ ([(p, .cells #[.int .i64 S.cap, .slice a0 n0 k0, .slice a1 n1 k1, .slice a2 n2 k2, .slice a3 n3 k3] 133 (0, 0))] :: c0 :: c1 :: c2 :: c3 :: H :: F) from hS_5) (by simp)
    have hq : totB [l0, l1, l2, l3] = totB S.bs := by rw [hb]
    omega
  refine skipE <| thenK_n <| seqE <| seqE <| regionE <| pu6 <| nilO <| thenK_n <| cFf <| skipE <| thenK_n <| seqE <| seqE ?_
  refine drawE [1] [(5, ⟨p, 0, none⟩, .int .i64 S.cap)] [(true, [0, 2, 3, 4]), (true, [5]), (false, [1]), (true, [6])] rfl (by kernel_rfl) ⟨.inr (hS_3.cell 1 rfl rfl), trivial⟩ ?_
  have hS_7 := hS_3.drew
  refine wU [0, 2, 3, 4] ?_
  refine wLd (.int .i64 S.cap) 0 Tryz.isAgg3 ?_
  refine wO rfl ?_
  have hS_8 := (((((((hS_7.pick 6 rfl).pick 1 rfl).pick 6 rfl).pick 6 rfl).pick 6 rfl).pick 6 rfl).pick 6 rfl)
  have hS_9 : Sat W _ (([(p, .cells #[.int .i64 S.cap, .slice a0 n0 k0, .slice a1 n1 k1, .slice a2 n2 k2, .slice a3 n3 k3] 133 (0, 0))] ++ (c0 ++ (c1 ++ (c2 ++ c3)))) :: [(b_1, .cells #[.int .i64 r.job, .int .i64 r.task] 40 (0, 0))] :: H :: F) := Sat.perm (show Sat W _ ([(p, .cells #[.int .i64 S.cap, .slice a0 n0 k0, .slice a1 n1 k1, .slice a2 n2 k2, .slice a3 n3 k3] 133 (0, 0))] :: c0 :: c1 :: c2 :: c3 :: [(b_1, .cells #[.int .i64 r.job, .int .i64 r.task] 40 (0, 0))] :: H :: F) from hS_8) (by simp)
  have ht_13 : totB [l0, l1, l2, l3] = ((n0 + n1 + n2 + n3 : Nat) : Int) := by unfold totB; simp only [List.map_cons, List.map_nil, List.sum_cons, List.sum_nil]; have h0 := (hO0).len; have h1 := (hO1).len; have h2 := (hO2).len; have h3 := (hO3).len; omega
  refine cX Tryz.call66 (iq_len (S := ⟨S.cap, [l0, l1, l2, l3]⟩) ⟨_, _, _, _, _, _, _, _, _, _, _, _, _, _, _, _, _, _, _, _, rfl, hO0, hO1, hO2, hO3, rfl, hw1, (by dsimp only; omega)⟩ (Sat.flat1 hS_9)) ?_
  rintro _ w_10 ⟨rfl, hS_11⟩
  have hS_12 : Sat W _ ([(p, .cells #[.int .i64 S.cap, .slice a0 n0 k0, .slice a1 n1 k1, .slice a2 n2 k2, .slice a3 n3 k3] 133 (0, 0))] :: c0 :: c1 :: c2 :: c3 :: [(b_1, .cells #[.int .i64 r.job, .int .i64 r.task] 40 (0, 0))] :: H :: F) := Sat.perm (Sat.unflat1 hS_11) (by simp)
  refine nilO ⟨⟨.inr (hS_12.cell 0 rfl rfl), trivial⟩, ?_⟩
  refine wU [6] ?_
  refine wN ?_
  refine thenK_n <| ?_
  refine cD ((totB [l0, l1, l2, l3]) ≥ S.cap) (fun hc_14 => ?_) (fun hc_14 => ?_)
  · refine seqE <| regionE <| pu1 <| nilO <| thenK_n <| retE <| thenK_r <| retT [.int .i64 19] <| ?_
    have hS_15 := (((((((hS_12.pick 6 rfl).pick 5 rfl).pick 5 rfl).pick 5 rfl).pick 5 rfl).pick 5 rfl).dropAt 6 rfl)
    have hS_16 : Sat W _ (([(p, .cells #[.int .i64 S.cap, .slice a0 n0 k0, .slice a1 n1 k1, .slice a2 n2 k2, .slice a3 n3 k3] 133 (0, 0))] ++ (c0 ++ (c1 ++ (c2 ++ c3)))) :: H :: F) := Sat.perm (show Sat W _ ([(p, .cells #[.int .i64 S.cap, .slice a0 n0 k0, .slice a1 n1 k1, .slice a2 n2 k2, .slice a3 n3 k3] 133 (0, 0))] :: c0 :: c1 :: c2 :: c3 :: H :: F) from hS_15) (by simp)
    have hq : totB [l0, l1, l2, l3] = totB S.bs := by rw [hb]
    have hc : pushCQ S = 19 := by unfold pushCQ; rw [if_pos (by omega)]
    have he : pushQ S r 2 = S := by unfold pushQ; rw [hc, if_neg (by decide)]
    exact ⟨_, by rw [hc]; rfl, by rw [he]; exact ⟨_, _, _, _, _, _, _, _, _, _, _, _, _, _, _, _, _, _, _, _, rfl, hO0, hO1, hO2, hO3, hb, hw1, hw2⟩, hS_16⟩
  refine skipE <| thenK_n <| seqE ?_
  refine drawE [9, 10, 14] [(7, ⟨p, 3, none⟩, .slice a2 n2 k2), (8, ⟨b_1, 0, none⟩, .int .i64 r.job), (8, ⟨b_1, 1, none⟩, .int .i64 r.task)] [(true, [0, 1, 2, 3, 4, 5, 6, 11, 12]), (true, [7]), (true, [8]), (false, [9]), (false, [10]), (true, [13]), (false, [14])] rfl (by kernel_rfl) ⟨.inr (hS_12.cell 0 rfl rfl), .inr (hS_12.cell 5 rfl rfl), .inr (hS_12.cell 5 rfl rfl), trivial⟩ ?_
  have hS_17 := hS_12.drew
  refine wU [0, 1, 2, 3, 4, 5, 6, 11, 12] ?_
  refine wLd (.slice a2 n2 k2) 0 Tryz.isAgg104 ?_
  refine wY (.agg #[.int .i64 r.job, .int .i64 r.task]) rfl (fun w hF => Y_loadF rfl (Tryz.isAgg40 w) (Tryz.sizeOf40 w) (by kernel_rfl) rfl ⟨hF 1 _ _ rfl, hF 2 _ _ rfl, trivial⟩) ?_
  refine wO rfl ?_
  refine sBS hS_17 #[.int .i64 r.job, .int .i64 r.task] Tryz.runUnderlying104 Tryz.sizeOf40 Tryz.zeroValue40 ?_
  intro b_18 w_19 hS_20
  refine nilO ⟨⟨.inr (hS_20.cell 1 rfl rfl), .inl (by kernel_rfl), .inl (by kernel_rfl), trivial⟩, ?_⟩
  refine wO rfl ?_
  refine sApp (nb := 16) hS_20 hO2 4 (RdT.blk (enc := encRef) (sz := 2) (xs := [(⟨r.job, r.task⟩ : Ref)]) (fun _ => rfl) 1 0 rfl rfl rfl (by omega)) Tryz.underlying104 (i := Tryz.t40) (by kernel_rfl) (fun _ => rfl) ?_
  intro a_21 cap_22 c_23 w_24 hO_25 hS_26
  refine nilO ⟨⟨.inl (by kernel_rfl), .inl (by kernel_rfl), .inl (by kernel_rfl), trivial⟩, ?_⟩
  refine wU [13] ?_
  refine wO rfl ?_
  refine tW hS_26 1 3 (.slice a_21 (n2 + 1) cap_22) Tryz.sizeOf104 ?_
  intro w_27 hS_28
  refine nilO ⟨⟨.inl (by kernel_rfl), .inl (by kernel_rfl), .inl (by kernel_rfl), trivial⟩, ?_⟩
  refine wN ?_
  refine thenK_n <| seqE <| regionE <| pu1 <| nilO <| thenK_n <| retE <| retT [.int .i64 0] <| ?_
  have hS_29 := ((((((((hS_28.pick 7 rfl).pick 6 rfl).pick 6 rfl).pick 6 rfl).pick 6 rfl).pick 6 rfl).dropAt 6 rfl).dropAt 6 rfl)
  have hS_30 : Sat W _ (([(p, .cells #[.int .i64 S.cap, .slice a0 n0 k0, .slice a1 n1 k1, .slice a_21 (n2 + 1) cap_22, .slice a3 n3 k3] 133 (0, 0))] ++ (c0 ++ (c1 ++ (c_23 ++ c3)))) :: H :: F) := Sat.perm (show Sat W _ ([(p, .cells #[.int .i64 S.cap, .slice a0 n0 k0, .slice a1 n1 k1, .slice a_21 (n2 + 1) cap_22, .slice a3 n3 k3] 133 (0, 0))] :: c0 :: c1 :: c_23 :: c3 :: H :: F) from hS_29) (by simp)
  have hq : totB [l0, l1, l2, l3] = totB S.bs := by rw [hb]
  have hc : pushCQ S = 0 := by unfold pushCQ; rw [if_neg (by omega)]
  have he : pushQ S r 2 = { S with bs := [l0, l1, (l2 ++ [(⟨r.job, r.task⟩ : Ref)]), l3] } := by unfold pushQ; rw [if_pos hc, hb]; rfl
  exact ⟨_, by rw [hc]; rfl, by rw [he]; exact ⟨_, _, _, _, _, _, _, _, _, _, _, _, _, _, _, _, _, _, _, _, rfl, hO0, hO1, hO_25, hO3, rfl, hw1, (by unfold totB; simp; omega)⟩, hS_30⟩
theorem iq_push3 {p : Nat} {S : QS} {M : Chunk} (hR : InjR p S M) (r : Ref) (hS : Sat W w (M :: H :: F)) :
    Calls Tryz.prog 39 #[.pointer (some ⟨p, 0, none⟩), .agg #[.int .i64 r.job, .int .i64 r.task], .int .i64 3] w fun e w' => ∃ M' : Chunk, e = .returned (.int .i64 (pushCQ S)) ∧ InjR p (pushQ S r 3) M' ∧ Sat W w' (M' :: H :: F) := by
  obtain ⟨a0, n0, k0, l0, c0, a1, n1, k1, l1, c1, a2, n2, k2, l2, c2, a3, n3, k3, l3, c3, rfl, hO0, hO1, hO2, hO3, hb, hw1, hw2⟩ := hR
  have hS : Sat W _ ([(p, .cells #[.int .i64 S.cap, .slice a0 n0 k0, .slice a1 n1 k1, .slice a2 n2 k2, .slice a3 n3 k3] 133 (0, 0))] :: c0 :: c1 :: c2 :: c3 :: H :: F) := Sat.perm hS (by simp)
  have ht : totB S.bs = n0 + n1 + n2 + n3 := by rw [hb]; unfold totB; simp [hO0.len, hO1.len, hO2.len, hO3.len]; omega
  have hn0 := hO0.len; have hl0 := hO0.le; have hn1 := hO1.len; have hl1 := hO1.le; have hn2 := hO2.len; have hl2 := hO2.le; have hn3 := hO3.len; have hl3 := hO3.le
  refine callsA 43 Tryz.func39 rfl ?_
  refine seqE <| regionE ?_
  refine sBox hS (.agg #[.int .i64 r.job, .int .i64 r.task]) #[.int .i64 r.job, .int .i64 r.task] ?_
  intro b_1 w_2 hS_3
  refine pu1 <| nilO <| thenK_n <| seqE <| seqE <| regionE <| pu6 <| gY ?_
  refine sL hS_3 1 0 (.int .i64 S.cap) (Tryz.isAgg3 _) ?_
  refine pu2 <| nilO <| thenK_n <| ?_
  refine cE S.cap 0 (fun hc_4 => ?_) (fun hc_4 => ?_)
  · refine seqE <| regionE <| pu1 <| nilO <| thenK_n <| retE <| thenK_r <| retT [.int .i64 20] <| ?_
    have hS_5 := (((((((hS_3.pick 6 rfl).pick 6 rfl).pick 6 rfl).pick 6 rfl).pick 6 rfl).pick 6 rfl).dropAt 6 rfl)
    have hS_6 : Sat W _ (([(p, .cells #[.int .i64 S.cap, .slice a0 n0 k0, .slice a1 n1 k1, .slice a2 n2 k2, .slice a3 n3 k3] 133 (0, 0))] ++ (c0 ++ (c1 ++ (c2 ++ c3)))) :: H :: F) := Sat.perm (show Sat W _ ([(p, .cells #[.int .i64 S.cap, .slice a0 n0 k0, .slice a1 n1 k1, .slice a2 n2 k2, .slice a3 n3 k3] 133 (0, 0))] :: c0 :: c1 :: c2 :: c3 :: H :: F) from hS_5) (by simp)
    have hq : totB [l0, l1, l2, l3] = totB S.bs := by rw [hb]
    omega
  refine skipE <| thenK_n <| seqE <| seqE <| regionE <| pu6 <| nilO <| thenK_n <| cFf <| skipE <| thenK_n <| seqE <| seqE ?_
  refine drawE [1] [(5, ⟨p, 0, none⟩, .int .i64 S.cap)] [(true, [0, 2, 3, 4]), (true, [5]), (false, [1]), (true, [6])] rfl (by kernel_rfl) ⟨.inr (hS_3.cell 1 rfl rfl), trivial⟩ ?_
  have hS_7 := hS_3.drew
  refine wU [0, 2, 3, 4] ?_
  refine wLd (.int .i64 S.cap) 0 Tryz.isAgg3 ?_
  refine wO rfl ?_
  have hS_8 := (((((((hS_7.pick 6 rfl).pick 1 rfl).pick 6 rfl).pick 6 rfl).pick 6 rfl).pick 6 rfl).pick 6 rfl)
  have hS_9 : Sat W _ (([(p, .cells #[.int .i64 S.cap, .slice a0 n0 k0, .slice a1 n1 k1, .slice a2 n2 k2, .slice a3 n3 k3] 133 (0, 0))] ++ (c0 ++ (c1 ++ (c2 ++ c3)))) :: [(b_1, .cells #[.int .i64 r.job, .int .i64 r.task] 40 (0, 0))] :: H :: F) := Sat.perm (show Sat W _ ([(p, .cells #[.int .i64 S.cap, .slice a0 n0 k0, .slice a1 n1 k1, .slice a2 n2 k2, .slice a3 n3 k3] 133 (0, 0))] :: c0 :: c1 :: c2 :: c3 :: [(b_1, .cells #[.int .i64 r.job, .int .i64 r.task] 40 (0, 0))] :: H :: F) from hS_8) (by simp)
  have ht_13 : totB [l0, l1, l2, l3] = ((n0 + n1 + n2 + n3 : Nat) : Int) := by unfold totB; simp only [List.map_cons, List.map_nil, List.sum_cons, List.sum_nil]; have h0 := (hO0).len; have h1 := (hO1).len; have h2 := (hO2).len; have h3 := (hO3).len; omega
  refine cX Tryz.call66 (iq_len (S := ⟨S.cap, [l0, l1, l2, l3]⟩) ⟨_, _, _, _, _, _, _, _, _, _, _, _, _, _, _, _, _, _, _, _, rfl, hO0, hO1, hO2, hO3, rfl, hw1, (by dsimp only; omega)⟩ (Sat.flat1 hS_9)) ?_
  rintro _ w_10 ⟨rfl, hS_11⟩
  have hS_12 : Sat W _ ([(p, .cells #[.int .i64 S.cap, .slice a0 n0 k0, .slice a1 n1 k1, .slice a2 n2 k2, .slice a3 n3 k3] 133 (0, 0))] :: c0 :: c1 :: c2 :: c3 :: [(b_1, .cells #[.int .i64 r.job, .int .i64 r.task] 40 (0, 0))] :: H :: F) := Sat.perm (Sat.unflat1 hS_11) (by simp)
  refine nilO ⟨⟨.inr (hS_12.cell 0 rfl rfl), trivial⟩, ?_⟩
  refine wU [6] ?_
  refine wN ?_
  refine thenK_n <| ?_
  refine cD ((totB [l0, l1, l2, l3]) ≥ S.cap) (fun hc_14 => ?_) (fun hc_14 => ?_)
  · refine seqE <| regionE <| pu1 <| nilO <| thenK_n <| retE <| thenK_r <| retT [.int .i64 19] <| ?_
    have hS_15 := (((((((hS_12.pick 6 rfl).pick 5 rfl).pick 5 rfl).pick 5 rfl).pick 5 rfl).pick 5 rfl).dropAt 6 rfl)
    have hS_16 : Sat W _ (([(p, .cells #[.int .i64 S.cap, .slice a0 n0 k0, .slice a1 n1 k1, .slice a2 n2 k2, .slice a3 n3 k3] 133 (0, 0))] ++ (c0 ++ (c1 ++ (c2 ++ c3)))) :: H :: F) := Sat.perm (show Sat W _ ([(p, .cells #[.int .i64 S.cap, .slice a0 n0 k0, .slice a1 n1 k1, .slice a2 n2 k2, .slice a3 n3 k3] 133 (0, 0))] :: c0 :: c1 :: c2 :: c3 :: H :: F) from hS_15) (by simp)
    have hq : totB [l0, l1, l2, l3] = totB S.bs := by rw [hb]
    have hc : pushCQ S = 19 := by unfold pushCQ; rw [if_pos (by omega)]
    have he : pushQ S r 3 = S := by unfold pushQ; rw [hc, if_neg (by decide)]
    exact ⟨_, by rw [hc]; rfl, by rw [he]; exact ⟨_, _, _, _, _, _, _, _, _, _, _, _, _, _, _, _, _, _, _, _, rfl, hO0, hO1, hO2, hO3, hb, hw1, hw2⟩, hS_16⟩
  refine skipE <| thenK_n <| seqE ?_
  refine drawE [9, 10, 14] [(7, ⟨p, 4, none⟩, .slice a3 n3 k3), (8, ⟨b_1, 0, none⟩, .int .i64 r.job), (8, ⟨b_1, 1, none⟩, .int .i64 r.task)] [(true, [0, 1, 2, 3, 4, 5, 6, 11, 12]), (true, [7]), (true, [8]), (false, [9]), (false, [10]), (true, [13]), (false, [14])] rfl (by kernel_rfl) ⟨.inr (hS_12.cell 0 rfl rfl), .inr (hS_12.cell 5 rfl rfl), .inr (hS_12.cell 5 rfl rfl), trivial⟩ ?_
  have hS_17 := hS_12.drew
  refine wU [0, 1, 2, 3, 4, 5, 6, 11, 12] ?_
  refine wLd (.slice a3 n3 k3) 0 Tryz.isAgg104 ?_
  refine wY (.agg #[.int .i64 r.job, .int .i64 r.task]) rfl (fun w hF => Y_loadF rfl (Tryz.isAgg40 w) (Tryz.sizeOf40 w) (by kernel_rfl) rfl ⟨hF 1 _ _ rfl, hF 2 _ _ rfl, trivial⟩) ?_
  refine wO rfl ?_
  refine sBS hS_17 #[.int .i64 r.job, .int .i64 r.task] Tryz.runUnderlying104 Tryz.sizeOf40 Tryz.zeroValue40 ?_
  intro b_18 w_19 hS_20
  refine nilO ⟨⟨.inr (hS_20.cell 1 rfl rfl), .inl (by kernel_rfl), .inl (by kernel_rfl), trivial⟩, ?_⟩
  refine wO rfl ?_
  refine sApp (nb := 16) hS_20 hO3 5 (RdT.blk (enc := encRef) (sz := 2) (xs := [(⟨r.job, r.task⟩ : Ref)]) (fun _ => rfl) 1 0 rfl rfl rfl (by omega)) Tryz.underlying104 (i := Tryz.t40) (by kernel_rfl) (fun _ => rfl) ?_
  intro a_21 cap_22 c_23 w_24 hO_25 hS_26
  refine nilO ⟨⟨.inl (by kernel_rfl), .inl (by kernel_rfl), .inl (by kernel_rfl), trivial⟩, ?_⟩
  refine wU [13] ?_
  refine wO rfl ?_
  refine tW hS_26 1 4 (.slice a_21 (n3 + 1) cap_22) Tryz.sizeOf104 ?_
  intro w_27 hS_28
  refine nilO ⟨⟨.inl (by kernel_rfl), .inl (by kernel_rfl), .inl (by kernel_rfl), trivial⟩, ?_⟩
  refine wN ?_
  refine thenK_n <| seqE <| regionE <| pu1 <| nilO <| thenK_n <| retE <| retT [.int .i64 0] <| ?_
  have hS_29 := ((((((((hS_28.pick 7 rfl).pick 6 rfl).pick 6 rfl).pick 6 rfl).pick 6 rfl).pick 6 rfl).dropAt 6 rfl).dropAt 6 rfl)
  have hS_30 : Sat W _ (([(p, .cells #[.int .i64 S.cap, .slice a0 n0 k0, .slice a1 n1 k1, .slice a2 n2 k2, .slice a_21 (n3 + 1) cap_22] 133 (0, 0))] ++ (c0 ++ (c1 ++ (c2 ++ c_23)))) :: H :: F) := Sat.perm (show Sat W _ ([(p, .cells #[.int .i64 S.cap, .slice a0 n0 k0, .slice a1 n1 k1, .slice a2 n2 k2, .slice a_21 (n3 + 1) cap_22] 133 (0, 0))] :: c0 :: c1 :: c2 :: c_23 :: H :: F) from hS_29) (by simp)
  have hq : totB [l0, l1, l2, l3] = totB S.bs := by rw [hb]
  have hc : pushCQ S = 0 := by unfold pushCQ; rw [if_neg (by omega)]
  have he : pushQ S r 3 = { S with bs := [l0, l1, l2, (l3 ++ [(⟨r.job, r.task⟩ : Ref)])] } := by unfold pushQ; rw [if_pos hc, hb]; rfl
  exact ⟨_, by rw [hc]; rfl, by rw [he]; exact ⟨_, _, _, _, _, _, _, _, _, _, _, _, _, _, _, _, _, _, _, _, rfl, hO0, hO1, hO2, hO_25, rfl, hw1, (by unfold totB; simp; omega)⟩, hS_30⟩
theorem iq_push {p : Nat} {S : QS} {M : Chunk} (hR : InjR p S M) (r : Ref) (b : Int) (hb : 0 ≤ b ∧ b < 4) (hS : Sat W w (M :: H :: F)) :
    Calls Tryz.prog 39 #[.pointer (some ⟨p, 0, none⟩), .agg #[.int .i64 r.job, .int .i64 r.task], .int .i64 b] w fun e w' => ∃ M' : Chunk, e = .returned (.int .i64 (pushCQ S)) ∧ InjR p (pushQ S r b) M' ∧ Sat W w' (M' :: H :: F) := by
  rcases (by omega : b = 0 ∨ b = 1 ∨ b = 2 ∨ b = 3) with rfl | rfl | rfl | rfl
  · exact iq_push0 hR r hS
  · exact iq_push1 hR r hS
  · exact iq_push2 hR r hS
  · exact iq_push3 hR r hS
theorem iq_pop {p : Nat} {S : QS} {M : Chunk} (hR : InjR p S M)  (hS : Sat W w (M :: H :: F)) :
    Calls Tryz.prog 79 #[.pointer (some ⟨p, 0, none⟩)] w fun e w' => (popB S.bs = none ∧ e = .returned (.tuple #[.agg #[.int .i64 0, .int .i64 0], .bool false]) ∧ Sat W w' (M :: H :: F)) ∨ (∃ (x : Ref) (bs : List (List Ref)) (M' : Chunk), popB S.bs = some (x, bs) ∧ e = .returned (.tuple #[.agg #[.int .i64 x.job, .int .i64 x.task], .bool true]) ∧ InjR p { S with bs := bs } M' ∧ Sat W w' (M' :: H :: F)) := by
  obtain ⟨a0, n0, k0, l0, c0, a1, n1, k1, l1, c1, a2, n2, k2, l2, c2, a3, n3, k3, l3, c3, rfl, hO0, hO1, hO2, hO3, hb, hw1, hw2⟩ := hR
  have hS : Sat W _ ([(p, .cells #[.int .i64 S.cap, .slice a0 n0 k0, .slice a1 n1 k1, .slice a2 n2 k2, .slice a3 n3 k3] 133 (0, 0))] :: c0 :: c1 :: c2 :: c3 :: H :: F) := Sat.perm hS (by simp)
  have ht : totB S.bs = n0 + n1 + n2 + n3 := by rw [hb]; unfold totB; simp [hO0.len, hO1.len, hO2.len, hO3.len]; omega
  have hn0 := hO0.len; have hl0 := hO0.le; have hn1 := hO1.len; have hl1 := hO1.le; have hn2 := hO2.len; have hl2 := hO2.le; have hn3 := hO3.len; have hl3 := hO3.le
  refine callsA 35 Tryz.func79 rfl ?_
  refine seqE <| regionE ?_
  refine sAlloc hS Tryz.zeroValue40 ?_
  intro b_1 w_2 hS_3
  refine pu1 <| nilO <| thenK_n <| seqE <| seqE <| regionE <| pu1 <| nilO <| thenK_n <| blockE ?_
  refine loopN 5 ?_
  refine roundS ?_
  refine seqE <| seqE <| regionE <| pu6 <| nilO <| thenK_n <| cTt <| skipE <| thenK_n <| seqE <| blockE <| seqE <| regionE <| pu5 ?_
  refine sL hS_3 1 1 (.slice a0 n0 k0) (Tryz.isAgg104 _) ?_
  refine pu1 <| nilO <| thenK_n <| seqE <| regionE <| pu3 <| nilO <| thenK_n <| ?_
  refine cD (((n0 : Nat) : Int) > 0) (fun hc_4 => ?_) (fun hc_4 => ?_)
  · refine seqE ?_
    refine drawE [4, 8] [] [(true, [0, 1, 2]), (true, [3]), (true, [5, 6]), (false, [4]), (true, [7]), (false, [8])] rfl (by kernel_rfl) trivial ?_
    have hS_5 := hS_3.drew
    refine wU [0, 1, 2] ?_
    have hP_6 := hO0.part (lo := 1) (hi := n0) (by omega) (by omega)
    refine wY (.slice (partAddr a0 k0 1 2) (n0 - 1) (k0 - 1)) rfl (fun w _ => Y_sl (a := a0) (len := n0) (cap := k0) (some 1) none 1 n0 Tryz.runUnderlying104 Tryz.sizeOf40 ⟨by decide, rfl⟩ rfl (by omega) (by omega)) ?_
    refine wU [5, 6] ?_
    refine wO rfl ?_
    have hS_7 := Sat.nilc hS_5
    have hO_8 := OwnT.nil (enc := encRef) (E := 40) (sz := 2) (fun _ => rfl)
    refine sApp (nb := 16) hS_7 hO_8 0 (hP_6.rdAt 3 rfl) Tryz.underlying104 (i := Tryz.t40) (by kernel_rfl) (fun _ => rfl) ?_
    intro a_9 cap_10 c_11 w_12 hO_13 hS_14
    refine nilO ⟨trivial, ?_⟩
    refine wU [7] ?_
    refine wO rfl ?_
    refine tW hS_14 2 1 (.slice a_9 (0 + (n0 - 1)) cap_10) Tryz.sizeOf104 ?_
    intro w_15 hS_16
    refine nilO ⟨trivial, ?_⟩
    refine wN ?_
    refine thenK_n <| seqE <| regionE <| pu1 ?_
    refine sIdxO hO0 0 0 Tryz.runUnderlying104 Tryz.sizeOf40 ?_
    intro x_17 b_18 o_19 hx_20 hp_21 hq_22
    refine sLpA hS_16 (hp_21.up 3 rfl) 0 [.int .i64 x_17.job, .int .i64 x_17.task] (Tryz.isAgg40 _) (Tryz.sizeOf40 _) ?_
    refine sT hS_16 1 0 (.agg #[.int .i64 x_17.job, .int .i64 x_17.task]) [.int .i64 x_17.job, .int .i64 x_17.task] #[.int .i64 x_17.job, .int .i64 x_17.task] Tryz.sizeOf40 ?_
    intro w_23 hS_24
    refine pu1 <| nilO <| thenK_n <| retE <| blockK_r <| thenK_r <| thenK_r <| blockK_r <| thenK_r <| retN (vs := [.agg #[.int .i64 x_17.job, .int .i64 x_17.task], .bool true]) rfl (.cons (.cell _ _ _ _ (by kernel_rfl) (lvA hS_24 1 0 [.int .i64 x_17.job, .int .i64 x_17.task] (Tryz.isAgg40 _) (Tryz.sizeOf40 _) rfl rfl rfl)) (.cons (.tmp _ _ (by kernel_rfl)) .nil)) <| ?_
    have hS_25 := ((((((((hS_24.pick 7 rfl).pick 7 rfl).pick 7 rfl).pick 7 rfl).pick 4 rfl).pick 6 rfl).dropAt 6 rfl).dropAt 6 rfl)
    have hS_26 : Sat W _ (([(p, .cells #[.int .i64 S.cap, .slice a_9 (0 + (n0 - 1)) cap_10, .slice a1 n1 k1, .slice a2 n2 k2, .slice a3 n3 k3] 133 (0, 0))] ++ (c_11 ++ (c1 ++ (c2 ++ c3)))) :: H :: F) := Sat.perm (show Sat W _ ([(p, .cells #[.int .i64 S.cap, .slice a_9 (0 + (n0 - 1)) cap_10, .slice a1 n1 k1, .slice a2 n2 k2, .slice a3 n3 k3] 133 (0, 0))] :: c_11 :: c1 :: c2 :: c3 :: H :: F) from hS_25) (by simp)
    have htp := tail_part hn0
    have hOt := hO_13; rw [htp] at hOt
    have hpb : popB S.bs = some (x_17, [l0.tail, l1, l2, l3]) := by rw [hb, popB_at hx_20]
    exact .inr ⟨_, _, _, hpb, rfl, ⟨_, _, _, _, _, _, _, _, _, _, _, _, _, _, _, _, _, _, _, _, rfl, hOt, hO1, hO2, hO3, rfl, hw1, (by have hlt := List.length_tail (l := l0); unfold totB; simp only [List.map_cons, List.map_nil, List.sum_cons, List.sum_nil]; omega)⟩, hS_26⟩
  refine skipE <| blockK_n <| thenK_n <| regionE <| pu3 <| nilO <| thenK_n <| ?_
  refine roundS ?_
  refine seqE <| seqE <| regionE <| pu6 <| nilO <| thenK_n <| cTt <| skipE <| thenK_n <| seqE <| blockE <| seqE <| regionE <| pu5 ?_
  refine sL hS_3 1 2 (.slice a1 n1 k1) (Tryz.isAgg104 _) ?_
  refine pu1 <| nilO <| thenK_n <| seqE <| regionE <| pu3 <| nilO <| thenK_n <| ?_
  refine cD (((n1 : Nat) : Int) > 0) (fun hc_27 => ?_) (fun hc_27 => ?_)
  · refine seqE ?_
    refine drawE [4, 8] [] [(true, [0, 1, 2]), (true, [3]), (true, [5, 6]), (false, [4]), (true, [7]), (false, [8])] rfl (by kernel_rfl) trivial ?_
    have hS_28 := hS_3.drew
    refine wU [0, 1, 2] ?_
    have hP_29 := hO1.part (lo := 1) (hi := n1) (by omega) (by omega)
    refine wY (.slice (partAddr a1 k1 1 2) (n1 - 1) (k1 - 1)) rfl (fun w _ => Y_sl (a := a1) (len := n1) (cap := k1) (some 1) none 1 n1 Tryz.runUnderlying104 Tryz.sizeOf40 ⟨by decide, rfl⟩ rfl (by omega) (by omega)) ?_
    refine wU [5, 6] ?_
    refine wO rfl ?_
    have hS_30 := Sat.nilc hS_28
    have hO_31 := OwnT.nil (enc := encRef) (E := 40) (sz := 2) (fun _ => rfl)
    refine sApp (nb := 16) hS_30 hO_31 0 (hP_29.rdAt 4 rfl) Tryz.underlying104 (i := Tryz.t40) (by kernel_rfl) (fun _ => rfl) ?_
    intro a_32 cap_33 c_34 w_35 hO_36 hS_37
    refine nilO ⟨trivial, ?_⟩
    refine wU [7] ?_
    refine wO rfl ?_
    refine tW hS_37 2 2 (.slice a_32 (0 + (n1 - 1)) cap_33) Tryz.sizeOf104 ?_
    intro w_38 hS_39
    refine nilO ⟨trivial, ?_⟩
    refine wN ?_
    refine thenK_n <| seqE <| regionE <| pu1 ?_
    refine sIdxO hO1 0 0 Tryz.runUnderlying104 Tryz.sizeOf40 ?_
    intro x_40 b_41 o_42 hx_43 hp_44 hq_45
    refine sLpA hS_39 (hp_44.up 4 rfl) 0 [.int .i64 x_40.job, .int .i64 x_40.task] (Tryz.isAgg40 _) (Tryz.sizeOf40 _) ?_
    refine sT hS_39 1 0 (.agg #[.int .i64 x_40.job, .int .i64 x_40.task]) [.int .i64 x_40.job, .int .i64 x_40.task] #[.int .i64 x_40.job, .int .i64 x_40.task] Tryz.sizeOf40 ?_
    intro w_46 hS_47
    refine pu1 <| nilO <| thenK_n <| retE <| blockK_r <| thenK_r <| thenK_r <| blockK_r <| thenK_r <| retN (vs := [.agg #[.int .i64 x_40.job, .int .i64 x_40.task], .bool true]) rfl (.cons (.cell _ _ _ _ (by kernel_rfl) (lvA hS_47 1 0 [.int .i64 x_40.job, .int .i64 x_40.task] (Tryz.isAgg40 _) (Tryz.sizeOf40 _) rfl rfl rfl)) (.cons (.tmp _ _ (by kernel_rfl)) .nil)) <| ?_
    have hS_48 := ((((((((hS_47.pick 7 rfl).pick 7 rfl).pick 7 rfl).pick 3 rfl).pick 6 rfl).pick 6 rfl).dropAt 6 rfl).dropAt 6 rfl)
    have hS_49 : Sat W _ (([(p, .cells #[.int .i64 S.cap, .slice a0 n0 k0, .slice a_32 (0 + (n1 - 1)) cap_33, .slice a2 n2 k2, .slice a3 n3 k3] 133 (0, 0))] ++ (c0 ++ (c_34 ++ (c2 ++ c3)))) :: H :: F) := Sat.perm (show Sat W _ ([(p, .cells #[.int .i64 S.cap, .slice a0 n0 k0, .slice a_32 (0 + (n1 - 1)) cap_33, .slice a2 n2 k2, .slice a3 n3 k3] 133 (0, 0))] :: c0 :: c_34 :: c2 :: c3 :: H :: F) from hS_48) (by simp)
    have htp := tail_part hn1
    have hOt := hO_36; rw [htp] at hOt
    have hpb : popB S.bs = some (x_40, [l0, l1.tail, l2, l3]) := by rw [hb, popB_nil (by omega), popB_at hx_43]; rfl
    exact .inr ⟨_, _, _, hpb, rfl, ⟨_, _, _, _, _, _, _, _, _, _, _, _, _, _, _, _, _, _, _, _, rfl, hO0, hOt, hO2, hO3, rfl, hw1, (by have hlt := List.length_tail (l := l1); unfold totB; simp only [List.map_cons, List.map_nil, List.sum_cons, List.sum_nil]; omega)⟩, hS_49⟩
  refine skipE <| blockK_n <| thenK_n <| regionE <| pu3 <| nilO <| thenK_n <| ?_
  refine roundS ?_
  refine seqE <| seqE <| regionE <| pu6 <| nilO <| thenK_n <| cTt <| skipE <| thenK_n <| seqE <| blockE <| seqE <| regionE <| pu5 ?_
  refine sL hS_3 1 3 (.slice a2 n2 k2) (Tryz.isAgg104 _) ?_
  refine pu1 <| nilO <| thenK_n <| seqE <| regionE <| pu3 <| nilO <| thenK_n <| ?_
  refine cD (((n2 : Nat) : Int) > 0) (fun hc_50 => ?_) (fun hc_50 => ?_)
  · refine seqE ?_
    refine drawE [4, 8] [] [(true, [0, 1, 2]), (true, [3]), (true, [5, 6]), (false, [4]), (true, [7]), (false, [8])] rfl (by kernel_rfl) trivial ?_
    have hS_51 := hS_3.drew
    refine wU [0, 1, 2] ?_
    have hP_52 := hO2.part (lo := 1) (hi := n2) (by omega) (by omega)
    refine wY (.slice (partAddr a2 k2 1 2) (n2 - 1) (k2 - 1)) rfl (fun w _ => Y_sl (a := a2) (len := n2) (cap := k2) (some 1) none 1 n2 Tryz.runUnderlying104 Tryz.sizeOf40 ⟨by decide, rfl⟩ rfl (by omega) (by omega)) ?_
    refine wU [5, 6] ?_
    refine wO rfl ?_
    have hS_53 := Sat.nilc hS_51
    have hO_54 := OwnT.nil (enc := encRef) (E := 40) (sz := 2) (fun _ => rfl)
    refine sApp (nb := 16) hS_53 hO_54 0 (hP_52.rdAt 5 rfl) Tryz.underlying104 (i := Tryz.t40) (by kernel_rfl) (fun _ => rfl) ?_
    intro a_55 cap_56 c_57 w_58 hO_59 hS_60
    refine nilO ⟨trivial, ?_⟩
    refine wU [7] ?_
    refine wO rfl ?_
    refine tW hS_60 2 3 (.slice a_55 (0 + (n2 - 1)) cap_56) Tryz.sizeOf104 ?_
    intro w_61 hS_62
    refine nilO ⟨trivial, ?_⟩
    refine wN ?_
    refine thenK_n <| seqE <| regionE <| pu1 ?_
    refine sIdxO hO2 0 0 Tryz.runUnderlying104 Tryz.sizeOf40 ?_
    intro x_63 b_64 o_65 hx_66 hp_67 hq_68
    refine sLpA hS_62 (hp_67.up 5 rfl) 0 [.int .i64 x_63.job, .int .i64 x_63.task] (Tryz.isAgg40 _) (Tryz.sizeOf40 _) ?_
    refine sT hS_62 1 0 (.agg #[.int .i64 x_63.job, .int .i64 x_63.task]) [.int .i64 x_63.job, .int .i64 x_63.task] #[.int .i64 x_63.job, .int .i64 x_63.task] Tryz.sizeOf40 ?_
    intro w_69 hS_70
    refine pu1 <| nilO <| thenK_n <| retE <| blockK_r <| thenK_r <| thenK_r <| blockK_r <| thenK_r <| retN (vs := [.agg #[.int .i64 x_63.job, .int .i64 x_63.task], .bool true]) rfl (.cons (.cell _ _ _ _ (by kernel_rfl) (lvA hS_70 1 0 [.int .i64 x_63.job, .int .i64 x_63.task] (Tryz.isAgg40 _) (Tryz.sizeOf40 _) rfl rfl rfl)) (.cons (.tmp _ _ (by kernel_rfl)) .nil)) <| ?_
    have hS_71 := ((((((((hS_70.pick 7 rfl).pick 7 rfl).pick 2 rfl).pick 6 rfl).pick 6 rfl).pick 6 rfl).dropAt 6 rfl).dropAt 6 rfl)
    have hS_72 : Sat W _ (([(p, .cells #[.int .i64 S.cap, .slice a0 n0 k0, .slice a1 n1 k1, .slice a_55 (0 + (n2 - 1)) cap_56, .slice a3 n3 k3] 133 (0, 0))] ++ (c0 ++ (c1 ++ (c_57 ++ c3)))) :: H :: F) := Sat.perm (show Sat W _ ([(p, .cells #[.int .i64 S.cap, .slice a0 n0 k0, .slice a1 n1 k1, .slice a_55 (0 + (n2 - 1)) cap_56, .slice a3 n3 k3] 133 (0, 0))] :: c0 :: c1 :: c_57 :: c3 :: H :: F) from hS_71) (by simp)
    have htp := tail_part hn2
    have hOt := hO_59; rw [htp] at hOt
    have hpb : popB S.bs = some (x_63, [l0, l1, l2.tail, l3]) := by rw [hb, popB_nil (by omega), popB_nil (by omega), popB_at hx_66]; rfl
    exact .inr ⟨_, _, _, hpb, rfl, ⟨_, _, _, _, _, _, _, _, _, _, _, _, _, _, _, _, _, _, _, _, rfl, hO0, hO1, hOt, hO3, rfl, hw1, (by have hlt := List.length_tail (l := l2); unfold totB; simp only [List.map_cons, List.map_nil, List.sum_cons, List.sum_nil]; omega)⟩, hS_72⟩
  refine skipE <| blockK_n <| thenK_n <| regionE <| pu3 <| nilO <| thenK_n <| ?_
  refine roundS ?_
  refine seqE <| seqE <| regionE <| pu6 <| nilO <| thenK_n <| cTt <| skipE <| thenK_n <| seqE <| blockE <| seqE <| regionE <| pu5 ?_
  refine sL hS_3 1 4 (.slice a3 n3 k3) (Tryz.isAgg104 _) ?_
  refine pu1 <| nilO <| thenK_n <| seqE <| regionE <| pu3 <| nilO <| thenK_n <| ?_
  refine cD (((n3 : Nat) : Int) > 0) (fun hc_73 => ?_) (fun hc_73 => ?_)
  rotate_left
  · refine skipE <| blockK_n <| thenK_n <| regionE <| pu3 <| nilO <| thenK_n <| ?_
    refine roundS ?_
    refine seqE <| seqE <| regionE <| pu6 <| nilO <| thenK_n <| cFf <| exitE <| thenK_x <| thenK_x <| blockK_x <| thenK_n <| seqE <| regionE <| pu1 ?_
    refine sT hS_3 0 0 (.agg #[.int .i64 0, .int .i64 0]) [.int .i64 0, .int .i64 0] #[.int .i64 0, .int .i64 0] Tryz.sizeOf40 ?_
    intro w_96 hS_97
    refine pu1 <| nilO <| thenK_n <| retE <| retN (vs := [.agg #[.int .i64 0, .int .i64 0], .bool false]) rfl (.cons (.cell _ _ _ _ (by kernel_rfl) (lvA hS_97 0 0 [.int .i64 0, .int .i64 0] (Tryz.isAgg40 _) (Tryz.sizeOf40 _) rfl rfl rfl)) (.cons (.tmp _ _ (by kernel_rfl)) .nil)) <| ?_
    have hS_98 := (((((((hS_97.pick 6 rfl).pick 6 rfl).pick 6 rfl).pick 6 rfl).pick 6 rfl).pick 6 rfl).dropAt 6 rfl)
    have hS_99 : Sat W _ (([(p, .cells #[.int .i64 S.cap, .slice a0 n0 k0, .slice a1 n1 k1, .slice a2 n2 k2, .slice a3 n3 k3] 133 (0, 0))] ++ (c0 ++ (c1 ++ (c2 ++ c3)))) :: H :: F) := Sat.perm (show Sat W _ ([(p, .cells #[.int .i64 S.cap, .slice a0 n0 k0, .slice a1 n1 k1, .slice a2 n2 k2, .slice a3 n3 k3] 133 (0, 0))] :: c0 :: c1 :: c2 :: c3 :: H :: F) from hS_98) (by simp)
    exact .inl ⟨by rw [hb, popB_nil (by omega), popB_nil (by omega), popB_nil (by omega), popB_nil (by omega)]; rfl, rfl, hS_99⟩
  refine seqE ?_
  refine drawE [4, 8] [] [(true, [0, 1, 2]), (true, [3]), (true, [5, 6]), (false, [4]), (true, [7]), (false, [8])] rfl (by kernel_rfl) trivial ?_
  have hS_74 := hS_3.drew
  refine wU [0, 1, 2] ?_
  have hP_75 := hO3.part (lo := 1) (hi := n3) (by omega) (by omega)
  refine wY (.slice (partAddr a3 k3 1 2) (n3 - 1) (k3 - 1)) rfl (fun w _ => Y_sl (a := a3) (len := n3) (cap := k3) (some 1) none 1 n3 Tryz.runUnderlying104 Tryz.sizeOf40 ⟨by decide, rfl⟩ rfl (by omega) (by omega)) ?_
  refine wU [5, 6] ?_
  refine wO rfl ?_
  have hS_76 := Sat.nilc hS_74
  have hO_77 := OwnT.nil (enc := encRef) (E := 40) (sz := 2) (fun _ => rfl)
  refine sApp (nb := 16) hS_76 hO_77 0 (hP_75.rdAt 6 rfl) Tryz.underlying104 (i := Tryz.t40) (by kernel_rfl) (fun _ => rfl) ?_
  intro a_78 cap_79 c_80 w_81 hO_82 hS_83
  refine nilO ⟨trivial, ?_⟩
  refine wU [7] ?_
  refine wO rfl ?_
  refine tW hS_83 2 4 (.slice a_78 (0 + (n3 - 1)) cap_79) Tryz.sizeOf104 ?_
  intro w_84 hS_85
  refine nilO ⟨trivial, ?_⟩
  refine wN ?_
  refine thenK_n <| seqE <| regionE <| pu1 ?_
  refine sIdxO hO3 0 0 Tryz.runUnderlying104 Tryz.sizeOf40 ?_
  intro x_86 b_87 o_88 hx_89 hp_90 hq_91
  refine sLpA hS_85 (hp_90.up 6 rfl) 0 [.int .i64 x_86.job, .int .i64 x_86.task] (Tryz.isAgg40 _) (Tryz.sizeOf40 _) ?_
  refine sT hS_85 1 0 (.agg #[.int .i64 x_86.job, .int .i64 x_86.task]) [.int .i64 x_86.job, .int .i64 x_86.task] #[.int .i64 x_86.job, .int .i64 x_86.task] Tryz.sizeOf40 ?_
  intro w_92 hS_93
  refine pu1 <| nilO <| thenK_n <| retE <| blockK_r <| thenK_r <| thenK_r <| blockK_r <| thenK_r <| retN (vs := [.agg #[.int .i64 x_86.job, .int .i64 x_86.task], .bool true]) rfl (.cons (.cell _ _ _ _ (by kernel_rfl) (lvA hS_93 1 0 [.int .i64 x_86.job, .int .i64 x_86.task] (Tryz.isAgg40 _) (Tryz.sizeOf40 _) rfl rfl rfl)) (.cons (.tmp _ _ (by kernel_rfl)) .nil)) <| ?_
  have hS_94 := ((((((((hS_93.pick 7 rfl).pick 1 rfl).pick 6 rfl).pick 6 rfl).pick 6 rfl).pick 6 rfl).dropAt 6 rfl).dropAt 6 rfl)
  have hS_95 : Sat W _ (([(p, .cells #[.int .i64 S.cap, .slice a0 n0 k0, .slice a1 n1 k1, .slice a2 n2 k2, .slice a_78 (0 + (n3 - 1)) cap_79] 133 (0, 0))] ++ (c0 ++ (c1 ++ (c2 ++ c_80)))) :: H :: F) := Sat.perm (show Sat W _ ([(p, .cells #[.int .i64 S.cap, .slice a0 n0 k0, .slice a1 n1 k1, .slice a2 n2 k2, .slice a_78 (0 + (n3 - 1)) cap_79] 133 (0, 0))] :: c0 :: c1 :: c2 :: c_80 :: H :: F) from hS_94) (by simp)
  have htp := tail_part hn3
  have hOt := hO_82; rw [htp] at hOt
  have hpb : popB S.bs = some (x_86, [l0, l1, l2, l3.tail]) := by rw [hb, popB_nil (by omega), popB_nil (by omega), popB_nil (by omega), popB_at hx_89]; rfl
  exact .inr ⟨_, _, _, hpb, rfl, ⟨_, _, _, _, _, _, _, _, _, _, _, _, _, _, _, _, _, _, _, _, rfl, hO0, hO1, hO2, hOt, rfl, hw1, (by have hlt := List.length_tail (l := l3); unfold totB; simp only [List.map_cons, List.map_nil, List.sum_cons, List.sum_nil]; omega)⟩, hS_95⟩
theorem iq_remove {p : Nat} {S : QS} {M : Chunk} (hR : InjR p S M) (j : Int) (hS : Sat W w (M :: H :: F)) :
    Calls Tryz.prog 40 #[.pointer (some ⟨p, 0, none⟩), .int .i64 j] w fun e w' => ∃ (M' : Chunk) (v : Int), e = .returned (.int .i64 v) ∧ InjR p ({ S with bs := S.bs.map (without j) }) M' ∧ Sat W w' (M' :: H :: F) := by
  obtain ⟨a0, n0, k0, l0, c0, a1, n1, k1, l1, c1, a2, n2, k2, l2, c2, a3, n3, k3, l3, c3, rfl, hO0, hO1, hO2, hO3, hb, hw1, hw2⟩ := hR
  have hS : Sat W _ ([(p, .cells #[.int .i64 S.cap, .slice a0 n0 k0, .slice a1 n1 k1, .slice a2 n2 k2, .slice a3 n3 k3] 133 (0, 0))] :: c0 :: c1 :: c2 :: c3 :: H :: F) := Sat.perm hS (by simp)
  have ht : totB S.bs = n0 + n1 + n2 + n3 := by rw [hb]; unfold totB; simp [hO0.len, hO1.len, hO2.len, hO3.len]; omega
  have hn0 := hO0.len; have hl0 := hO0.le; have hn1 := hO1.len; have hl1 := hO1.le; have hn2 := hO2.len; have hl2 := hO2.le; have hn3 := hO3.len; have hl3 := hO3.le
  refine callsA 34 Tryz.func40 rfl ?_
  refine seqE <| regionE <| pu1 <| nilO <| thenK_n <| seqE <| regionE <| pu1 ?_
  have hS_1 := ((((((hS.pick 5 rfl).pick 5 rfl).pick 5 rfl).pick 5 rfl).pick 5 rfl).pick 5 rfl)
  have hS_2 : Sat W _ (([(p, .cells #[.int .i64 S.cap, .slice a0 n0 k0, .slice a1 n1 k1, .slice a2 n2 k2, .slice a3 n3 k3] 133 (0, 0))] ++ (c0 ++ (c1 ++ (c2 ++ c3)))) :: H :: F) := Sat.perm (show Sat W _ ([(p, .cells #[.int .i64 S.cap, .slice a0 n0 k0, .slice a1 n1 k1, .slice a2 n2 k2, .slice a3 n3 k3] 133 (0, 0))] :: c0 :: c1 :: c2 :: c3 :: H :: F) from hS_1) (by simp)
  have ht_6 : totB [l0, l1, l2, l3] = ((n0 + n1 + n2 + n3 : Nat) : Int) := by unfold totB; simp only [List.map_cons, List.map_nil, List.sum_cons, List.sum_nil]; have h0 := (hO0).len; have h1 := (hO1).len; have h2 := (hO2).len; have h3 := (hO3).len; omega
  refine cX Tryz.call66 (iq_len (S := ⟨S.cap, [l0, l1, l2, l3]⟩) ⟨_, _, _, _, _, _, _, _, _, _, _, _, _, _, _, _, _, _, _, _, rfl, hO0, hO1, hO2, hO3, rfl, hw1, (by dsimp only; omega)⟩ (Sat.flat1 hS_2)) ?_
  rintro _ w_3 ⟨rfl, hS_4⟩
  have hS_5 : Sat W _ ([(p, .cells #[.int .i64 S.cap, .slice a0 n0 k0, .slice a1 n1 k1, .slice a2 n2 k2, .slice a3 n3 k3] 133 (0, 0))] :: c0 :: c1 :: c2 :: c3 :: H :: F) := Sat.perm (Sat.unflat1 hS_4) (by simp)
  refine pu1 <| nilO <| thenK_n <| seqE <| seqE <| regionE <| pu1 <| nilO <| thenK_n <| blockE ?_
  refine loopN 5 ?_
  refine roundS ?_
  refine seqE <| seqE <| regionE <| pu6 <| nilO <| thenK_n <| cTt <| skipE <| thenK_n <| seqE <| blockE ?_
  refine drawE [9, 13] [(7, ⟨p, 1, none⟩, .slice a0 n0 k0)] [(true, [0, 1, 2, 3, 4, 5, 6, 8, 10, 11]), (true, [7]), (false, [9]), (true, [12]), (false, [13])] rfl (by kernel_rfl) ⟨.inr (hS_5.cell 0 rfl rfl), trivial⟩ ?_
  have hS_7 := hS_5.drew
  refine wU [0, 1, 2, 3, 4, 5, 6, 8, 10, 11] ?_
  refine wLd (.slice a0 n0 k0) 0 Tryz.isAgg104 ?_
  refine wO rfl ?_
  refine cX Tryz.call67 (r23_without a0 n0 k0 l0 j (RdT.flat (hO0.rdAt 1 (by rfl))) (by first | omega | (dsimp only; omega)) (Sat.flat hS_7)) ?_
  rintro _ w_8 ⟨az_11, nz_12, kz_13, G_14, rfl, hR_15, h_10⟩
  have hS_9 := Sat.unflat1 h_10
  have hn_az_11 := hR_15.len; have hl_az_11 := hR_15.le
  have := without_len j l0
  refine nilO ⟨⟨.inl (by kernel_rfl), trivial⟩, ?_⟩
  refine wU [12] ?_
  refine wO rfl ?_
  refine tW hS_9 1 1 (.slice az_11 nz_12 kz_13) Tryz.sizeOf104 ?_
  intro w_16 hS_17
  refine nilO ⟨⟨.inl (by kernel_rfl), trivial⟩, ?_⟩
  refine wN ?_
  refine blockK_n <| thenK_n <| regionE <| pu3 <| nilO <| thenK_n <| ?_
  refine roundS ?_
  refine seqE <| seqE <| regionE <| pu6 <| nilO <| thenK_n <| cTt <| skipE <| thenK_n <| seqE <| blockE ?_
  refine drawE [9, 13] [(7, ⟨p, 2, none⟩, .slice a1 n1 k1)] [(true, [0, 1, 2, 3, 4, 5, 6, 8, 10, 11]), (true, [7]), (false, [9]), (true, [12]), (false, [13])] rfl (by kernel_rfl) ⟨.inr (hS_17.cell 1 rfl rfl), trivial⟩ ?_
  have hS_18 := hS_17.drew
  refine wU [0, 1, 2, 3, 4, 5, 6, 8, 10, 11] ?_
  refine wLd (.slice a1 n1 k1) 0 Tryz.isAgg104 ?_
  refine wO rfl ?_
  refine cX Tryz.call67 (r23_without a1 n1 k1 l1 j (RdT.flat (hO1.rdAt 3 (by rfl))) (by first | omega | (dsimp only; omega)) (Sat.flat hS_18)) ?_
  rintro _ w_19 ⟨az_22, nz_23, kz_24, G_25, rfl, hR_26, h_21⟩
  have hS_20 := Sat.unflat1 h_21
  have hn_az_22 := hR_26.len; have hl_az_22 := hR_26.le
  have := without_len j l1
  refine nilO ⟨⟨.inl (by kernel_rfl), trivial⟩, ?_⟩
  refine wU [12] ?_
  refine wO rfl ?_
  refine tW hS_20 2 2 (.slice az_22 nz_23 kz_24) Tryz.sizeOf104 ?_
  intro w_27 hS_28
  refine nilO ⟨⟨.inl (by kernel_rfl), trivial⟩, ?_⟩
  refine wN ?_
  refine blockK_n <| thenK_n <| regionE <| pu3 <| nilO <| thenK_n <| ?_
  refine roundS ?_
  refine seqE <| seqE <| regionE <| pu6 <| nilO <| thenK_n <| cTt <| skipE <| thenK_n <| seqE <| blockE ?_
  refine drawE [9, 13] [(7, ⟨p, 3, none⟩, .slice a2 n2 k2)] [(true, [0, 1, 2, 3, 4, 5, 6, 8, 10, 11]), (true, [7]), (false, [9]), (true, [12]), (false, [13])] rfl (by kernel_rfl) ⟨.inr (hS_28.cell 2 rfl rfl), trivial⟩ ?_
  have hS_29 := hS_28.drew
  refine wU [0, 1, 2, 3, 4, 5, 6, 8, 10, 11] ?_
  refine wLd (.slice a2 n2 k2) 0 Tryz.isAgg104 ?_
  refine wO rfl ?_
  refine cX Tryz.call67 (r23_without a2 n2 k2 l2 j (RdT.flat (hO2.rdAt 5 (by rfl))) (by first | omega | (dsimp only; omega)) (Sat.flat hS_29)) ?_
  rintro _ w_30 ⟨az_33, nz_34, kz_35, G_36, rfl, hR_37, h_32⟩
  have hS_31 := Sat.unflat1 h_32
  have hn_az_33 := hR_37.len; have hl_az_33 := hR_37.le
  have := without_len j l2
  refine nilO ⟨⟨.inl (by kernel_rfl), trivial⟩, ?_⟩
  refine wU [12] ?_
  refine wO rfl ?_
  refine tW hS_31 3 3 (.slice az_33 nz_34 kz_35) Tryz.sizeOf104 ?_
  intro w_38 hS_39
  refine nilO ⟨⟨.inl (by kernel_rfl), trivial⟩, ?_⟩
  refine wN ?_
  refine blockK_n <| thenK_n <| regionE <| pu3 <| nilO <| thenK_n <| ?_
  refine roundS ?_
  refine seqE <| seqE <| regionE <| pu6 <| nilO <| thenK_n <| cTt <| skipE <| thenK_n <| seqE <| blockE ?_
  refine drawE [9, 13] [(7, ⟨p, 4, none⟩, .slice a3 n3 k3)] [(true, [0, 1, 2, 3, 4, 5, 6, 8, 10, 11]), (true, [7]), (false, [9]), (true, [12]), (false, [13])] rfl (by kernel_rfl) ⟨.inr (hS_39.cell 3 rfl rfl), trivial⟩ ?_
  have hS_40 := hS_39.drew
  refine wU [0, 1, 2, 3, 4, 5, 6, 8, 10, 11] ?_
  refine wLd (.slice a3 n3 k3) 0 Tryz.isAgg104 ?_
  refine wO rfl ?_
  refine cX Tryz.call67 (r23_without a3 n3 k3 l3 j (RdT.flat (hO3.rdAt 7 (by rfl))) (by first | omega | (dsimp only; omega)) (Sat.flat hS_40)) ?_
  rintro _ w_41 ⟨az_44, nz_45, kz_46, G_47, rfl, hR_48, h_43⟩
  have hS_42 := Sat.unflat1 h_43
  have hn_az_44 := hR_48.len; have hl_az_44 := hR_48.le
  have := without_len j l3
  refine nilO ⟨⟨.inl (by kernel_rfl), trivial⟩, ?_⟩
  refine wU [12] ?_
  refine wO rfl ?_
  refine tW hS_42 4 4 (.slice az_44 nz_45 kz_46) Tryz.sizeOf104 ?_
  intro w_49 hS_50
  refine nilO ⟨⟨.inl (by kernel_rfl), trivial⟩, ?_⟩
  refine wN ?_
  refine blockK_n <| thenK_n <| regionE <| pu3 <| nilO <| thenK_n <| ?_
  refine roundS ?_
  refine seqE <| seqE <| regionE <| pu6 <| nilO <| thenK_n <| cFf <| exitE <| thenK_x <| thenK_x <| blockK_x <| thenK_n <| seqE <| regionE <| pu2 ?_
  have hS_51 := ((((((((((hS_50.pick 9 rfl).pick 1 rfl).pick 2 rfl).pick 3 rfl).pick 4 rfl).pick 5 rfl).dropAt 6 rfl).dropAt 6 rfl).dropAt 6 rfl).dropAt 6 rfl)
  have hS_52 : Sat W _ (([(p, .cells #[.int .i64 S.cap, .slice az_11 nz_12 kz_13, .slice az_22 nz_23 kz_24, .slice az_33 nz_34 kz_35, .slice az_44 nz_45 kz_46] 133 (0, 0))] ++ (G_14 ++ (G_25 ++ (G_36 ++ G_47)))) :: H :: F) := Sat.perm (show Sat W _ ([(p, .cells #[.int .i64 S.cap, .slice az_11 nz_12 kz_13, .slice az_22 nz_23 kz_24, .slice az_33 nz_34 kz_35, .slice az_44 nz_45 kz_46] 133 (0, 0))] :: G_14 :: G_25 :: G_36 :: G_47 :: H :: F) from hS_51) (by simp)
  have ht_56 : totB [(without j l0), (without j l1), (without j l2), (without j l3)] = ((nz_12 + nz_23 + nz_34 + nz_45 : Nat) : Int) := by unfold totB; simp only [List.map_cons, List.map_nil, List.sum_cons, List.sum_nil]; have h0 := (OwnT.nil (enc := encRef) (E := 40) (sz := 2) (fun _ => rfl)).len; have h1 := (OwnT.nil (enc := encRef) (E := 40) (sz := 2) (fun _ => rfl)).len; have h2 := (OwnT.nil (enc := encRef) (E := 40) (sz := 2) (fun _ => rfl)).len; have h3 := (OwnT.nil (enc := encRef) (E := 40) (sz := 2) (fun _ => rfl)).len; omega
  refine cX Tryz.call66 (iq_len (S := ⟨S.cap, [(without j l0), (without j l1), (without j l2), (without j l3)]⟩) ⟨_, _, _, _, _, _, _, _, _, _, _, _, _, _, _, _, _, _, _, _, rfl, hR_15, hR_26, hR_37, hR_48, rfl, hw1, (by dsimp only; omega)⟩ (Sat.flat1 hS_52)) ?_
  rintro _ w_53 ⟨rfl, hS_54⟩
  have hS_55 : Sat W _ ([(p, .cells #[.int .i64 S.cap, .slice az_11 nz_12 kz_13, .slice az_22 nz_23 kz_24, .slice az_33 nz_34 kz_35, .slice az_44 nz_45 kz_46] 133 (0, 0))] :: G_14 :: G_25 :: G_36 :: G_47 :: H :: F) := Sat.perm (Sat.unflat1 hS_54) (by simp)
  refine sSub (totB [l0, l1, l2, l3]) (totB [(without j l0), (without j l1), (without j l2), (without j l3)]) ?_
  refine pu1 <| nilO <| thenK_n <| retE <| retT [.int .i64 ((totB [l0, l1, l2, l3]) - (totB [(without j l0), (without j l1), (without j l2), (without j l3)]))] <| ?_
  have hS_57 := ((((((hS_55.pick 5 rfl).pick 5 rfl).pick 5 rfl).pick 5 rfl).pick 5 rfl).pick 5 rfl)
  have hS_58 : Sat W _ (([(p, .cells #[.int .i64 S.cap, .slice az_11 nz_12 kz_13, .slice az_22 nz_23 kz_24, .slice az_33 nz_34 kz_35, .slice az_44 nz_45 kz_46] 133 (0, 0))] ++ (G_14 ++ (G_25 ++ (G_36 ++ G_47)))) :: H :: F) := Sat.perm (show Sat W _ ([(p, .cells #[.int .i64 S.cap, .slice az_11 nz_12 kz_13, .slice az_22 nz_23 kz_24, .slice az_33 nz_34 kz_35, .slice az_44 nz_45 kz_46] 133 (0, 0))] :: G_14 :: G_25 :: G_36 :: G_47 :: H :: F) from hS_57) (by simp)
  exact ⟨_, _, rfl, by rw [hb]; exact ⟨_, _, _, _, _, _, _, _, _, _, _, _, _, _, _, _, _, _, _, _, rfl, hR_15, hR_26, hR_37, hR_48, rfl, hw1, (by unfold totB; simp only [List.map_cons, List.map_nil, List.sum_cons, List.sum_nil]; omega)⟩, hS_58⟩
theorem r24_new {cs : List Chunk} (c : Int) (hc : 1 ≤ c ∧ c ≤ 4096) (hS : Sat W w cs) :
    Calls Tryz.prog 34 #[.int .i64 c] w fun e w' => ∃ (p : Nat) (M : Chunk), e = .returned (.tuple #[.pointer (some ⟨p, 0, none⟩), .int .i64 0]) ∧ InjR p ⟨c, [[], [], [], []]⟩ M ∧ Sat W w' (M :: cs) := by
  refine callsA 13 Tryz.func34 rfl ?_
  refine seqE <| regionE <| pu2 <| nilO <| thenK_n <| seqE <| seqE <| regionE <| pu3 ?_
  refine sD 6 (c < 1) (fun hc_1 => ?_) (fun hc_1 => ?_)
  · refine pu3 <| nilO <| thenK_n <| cTt <| seqE <| regionE <| pu2 <| nilO <| thenK_n <| retE <| thenK_r <| retT [.pointer none, .int .i64 2] <| ?_
    omega
  refine pu3 <| nilO <| thenK_n <| ?_
  refine cD (c > 4096) (fun hc_2 => ?_) (fun hc_2 => ?_)
  · refine seqE <| regionE <| pu2 <| nilO <| thenK_n <| retE <| thenK_r <| retT [.pointer none, .int .i64 2] <| ?_
    omega
  refine skipE <| thenK_n <| seqE <| regionE <| pu2 ?_
  refine sBox hS (.agg #[.int .i64 c, .slice none 0 0, .slice none 0 0, .slice none 0 0, .slice none 0 0]) #[.int .i64 c, .slice none 0 0, .slice none 0 0, .slice none 0 0, .slice none 0 0] ?_
  intro b_3 w_4 hS_5
  refine pu2 <| nilO <| thenK_n <| retE <| retT [.pointer (some ⟨b_3, 0, none⟩), .int .i64 0] <| ?_
  exact ⟨_, _, rfl, ⟨_, _, _, [], [], _, _, _, [], [], _, _, _, [], [], _, _, _, [], [], rfl, OwnT.nil (fun _ => rfl), OwnT.nil (fun _ => rfl), OwnT.nil (fun _ => rfl), OwnT.nil (fun _ => rfl), rfl, hc, by unfold totB; simp; omega⟩, hS_5⟩
end Go.Proofs.YtimkhljglpookaaGreat
