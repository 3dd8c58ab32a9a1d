import Derived.Test.YtegmennaekipaaaBd3
namespace Go.Proofs.Ytegmennaekipaaa
open Go Go.E
set_option linter.unusedVariables false
set_option linter.unusedSimpArgs false
set_option linter.unnecessarySimpa false
set_option maxRecDepth 100000
set_option maxHeartbeats 2000000
variable {W w : World} {H : Chunk} {F : List Chunk}
theorem b_entry {p : Nat} {a : Option Addr} {n k : Nat} {es : List BEnt} {c : Chunk} {d : Int} (hO : OwnT encBEnt 125 4 a n k es c) (i : Int) (hS : Sat W w ([(p, .cells #[.slice a n k, .int .i64 d] 122 (0, 0))] :: c :: F)) :
    Calls Try.prog 96 #[.pointer (some ⟨p, 0, none⟩), .int .i64 i] w fun e w' => Sat W w' ([(p, .cells #[.slice a n k, .int .i64 d] 122 (0, 0))] :: c :: F) ∧ ((¬ (0 ≤ i ∧ i < n) ∧ e = .returned (.pointer none)) ∨ ((0 ≤ i ∧ i < n) ∧ ∃ (x : BEnt) (b o : Nat), e = .returned (.pointer (some ⟨b, o + i.toNat * 4, none⟩)) ∧ es[i.toNat]? = some x ∧ a = some ⟨b, o, none⟩)) := by
  have hlo := hO.le; have hln := hO.len
  refine callsA 26 Try.func96 rfl ?_
  refine seqE <| regionE <| pu1 <| nilO <| thenK_n <| seqE <| seqE <| regionE <| pu7 ?_
  refine sD 11 (i < 0) (fun hc_1 => ?_) (fun hc_1 => ?_)
  · refine pu8 <| nilO <| thenK_n <| cTt <| seqE <| regionE <| pu1 <| nilO <| thenK_n <| retE <| thenK_r <| retT [.pointer none] <| ?_
    exact ⟨hS, .inl ⟨by omega, rfl⟩⟩
  refine pu4 <| gY ?_
  refine sL hS 0 0 (.slice a n k) (Try.isAgg120 _) ?_
  refine pu3 <| nilO <| thenK_n <| ?_
  refine cD (i ≥ ((n : Nat) : Int)) (fun hc_2 => ?_) (fun hc_2 => ?_)
  · refine seqE <| regionE <| pu1 <| nilO <| thenK_n <| retE <| thenK_r <| retT [.pointer none] <| ?_
    exact ⟨hS, .inl ⟨by omega, rfl⟩⟩
  refine skipE <| thenK_n <| seqE <| regionE <| pu3 ?_
  refine sL hS 0 0 (.slice a n k) (Try.isAgg120 _) ?_
  refine pu1 ?_
  refine sIdxO hO i (i).toNat Try.runUnderlying120 Try.sizeOf125 ?_
  intro x_3 b_4 o_5 hx_6 hp_7 hq_8
  refine pu1 <| nilO <| thenK_n <| retE <| retT [.pointer (some ⟨b_4, o_5 + (i).toNat * 4, none⟩)] <| ?_
  exact ⟨hS, .inr ⟨by omega, _, _, _, rfl, hx_6, hq_8⟩⟩
theorem b_entry_nil {cs : List Chunk} (i : Int) (hS : Sat W w cs) :
    Ro Try.prog 96 #[.pointer none, .int .i64 i] (.pointer none) W w cs := by
  refine callsA 26 Try.func96 rfl ?_
  refine seqE <| regionE <| pu1 <| nilO <| thenK_n <| seqE <| seqE <| regionE <| pu15 <| nilO <| thenK_n <| cTt <| seqE <| regionE <| pu1 <| nilO <| thenK_n <| retE <| thenK_r <| retT [.pointer none] <| ?_
  exact ⟨rfl, hS⟩
theorem b_held {p : Nat} {a : Option Addr} {n k : Nat} {es : List BEnt} {c : Chunk} {d : Int} (hO : OwnT encBEnt 125 4 a n k es c) (i m : Int) (hS : Sat W w ([(p, .cells #[.slice a n k, .int .i64 d] 122 (0, 0))] :: c :: F)) :
    Calls Try.prog 92 #[.pointer (some ⟨p, 0, none⟩), .int .i64 i, .int .i64 m] w fun e w' => Sat W w' ([(p, .cells #[.slice a n k, .int .i64 d] 122 (0, 0))] :: c :: F) ∧ ((¬ (0 ≤ i ∧ i < n) ∧ e = .returned (.tuple #[.pointer none, .int .i64 16])) ∨ ((0 ≤ i ∧ i < n) ∧ ∃ x : BEnt, es[i.toNat]? = some x ∧ ¬ (x.state = 3 ∧ x.attempt = m) ∧ e = .returned (.tuple #[.pointer none, .int .i64 20])) ∨ ((0 ≤ i ∧ i < n) ∧ ∃ (x : BEnt) (b o : Nat), e = .returned (.tuple #[.pointer (some ⟨b, o + i.toNat * 4, none⟩), .int .i64 0]) ∧ es[i.toNat]? = some x ∧ a = some ⟨b, o, none⟩ ∧ x.state = 3 ∧ x.attempt = m)) := by
  have hlo := hO.le; have hln := hO.len
  refine callsA 28 Try.func92 rfl ?_
  refine seqE <| regionE <| pu2 <| nilO <| thenK_n <| seqE <| regionE <| pu2 ?_
  have hS_1 := ((hS.pick 1 rfl).pick 1 rfl)
  refine cX Try.call96 (b_entry hO i hS_1) ?_
  rintro _ w_2 ⟨hS_3, (⟨hn_9, rfl⟩ | ⟨hn_9, x_4, b_5, o_6, rfl, hx_7, hq_8⟩)⟩
  · refine pu1 <| nilO <| thenK_n <| seqE <| seqE <| regionE <| pu2 <| nilO <| thenK_n <| cTt <| seqE <| regionE <| pu2 <| nilO <| thenK_n <| retE <| thenK_r <| retT [.pointer none, .int .i64 16] <| ?_
    exact ⟨hS_3, .inl ⟨hn_9, rfl⟩⟩
  have hp_10 := OwnT.ptr hO hq_8 hx_7
  refine pu1 <| nilO <| thenK_n <| seqE <| seqE <| regionE <| pu2 <| nilO <| thenK_n <| cFf <| skipE <| thenK_n <| seqE <| seqE <| regionE <| pu3 ?_
  refine sLp hS_3 (hp_10.up 1 rfl) 0 (.int .i64 x_4.state) (Try.isAgg3 _) ?_
  refine pu2 ?_
  refine sN 19 x_4.state 3 (fun hc_11 => ?_) (fun hc_11 => ?_)
  rotate_left
  · refine pu7 <| nilO <| thenK_n <| cTt <| seqE <| regionE <| pu2 <| nilO <| thenK_n <| retE <| thenK_r <| retT [.pointer none, .int .i64 20] <| ?_
    exact ⟨hS_3, .inr (.inl ⟨hn_9, _, hx_7, by omega, rfl⟩)⟩
  refine pu3 <| gY ?_
  refine sLp hS_3 (hp_10.up 1 rfl) 1 (.int .i64 x_4.attempt) (Try.isAgg3 _) ?_
  refine pu3 <| nilO <| thenK_n <| ?_
  refine cN x_4.attempt m (fun hc_12 => ?_) (fun hc_12 => ?_)
  rotate_left
  · refine seqE <| regionE <| pu2 <| nilO <| thenK_n <| retE <| thenK_r <| retT [.pointer none, .int .i64 20] <| ?_
    exact ⟨hS_3, .inr (.inl ⟨hn_9, _, hx_7, by omega, rfl⟩)⟩
  refine skipE <| thenK_n <| seqE <| regionE <| pu3 <| nilO <| thenK_n <| retE <| retT [.pointer (some ⟨b_5, o_6 + i.toNat * 4, none⟩), .int .i64 0] <| ?_
  exact ⟨hS_3, .inr (.inr ⟨hn_9, _, _, _, rfl, hx_7, hq_8, by omega⟩)⟩
theorem b_held_nil {cs : List Chunk} (i m : Int) (hS : Sat W w cs) :
    Ro Try.prog 92 #[.pointer none, .int .i64 i, .int .i64 m] (.tuple #[.pointer none, .int .i64 16]) W w cs := by
  refine callsA 28 Try.func92 rfl ?_
  refine seqE <| regionE <| pu2 <| nilO <| thenK_n <| seqE <| regionE <| pu2 ?_
  refine cX Try.call96 (b_entry_nil i hS) ?_
  rintro _ w_1 ⟨rfl, hS_2⟩
  refine pu1 <| nilO <| thenK_n <| seqE <| seqE <| regionE <| pu2 <| nilO <| thenK_n <| cTt <| seqE <| regionE <| pu2 <| nilO <| thenK_n <| retE <| thenK_r <| retT [.pointer none, .int .i64 16] <| ?_
  exact ⟨rfl, hS_2⟩
theorem b_start {p : Nat} {B : BS} {K : Int} {M : Chunk} (hB : BoardR p B M) (hW : BWf B K) (i : Int) (hS : Sat W w (M :: H :: F)) :
    Calls Try.prog 100 #[.pointer (some ⟨p, 0, none⟩), .int .i64 i] w fun e w' => ∃ M' : Chunk, e = .returned (.tuple #[.int .i64 (startB B i).2.1, .int .i64 (startB B i).2.2]) ∧ BoardR p ((startB B i).1) M' ∧ Sat W w' (M' :: H :: F) := by
  obtain ⟨a, n, k, es, c, G, rfl, hO, hD, hE⟩ := hB
  have hS : Sat W _ ([(p, .cells #[.slice a n k, .int .i64 (doneOf B)] 122 (0, 0))] :: c :: G :: H :: F) := Sat.perm hS (by simp)
  have hlo := hO.le; have hln := hO.len; have hel := entsOf_len hE; have hw1 := hW.ls; have hw2 := hW.la; have hw3 := hW.n0
  refine callsA 24 Try.func100 rfl ?_
  refine seqE <| regionE <| pu2 <| nilO <| thenK_n <| seqE <| regionE <| pu2 ?_
  have hS_1 := ((hS.pick 1 rfl).pick 1 rfl)
  refine cX Try.call96 (b_entry hO i hS_1) ?_
  rintro _ w_2 ⟨hS_3, (⟨hn_9, rfl⟩ | ⟨hn_9, x_4, b_5, o_6, rfl, hx_7, hq_8⟩)⟩
  · refine pu1 <| nilO <| thenK_n <| seqE <| seqE <| regionE <| pu2 <| nilO <| thenK_n <| cTt <| seqE <| regionE <| pu2 <| nilO <| thenK_n <| retE <| thenK_r <| retT [.int .i64 0, .int .i64 16] <| ?_
    have hS_10 : Sat W _ (([(p, .cells #[.slice a n k, .int .i64 (doneOf B)] 122 (0, 0))] ++ (c ++ G)) :: H :: F) := Sat.perm hS_3 (by simp)
    have hno : ¬ inB B i := by unfold inB; omega
    have he : startB B i = (B, 0, 16) := by unfold startB; rw [if_neg hno]
    exact ⟨_, by rw [he]; rfl, by rw [he]; exact ⟨_, _, _, es, c, G, rfl, hO, hD, hE⟩, hS_10⟩
  have hp_11 := OwnT.ptr hO hq_8 hx_7
  refine pu1 <| nilO <| thenK_n <| seqE <| seqE <| regionE <| pu2 <| nilO <| thenK_n <| cFf <| skipE <| thenK_n <| seqE <| seqE <| regionE <| pu3 ?_
  refine sLp hS_3 (hp_11.up 1 rfl) 0 (.int .i64 x_4.state) (Try.isAgg3 _) ?_
  refine pu1 <| nilO <| thenK_n <| ?_
  refine cN x_4.state 2 (fun hc_12 => ?_) (fun hc_12 => ?_)
  rotate_left
  · refine seqE <| regionE <| pu2 <| nilO <| thenK_n <| retE <| thenK_r <| retT [.int .i64 0, .int .i64 20] <| ?_
    have hen := entAt hE hx_7
    have hin : inB B i := by unfold inB; omega
    have hS_20 : Sat W _ (([(p, .cells #[.slice a n k, .int .i64 (doneOf B)] 122 (0, 0))] ++ (c ++ G)) :: H :: F) := Sat.perm hS_3 (by simp)
    have he : startB B i = (B, 0, 20) := by unfold startB; rw [if_pos hin, if_neg (by rw [stAt_nat _ (by omega)]; omega)]
    exact ⟨_, by rw [he]; rfl, by rw [he]; exact ⟨_, _, _, es, c, G, rfl, hO, hD, hE⟩, hS_20⟩
  refine skipE <| thenK_n <| seqE <| regionE <| pu3 ?_
  refine sStF hS_3 hO hq_8 1 i.toNat 0 x_4 (⟨3, x_4.attempt, x_4.pending, x_4.next⟩ : BEnt) hx_7 (.int .i64 3) [.int .i64 3] Try.sizeOf3 ?_
  intro w_13 c_15 hO_16 hS_14
  refine nilO <| thenK_n <| seqE <| regionE <| pu3 ?_
  have hx_17 := set_at (y := (⟨3, x_4.attempt, x_4.pending, x_4.next⟩ : BEnt)) hx_7
  have hp_18 := OwnT.ptr hO_16 hq_8 hx_17
  refine sLp hS_14 (hp_18.up 1 rfl) 1 (.int .i64 x_4.attempt) (Try.isAgg3 _) ?_
  refine pu2 <| nilO <| thenK_n <| retE <| retT [.int .i64 x_4.attempt, .int .i64 0] <| ?_
  have hen := entAt hE hx_7
  have hin : inB B i := by unfold inB; omega
  have hS_19 : Sat W _ (([(p, .cells #[.slice a n k, .int .i64 (doneOf B)] 122 (0, 0))] ++ (c_15 ++ G)) :: H :: F) := Sat.perm hS_14 (by simp)
  have he : startB B i = (⟨B.deps, B.st.set i.toNat 3, B.att⟩, B.att.getD i.toNat 0, 0) := by unfold startB; rw [if_pos hin, if_pos (by rw [stAt_nat _ (by omega)]; omega)]
  have hes := ents_state (x' := (⟨3, x_4.attempt, x_4.pending, x_4.next⟩ : BEnt)) (y := 3) hw1 hw2 hE hx_7 (by omega) (by omega) rfl hen.2.2.1 rfl rfl
  rw [set_self] at hes
  refine ⟨_, by rw [he]; exact congrArg (fun z => Ending.returned (.tuple #[.int .i64 z, .int .i64 0])) hen.2.2.1, by rw [he]; exact ⟨_, _, _, _, c_15, G, by rw [hes.2], hO_16, ok_set hD hx_7 rfl, hes.1⟩, hS_19⟩
theorem b_return {p : Nat} {B : BS} {K : Int} {M : Chunk} (hB : BoardR p B M) (hW : BWf B K) (i : Int) (m : Int) (hK : K ≤ 4611686018427387904) (hS : Sat W w (M :: H :: F)) :
    Calls Try.prog 66 #[.pointer (some ⟨p, 0, none⟩), .int .i64 i, .int .i64 m] w fun e w' => ∃ M' : Chunk, e = .returned (.int .i64 (heldC B i m)) ∧ BoardR p (retB B i m) M' ∧ Sat W w' (M' :: H :: F) := by
  obtain ⟨a, n, k, es, c, G, rfl, hO, hD, hE⟩ := hB
  have hS : Sat W _ ([(p, .cells #[.slice a n k, .int .i64 (doneOf B)] 122 (0, 0))] :: c :: G :: H :: F) := Sat.perm hS (by simp)
  have hlo := hO.le; have hln := hO.len; have hel := entsOf_len hE; have hw1 := hW.ls; have hw2 := hW.la; have hw3 := hW.n0
  refine callsA 29 Try.func66 rfl ?_
  refine seqE <| regionE <| pu1 <| nilO <| thenK_n <| seqE <| regionE <| pu3 ?_
  have hS_1 := ((hS.pick 1 rfl).pick 1 rfl)
  refine cX Try.call92 (b_held hO i m hS_1) ?_
  rintro _ w_2 ⟨hS_3, (⟨hn_9, rfl⟩ | ⟨hn_9, x_4, hx_7, hh_10, rfl⟩ | ⟨hn_9, x_4, b_5, o_6, rfl, hx_7, hq_8, hh_10⟩)⟩
  · refine pu5 <| nilO <| thenK_n <| seqE <| seqE <| regionE <| pu2 <| nilO <| thenK_n <| cTt <| seqE <| regionE <| pu2 <| nilO <| thenK_n <| retE <| thenK_r <| retT [.int .i64 16] <| ?_
    have hS_11 : Sat W _ (([(p, .cells #[.slice a n k, .int .i64 (doneOf B)] 122 (0, 0))] ++ (c ++ G)) :: H :: F) := Sat.perm hS_3 (by simp)
    have hno : ¬ inB B i := by unfold inB; omega
    have he : heldC B i m = 16 := by unfold heldC; rw [if_neg hno]
    have hr : retB B i m = B := by unfold retB; rw [he, if_neg (by decide)]
    exact ⟨_, by rw [he]; rfl, by rw [hr]; exact ⟨_, _, _, es, c, G, rfl, hO, hD, hE⟩, hS_11⟩
  · refine pu5 <| nilO <| thenK_n <| seqE <| seqE <| regionE <| pu2 <| nilO <| thenK_n <| cTt <| seqE <| regionE <| pu2 <| nilO <| thenK_n <| retE <| thenK_r <| retT [.int .i64 20] <| ?_
    have hen := entAt hE hx_7
    have hin : inB B i := by unfold inB; omega
    have hS_12 : Sat W _ (([(p, .cells #[.slice a n k, .int .i64 (doneOf B)] 122 (0, 0))] ++ (c ++ G)) :: H :: F) := Sat.perm hS_3 (by simp)
    have he : heldC B i m = 20 := by unfold heldC; rw [if_pos hin, if_neg (by rw [stAt_nat _ (by omega)]; omega)]
    have hr : retB B i m = B := by unfold retB; rw [he, if_neg (by decide)]
    exact ⟨_, by rw [he]; rfl, by rw [hr]; exact ⟨_, _, _, es, c, G, rfl, hO, hD, hE⟩, hS_12⟩
  have hp_13 := OwnT.ptr hO hq_8 hx_7
  refine pu5 <| nilO <| thenK_n <| seqE <| seqE <| regionE <| pu2 <| nilO <| thenK_n <| cFf <| skipE <| thenK_n <| seqE <| regionE <| pu3 ?_
  refine sStF hS_3 hO hq_8 1 i.toNat 0 x_4 (⟨2, x_4.attempt, x_4.pending, x_4.next⟩ : BEnt) hx_7 (.int .i64 2) [.int .i64 2] Try.sizeOf3 ?_
  intro w_14 c_16 hO_17 hS_15
  refine nilO <| thenK_n <| seqE ?_
  have hen0 := entAt hE hx_7; have hab := hW.att _ (getD_mem (q := i.toNat) (s := B.att) (by omega))
  refine regionE <| pu3 ?_
  have hx_18 := set_at (y := (⟨2, x_4.attempt, x_4.pending, x_4.next⟩ : BEnt)) hx_7
  have hp_19 := OwnT.ptr hO_17 hq_8 hx_18
  refine sLp hS_15 (hp_19.up 1 rfl) 1 (.int .i64 x_4.attempt) (Try.isAgg3 _) ?_
  refine sAdd x_4.attempt 1 ?_
  refine pu2 ?_
  refine sStF hS_15 hO_17 hq_8 1 i.toNat 1 (⟨2, x_4.attempt, x_4.pending, x_4.next⟩ : BEnt) (⟨2, (x_4.attempt + 1), x_4.pending, x_4.next⟩ : BEnt) hx_18 (.int .i64 (x_4.attempt + 1)) [.int .i64 (x_4.attempt + 1)] Try.sizeOf3 ?_
  intro w_20 c_22 hO_23 hS_21
  rw [List.set_set] at hO_23
  refine nilO <| thenK_n <| seqE <| regionE <| pu1 <| nilO <| thenK_n <| retE <| retT [.int .i64 0] <| ?_
  have hen := entAt hE hx_7
  have hin : inB B i := by unfold inB; omega
  have hS_24 : Sat W _ (([(p, .cells #[.slice a n k, .int .i64 (doneOf B)] 122 (0, 0))] ++ (c_22 ++ G)) :: H :: F) := Sat.perm hS_21 (by simp)
  have he : heldC B i m = 0 := by unfold heldC; rw [if_pos hin, if_pos (by rw [stAt_nat _ (by omega)]; omega)]
  have hr : retB B i m = ⟨B.deps, B.st.set i.toNat 2, B.att.set i.toNat (m + 1)⟩ := by unfold retB; rw [if_pos he]
  have hes := ents_state (x' := (⟨2, (x_4.attempt + 1), x_4.pending, x_4.next⟩ : BEnt)) (y := 2) (z := m + 1) hw1 hw2 hE hx_7 (by omega) (by omega) rfl (by dsimp only; omega) rfl rfl
  exact ⟨_, by rw [he]; rfl, by rw [hr]; exact ⟨_, _, _, _, c_22, G, by rw [hes.2], hO_23, ok_set hD hx_7 rfl, hes.1⟩, hS_24⟩
theorem st_out {s : List Int} {i : Int} (h : ¬ (0 ≤ i ∧ i < ((s.length : Nat) : Int))) : stAt s i = 0 := by
  unfold stAt
  split
  · rw [List.getD_eq_getElem?_getD, List.getElem?_eq_none (by omega)]; rfl
  · rfl
theorem b_state {p : Nat} {B : BS} {K : Int} {M : Chunk} (hB : BoardR p B M) (hW : BWf B K) (i : Int) (hS : Sat W w (M :: H :: F)) :
    Calls Try.prog 73 #[.pointer (some ⟨p, 0, none⟩), .int .i64 i] w fun e w' => e = .returned (.int .i64 (stAt B.st i)) ∧ Sat W w' (M :: H :: F) := by
  obtain ⟨a, n, k, es, c, G, rfl, hO, hD, hE⟩ := hB
  have hS : Sat W _ ([(p, .cells #[.slice a n k, .int .i64 (doneOf B)] 122 (0, 0))] :: c :: G :: H :: F) := Sat.perm hS (by simp)
  have hlo := hO.le; have hln := hO.len; have hel := entsOf_len hE; have hw1 := hW.ls; have hw2 := hW.la; have hw3 := hW.n0
  refine callsA 15 Try.func73 rfl ?_
  refine seqE <| regionE <| pu1 <| nilO <| thenK_n <| seqE <| regionE <| pu2 ?_
  have hS_1 := ((hS.pick 1 rfl).pick 1 rfl)
  refine cX Try.call96 (b_entry hO i hS_1) ?_
  rintro _ w_2 ⟨hS_3, (⟨hn_9, rfl⟩ | ⟨hn_9, x_4, b_5, o_6, rfl, hx_7, hq_8⟩)⟩
  · refine pu1 <| nilO <| thenK_n <| seqE <| seqE <| regionE <| pu2 <| nilO <| thenK_n <| cTt <| seqE <| regionE <| pu1 <| nilO <| thenK_n <| retE <| thenK_r <| retT [.int .i64 0] <| ?_
    have hS_10 : Sat W _ (([(p, .cells #[.slice a n k, .int .i64 (doneOf B)] 122 (0, 0))] ++ (c ++ G)) :: H :: F) := Sat.perm hS_3 (by simp)
    exact ⟨by rw [st_out (by omega)]; rfl, hS_10⟩
  have hp_11 := OwnT.ptr hO hq_8 hx_7
  refine pu1 <| nilO <| thenK_n <| seqE <| seqE <| regionE <| pu2 <| nilO <| thenK_n <| cFf <| skipE <| thenK_n <| seqE <| regionE <| pu3 ?_
  refine sLp hS_3 (hp_11.up 1 rfl) 0 (.int .i64 x_4.state) (Try.isAgg3 _) ?_
  refine pu1 <| nilO <| thenK_n <| retE <| retT [.int .i64 x_4.state] <| ?_
  have hS_12 : Sat W _ (([(p, .cells #[.slice a n k, .int .i64 (doneOf B)] 122 (0, 0))] ++ (c ++ G)) :: H :: F) := Sat.perm hS_3 (by simp)
  have hen := entAt hE hx_7
  exact ⟨by rw [stAt_nat _ (by omega), ← hen.2.1]; rfl, hS_12⟩
theorem b_done {p : Nat} {B : BS} {K : Int} {M : Chunk} (hB : BoardR p B M) (hW : BWf B K)  (hS : Sat W w (M :: H :: F)) :
    Calls Try.prog 88 #[.pointer (some ⟨p, 0, none⟩)] w fun e w' => e = .returned (.int .i64 (doneOf B)) ∧ Sat W w' (M :: H :: F) := by
  obtain ⟨a, n, k, es, c, G, rfl, hO, hD, hE⟩ := hB
  have hS : Sat W _ ([(p, .cells #[.slice a n k, .int .i64 (doneOf B)] 122 (0, 0))] :: c :: G :: H :: F) := Sat.perm hS (by simp)
  have hlo := hO.le; have hln := hO.len; have hel := entsOf_len hE; have hw1 := hW.ls; have hw2 := hW.la; have hw3 := hW.n0
  refine callsA 9 Try.func88 rfl ?_
  refine seqE <| regionE <| pu1 <| nilO <| thenK_n <| seqE <| seqE <| regionE <| pu2 <| nilO <| thenK_n <| cFf <| skipE <| thenK_n <| seqE <| regionE <| pu3 ?_
  refine sL hS 0 1 (.int .i64 (doneOf B)) (Try.isAgg3 _) ?_
  refine pu1 <| nilO <| thenK_n <| retE <| retT [.int .i64 (doneOf B)] <| ?_
  have hS_1 : Sat W _ (([(p, .cells #[.slice a n k, .int .i64 (doneOf B)] 122 (0, 0))] ++ (c ++ G)) :: H :: F) := Sat.perm hS (by simp)
  exact ⟨rfl, hS_1⟩
theorem b_total {p : Nat} {B : BS} {K : Int} {M : Chunk} (hB : BoardR p B M) (hW : BWf B K)  (hS : Sat W w (M :: H :: F)) :
    Calls Try.prog 89 #[.pointer (some ⟨p, 0, none⟩)] w fun e w' => e = .returned (.int .i64 ((B.deps.length : Nat) : Int)) ∧ Sat W w' (M :: H :: F) := by
  obtain ⟨a, n, k, es, c, G, rfl, hO, hD, hE⟩ := hB
  have hS : Sat W _ ([(p, .cells #[.slice a n k, .int .i64 (doneOf B)] 122 (0, 0))] :: c :: G :: H :: F) := Sat.perm hS (by simp)
  have hlo := hO.le; have hln := hO.len; have hel := entsOf_len hE; have hw1 := hW.ls; have hw2 := hW.la; have hw3 := hW.n0
  refine callsA 10 Try.func89 rfl ?_
  refine seqE <| regionE <| pu1 <| nilO <| thenK_n <| seqE <| seqE <| regionE <| pu2 <| nilO <| thenK_n <| cFf <| skipE <| thenK_n <| seqE <| regionE <| pu3 ?_
  refine sL hS 0 0 (.slice a n k) (Try.isAgg120 _) ?_
  refine pu2 <| nilO <| thenK_n <| retE <| retT [.int .i64 ((n : Nat) : Int)] <| ?_
  have hS_1 : Sat W _ (([(p, .cells #[.slice a n k, .int .i64 (doneOf B)] 122 (0, 0))] ++ (c ++ G)) :: H :: F) := Sat.perm hS (by simp)
  exact ⟨by rw [show B.deps.length = n by omega]; rfl, hS_1⟩
theorem b_start_nil {cs : List Chunk} (i : Int) (hS : Sat W w cs) :
    Ro Try.prog 100 #[.pointer none, .int .i64 i] (.tuple #[.int .i64 0, .int .i64 16]) W w cs := by
  refine callsA 24 Try.func100 rfl ?_
  refine seqE <| regionE <| pu2 <| nilO <| thenK_n <| seqE <| regionE <| pu2 ?_
  refine cX Try.call96 (b_entry_nil i hS) ?_
  rintro _ w_1 ⟨rfl, hS_2⟩
  refine pu1 <| nilO <| thenK_n <| seqE <| seqE <| regionE <| pu2 <| nilO <| thenK_n <| cTt <| seqE <| regionE <| pu2 <| nilO <| thenK_n <| retE <| thenK_r <| retT [.int .i64 0, .int .i64 16] <| ?_
  exact ⟨rfl, hS_2⟩
theorem b_return_nil {cs : List Chunk} (i : Int) (m : Int) (hS : Sat W w cs) :
    Ro Try.prog 66 #[.pointer none, .int .i64 i, .int .i64 m] (.int .i64 16) W w cs := by
  refine callsA 29 Try.func66 rfl ?_
  refine seqE <| regionE <| pu1 <| nilO <| thenK_n <| seqE <| regionE <| pu3 ?_
  refine cX Try.call92 (b_held_nil i m hS) ?_
  rintro _ w_1 ⟨rfl, hS_2⟩
  refine pu5 <| nilO <| thenK_n <| seqE <| seqE <| regionE <| pu2 <| nilO <| thenK_n <| cTt <| seqE <| regionE <| pu2 <| nilO <| thenK_n <| retE <| thenK_r <| retT [.int .i64 16] <| ?_
  exact ⟨rfl, hS_2⟩
theorem b_state_nil {cs : List Chunk} (i : Int) (hS : Sat W w cs) :
    Ro Try.prog 73 #[.pointer none, .int .i64 i] (.int .i64 0) W w cs := by
  refine callsA 15 Try.func73 rfl ?_
  refine seqE <| regionE <| pu1 <| nilO <| thenK_n <| seqE <| regionE <| pu2 ?_
  refine cX Try.call96 (b_entry_nil i hS) ?_
  rintro _ w_1 ⟨rfl, hS_2⟩
  refine pu1 <| nilO <| thenK_n <| seqE <| seqE <| regionE <| pu2 <| nilO <| thenK_n <| cTt <| seqE <| regionE <| pu1 <| nilO <| thenK_n <| retE <| thenK_r <| retT [.int .i64 0] <| ?_
  exact ⟨rfl, hS_2⟩
theorem b_done_nil {cs : List Chunk}  (hS : Sat W w cs) :
    Ro Try.prog 88 #[.pointer none] (.int .i64 0) W w cs := by
  refine callsA 9 Try.func88 rfl ?_
  refine seqE <| regionE <| pu1 <| nilO <| thenK_n <| seqE <| seqE <| regionE <| pu2 <| nilO <| thenK_n <| cTt <| seqE <| regionE <| pu1 <| nilO <| thenK_n <| retE <| thenK_r <| retT [.int .i64 0] <| ?_
  exact ⟨rfl, hS⟩
theorem b_total_nil {cs : List Chunk}  (hS : Sat W w cs) :
    Ro Try.prog 89 #[.pointer none] (.int .i64 0) W w cs := by
  refine callsA 10 Try.func89 rfl ?_
  refine seqE <| regionE <| pu1 <| nilO <| thenK_n <| seqE <| seqE <| regionE <| pu2 <| nilO <| thenK_n <| cTt <| seqE <| regionE <| pu1 <| nilO <| thenK_n <| retE <| thenK_r <| retT [.int .i64 0] <| ?_
  exact ⟨rfl, hS⟩
end Go.Proofs.Ytegmennaekipaaa
