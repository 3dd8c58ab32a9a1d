import Derived.Test.YtimkhljglpookaaGreatBd3
namespace Go.Proofs.YtimkhljglpookaaGreat
open Go Go.E
set_option linter.unusedVariables false
set_option linter.unusedSimpArgs false
set_option linter.unnecessarySimpa false
set_option maxRecDepth 100000
set_option maxHeartbeats 2000000
variable {W w : World} {H : Chunk} {F : List Chunk}
theorem b_entry {p : Nat} {a : Option Addr} {n k : Nat} {es : List BEnt} {c : Chunk} {d : Int} (hO : OwnT encBEnt 167 4 a n k es c) (i : Int) (hS : Sat W w ([(p, .cells #[.slice a n k, .int .i64 d] 164 (0, 0))] :: c :: F)) :
    Calls Tryz.prog 107 #[.pointer (some ⟨p, 0, none⟩), .int .i64 i] w fun e w' => Sat W w' ([(p, .cells #[.slice a n k, .int .i64 d] 164 (0, 0))] :: c :: F) ∧ ((¬ (0 ≤ i ∧ i < n) ∧ e = .returned (.pointer none)) ∨ ((0 ≤ i ∧ i < n) ∧ ∃ (x : BEnt) (b o : Nat), e = .returned (.pointer (some ⟨b, o + i.toNat * 4, none⟩)) ∧ es[i.toNat]? = some x ∧ a = some ⟨b, o, none⟩)) := by
  have hlo := hO.le; have hln := hO.len
  refine callsA 26 Tryz.func107 rfl ?_
  refine seqE <| regionE <| pu1 <| nilO <| thenK_n <| seqE <| seqE <| regionE <| pu7 ?_
  refine sD 11 (i < 0) (fun hc_1 => ?_) (fun hc_1 => ?_)
  · refine pu8 <| nilO <| thenK_n <| cTt <| seqE <| regionE <| pu1 <| nilO <| thenK_n <| retE <| thenK_r <| retT [.pointer none] <| ?_
    have hS_2 := ((hS.pick 1 rfl).pick 1 rfl)
    exact ⟨hS_2, .inl ⟨by omega, rfl⟩⟩
  refine pu4 <| gY ?_
  refine sL hS 0 0 (.slice a n k) (Tryz.isAgg162 _) ?_
  refine pu3 <| nilO <| thenK_n <| ?_
  refine cD (i ≥ ((n : Nat) : Int)) (fun hc_3 => ?_) (fun hc_3 => ?_)
  · refine seqE <| regionE <| pu1 <| nilO <| thenK_n <| retE <| thenK_r <| retT [.pointer none] <| ?_
    have hS_4 := ((hS.pick 1 rfl).pick 1 rfl)
    exact ⟨hS_4, .inl ⟨by omega, rfl⟩⟩
  refine skipE <| thenK_n <| seqE <| regionE <| pu3 ?_
  refine sL hS 0 0 (.slice a n k) (Tryz.isAgg162 _) ?_
  refine pu1 ?_
  refine sIdxO hO i (i).toNat Tryz.runUnderlying162 Tryz.sizeOf167 ?_
  intro x_5 b_6 o_7 hx_8 hp_9 hq_10
  refine pu1 <| nilO <| thenK_n <| retE <| retT [.pointer (some ⟨b_6, o_7 + (i).toNat * 4, none⟩)] <| ?_
  have hS_11 := ((hS.pick 1 rfl).pick 1 rfl)
  exact ⟨hS_11, .inr ⟨by omega, _, _, _, rfl, hx_8, hq_10⟩⟩
theorem b_entry_nil {cs : List Chunk} (i : Int) (hS : Sat W w cs) :
    Ro Tryz.prog 107 #[.pointer none, .int .i64 i] (.pointer none) W w cs := by
  refine callsA 26 Tryz.func107 rfl ?_
  refine seqE <| regionE <| pu1 <| nilO <| thenK_n <| seqE <| seqE <| regionE <| pu15 <| nilO <| thenK_n <| cTt <| seqE <| regionE <| pu1 <| nilO <| thenK_n <| retE <| thenK_r <| retT [.pointer none] <| ?_
  exact ⟨rfl, hS⟩
theorem b_held {p : Nat} {a : Option Addr} {n k : Nat} {es : List BEnt} {c : Chunk} {d : Int} (hO : OwnT encBEnt 167 4 a n k es c) (i m : Int) (hS : Sat W w ([(p, .cells #[.slice a n k, .int .i64 d] 164 (0, 0))] :: c :: F)) :
    Calls Tryz.prog 108 #[.pointer (some ⟨p, 0, none⟩), .int .i64 i, .int .i64 m] w fun e w' => Sat W w' ([(p, .cells #[.slice a n k, .int .i64 d] 164 (0, 0))] :: c :: F) ∧ ((¬ (0 ≤ i ∧ i < n) ∧ e = .returned (.tuple #[.pointer none, .int .i64 16])) ∨ ((0 ≤ i ∧ i < n) ∧ ∃ x : BEnt, es[i.toNat]? = some x ∧ ¬ (x.state = 3 ∧ x.attempt = m) ∧ e = .returned (.tuple #[.pointer none, .int .i64 20])) ∨ ((0 ≤ i ∧ i < n) ∧ ∃ (x : BEnt) (b o : Nat), e = .returned (.tuple #[.pointer (some ⟨b, o + i.toNat * 4, none⟩), .int .i64 0]) ∧ es[i.toNat]? = some x ∧ a = some ⟨b, o, none⟩ ∧ x.state = 3 ∧ x.attempt = m)) := by
  have hlo := hO.le; have hln := hO.len
  refine callsA 28 Tryz.func108 rfl ?_
  refine seqE <| regionE <| pu2 <| nilO <| thenK_n <| seqE <| regionE <| pu2 ?_
  have hS_1 := ((hS.pick 1 rfl).pick 1 rfl)
  refine cX Tryz.call107 (b_entry hO i hS_1) ?_
  rintro _ w_2 ⟨hS_3, (⟨hn_9, rfl⟩ | ⟨hn_9, x_4, b_5, o_6, rfl, hx_7, hq_8⟩)⟩
  · refine pu1 <| nilO <| thenK_n <| seqE <| seqE <| regionE <| pu2 <| nilO <| thenK_n <| cTt <| seqE <| regionE <| pu2 <| nilO <| thenK_n <| retE <| thenK_r <| retT [.pointer none, .int .i64 16] <| ?_
    have hS_10 := ((hS_3.pick 1 rfl).pick 1 rfl)
    exact ⟨hS_10, .inl ⟨hn_9, rfl⟩⟩
  have hp_11 := OwnT.ptr hO hq_8 hx_7
  refine pu1 <| nilO <| thenK_n <| seqE <| seqE <| regionE <| pu2 <| nilO <| thenK_n <| cFf <| skipE <| thenK_n <| seqE <| seqE <| regionE <| pu3 ?_
  refine sLp hS_3 (hp_11.up 1 rfl) 0 (.int .i64 x_4.state) (Tryz.isAgg3 _) ?_
  refine pu2 ?_
  refine sN 19 x_4.state 3 (fun hc_12 => ?_) (fun hc_12 => ?_)
  rotate_left
  · refine pu7 <| nilO <| thenK_n <| cTt <| seqE <| regionE <| pu2 <| nilO <| thenK_n <| retE <| thenK_r <| retT [.pointer none, .int .i64 20] <| ?_
    have hS_16 := ((hS_3.pick 1 rfl).pick 1 rfl)
    exact ⟨hS_16, .inr (.inl ⟨hn_9, _, hx_7, by omega, rfl⟩)⟩
  refine pu3 <| gY ?_
  refine sLp hS_3 (hp_11.up 1 rfl) 1 (.int .i64 x_4.attempt) (Tryz.isAgg3 _) ?_
  refine pu3 <| nilO <| thenK_n <| ?_
  refine cN x_4.attempt m (fun hc_13 => ?_) (fun hc_13 => ?_)
  rotate_left
  · refine seqE <| regionE <| pu2 <| nilO <| thenK_n <| retE <| thenK_r <| retT [.pointer none, .int .i64 20] <| ?_
    have hS_15 := ((hS_3.pick 1 rfl).pick 1 rfl)
    exact ⟨hS_15, .inr (.inl ⟨hn_9, _, hx_7, by omega, rfl⟩)⟩
  refine skipE <| thenK_n <| seqE <| regionE <| pu3 <| nilO <| thenK_n <| retE <| retT [.pointer (some ⟨b_5, o_6 + i.toNat * 4, none⟩), .int .i64 0] <| ?_
  have hS_14 := ((hS_3.pick 1 rfl).pick 1 rfl)
  exact ⟨hS_14, .inr (.inr ⟨hn_9, _, _, _, rfl, hx_7, hq_8, by omega⟩)⟩
theorem b_held_nil {cs : List Chunk} (i m : Int) (hS : Sat W w cs) :
    Ro Tryz.prog 108 #[.pointer none, .int .i64 i, .int .i64 m] (.tuple #[.pointer none, .int .i64 16]) W w cs := by
  refine callsA 28 Tryz.func108 rfl ?_
  refine seqE <| regionE <| pu2 <| nilO <| thenK_n <| seqE <| regionE <| pu2 ?_
  refine cX Tryz.call107 (b_entry_nil i hS) ?_
  rintro _ w_1 ⟨rfl, hS_2⟩
  refine pu1 <| nilO <| thenK_n <| seqE <| seqE <| regionE <| pu2 <| nilO <| thenK_n <| cTt <| seqE <| regionE <| pu2 <| nilO <| thenK_n <| retE <| thenK_r <| retT [.pointer none, .int .i64 16] <| ?_
  exact ⟨rfl, hS_2⟩
theorem b_start {p : Nat} {B : BS} {K : Int} {M : Chunk} (hB : BoardR p B M) (hW : BWf B K) (i : Int) (hS : Sat W w (M :: H :: F)) :
    Calls Tryz.prog 94 #[.pointer (some ⟨p, 0, none⟩), .int .i64 i] w fun e w' => ∃ M' : Chunk, e = .returned (.tuple #[.int .i64 (startB B i).2.1, .int .i64 (startB B i).2.2]) ∧ BoardR p ((startB B i).1) M' ∧ Sat W w' (M' :: H :: F) := by
  obtain ⟨a, n, k, es, c, G, rfl, hO, hD, hE⟩ := hB
  have hS : Sat W _ ([(p, .cells #[.slice a n k, .int .i64 (doneOf B)] 164 (0, 0))] :: c :: G :: H :: F) := Sat.perm hS (by simp)
  have hlo := hO.le; have hln := hO.len; have hel := entsOf_len hE; have hw1 := hW.ls; have hw2 := hW.la; have hw3 := hW.n0
  refine callsA 24 Tryz.func94 rfl ?_
  refine seqE <| regionE <| pu2 <| nilO <| thenK_n <| seqE <| regionE <| pu2 ?_
  have hS_1 := ((hS.pick 1 rfl).pick 1 rfl)
  refine cX Tryz.call107 (b_entry hO i hS_1) ?_
  rintro _ w_2 ⟨hS_3, (⟨hn_9, rfl⟩ | ⟨hn_9, x_4, b_5, o_6, rfl, hx_7, hq_8⟩)⟩
  · refine pu1 <| nilO <| thenK_n <| seqE <| seqE <| regionE <| pu2 <| nilO <| thenK_n <| cTt <| seqE <| regionE <| pu2 <| nilO <| thenK_n <| retE <| thenK_r <| retT [.int .i64 0, .int .i64 16] <| ?_
    have hS_10 := ((((hS_3.pick 3 rfl).pick 3 rfl).pick 3 rfl).pick 3 rfl)
    have hS_11 : Sat W _ (([(p, .cells #[.slice a n k, .int .i64 (doneOf B)] 164 (0, 0))] ++ (c ++ G)) :: H :: F) := Sat.perm hS_10 (by simp)
    have hno : ¬ inB B i := by unfold inB; omega
    have he : startB B i = (B, 0, 16) := by unfold startB; rw [if_neg hno]
    exact ⟨_, by rw [he]; rfl, by rw [he]; exact ⟨_, _, _, es, c, G, rfl, hO, hD, hE⟩, hS_11⟩
  have hp_12 := OwnT.ptr hO hq_8 hx_7
  refine pu1 <| nilO <| thenK_n <| seqE <| seqE <| regionE <| pu2 <| nilO <| thenK_n <| cFf <| skipE <| thenK_n <| seqE <| seqE <| regionE <| pu3 ?_
  refine sLp hS_3 (hp_12.up 1 rfl) 0 (.int .i64 x_4.state) (Tryz.isAgg3 _) ?_
  refine pu1 <| nilO <| thenK_n <| ?_
  refine cN x_4.state 2 (fun hc_13 => ?_) (fun hc_13 => ?_)
  rotate_left
  · refine seqE <| regionE <| pu2 <| nilO <| thenK_n <| retE <| thenK_r <| retT [.int .i64 0, .int .i64 20] <| ?_
    have hen := entAt hE hx_7
    have hin : inB B i := by unfold inB; omega
    have hS_22 := ((((hS_3.pick 3 rfl).pick 3 rfl).pick 3 rfl).pick 3 rfl)
    have hS_23 : Sat W _ (([(p, .cells #[.slice a n k, .int .i64 (doneOf B)] 164 (0, 0))] ++ (c ++ G)) :: H :: F) := Sat.perm hS_22 (by simp)
    have he : startB B i = (B, 0, 20) := by unfold startB; rw [if_pos hin, if_neg (by rw [stAt_nat _ (by omega)]; omega)]
    exact ⟨_, by rw [he]; rfl, by rw [he]; exact ⟨_, _, _, es, c, G, rfl, hO, hD, hE⟩, hS_23⟩
  refine skipE <| thenK_n <| seqE <| regionE <| pu3 ?_
  refine sStF hS_3 hO hq_8 1 i.toNat 0 x_4 (⟨3, x_4.attempt, x_4.pending, x_4.next⟩ : BEnt) hx_7 (.int .i64 3) [.int .i64 3] Tryz.sizeOf3 ?_
  intro w_14 c_16 hO_17 hS_15
  refine nilO <| thenK_n <| seqE <| regionE <| pu3 ?_
  have hx_18 := set_at (y := (⟨3, x_4.attempt, x_4.pending, x_4.next⟩ : BEnt)) hx_7
  have hp_19 := OwnT.ptr hO_17 hq_8 hx_18
  refine sLp hS_15 (hp_19.up 1 rfl) 1 (.int .i64 x_4.attempt) (Tryz.isAgg3 _) ?_
  refine pu2 <| nilO <| thenK_n <| retE <| retT [.int .i64 x_4.attempt, .int .i64 0] <| ?_
  have hen := entAt hE hx_7
  have hin : inB B i := by unfold inB; omega
  have hS_20 := ((((hS_15.pick 3 rfl).pick 3 rfl).pick 3 rfl).pick 3 rfl)
  have hS_21 : Sat W _ (([(p, .cells #[.slice a n k, .int .i64 (doneOf B)] 164 (0, 0))] ++ (c_16 ++ G)) :: H :: F) := Sat.perm hS_20 (by simp)
  have he : startB B i = (⟨B.deps, B.st.set i.toNat 3, B.att⟩, B.att.getD i.toNat 0, 0) := by unfold startB; rw [if_pos hin, if_pos (by rw [stAt_nat _ (by omega)]; omega)]
  have hes := ents_state (x' := (⟨3, x_4.attempt, x_4.pending, x_4.next⟩ : BEnt)) (y := 3) hw1 hw2 hE hx_7 (by omega) (by omega) rfl hen.2.2.1 rfl rfl
  rw [set_self] at hes
  refine ⟨_, by rw [he]; exact congrArg (fun z => Ending.returned (.tuple #[.int .i64 z, .int .i64 0])) hen.2.2.1, by rw [he]; exact ⟨_, _, _, _, c_16, G, by rw [hes.2], hO_17, ok_set hD hx_7 rfl, hes.1⟩, hS_21⟩
theorem b_return {p : Nat} {B : BS} {K : Int} {M : Chunk} (hB : BoardR p B M) (hW : BWf B K) (i : Int) (m : Int) (hK : K ≤ 4611686018427387904) (hS : Sat W w (M :: H :: F)) :
    Calls Tryz.prog 97 #[.pointer (some ⟨p, 0, none⟩), .int .i64 i, .int .i64 m] w fun e w' => ∃ M' : Chunk, e = .returned (.int .i64 (heldC B i m)) ∧ BoardR p (retB B i m) M' ∧ Sat W w' (M' :: H :: F) := by
  obtain ⟨a, n, k, es, c, G, rfl, hO, hD, hE⟩ := hB
  have hS : Sat W _ ([(p, .cells #[.slice a n k, .int .i64 (doneOf B)] 164 (0, 0))] :: c :: G :: H :: F) := Sat.perm hS (by simp)
  have hlo := hO.le; have hln := hO.len; have hel := entsOf_len hE; have hw1 := hW.ls; have hw2 := hW.la; have hw3 := hW.n0
  refine callsA 29 Tryz.func97 rfl ?_
  refine seqE <| regionE <| pu1 <| nilO <| thenK_n <| seqE <| regionE <| pu3 ?_
  have hS_1 := ((hS.pick 1 rfl).pick 1 rfl)
  refine cX Tryz.call108 (b_held hO i m hS_1) ?_
  rintro _ w_2 ⟨hS_3, (⟨hn_9, rfl⟩ | ⟨hn_9, x_4, hx_7, hh_10, rfl⟩ | ⟨hn_9, x_4, b_5, o_6, rfl, hx_7, hq_8, hh_10⟩)⟩
  · refine pu5 <| nilO <| thenK_n <| seqE <| seqE <| regionE <| pu2 <| nilO <| thenK_n <| cTt <| seqE <| regionE <| pu2 <| nilO <| thenK_n <| retE <| thenK_r <| retT [.int .i64 16] <| ?_
    have hS_11 := ((((hS_3.pick 3 rfl).pick 3 rfl).pick 3 rfl).pick 3 rfl)
    have hS_12 : Sat W _ (([(p, .cells #[.slice a n k, .int .i64 (doneOf B)] 164 (0, 0))] ++ (c ++ G)) :: H :: F) := Sat.perm hS_11 (by simp)
    have hno : ¬ inB B i := by unfold inB; omega
    have he : heldC B i m = 16 := by unfold heldC; rw [if_neg hno]
    have hr : retB B i m = B := by unfold retB; rw [he, if_neg (by decide)]
    exact ⟨_, by rw [he]; rfl, by rw [hr]; exact ⟨_, _, _, es, c, G, rfl, hO, hD, hE⟩, hS_12⟩
  · refine pu5 <| nilO <| thenK_n <| seqE <| seqE <| regionE <| pu2 <| nilO <| thenK_n <| cTt <| seqE <| regionE <| pu2 <| nilO <| thenK_n <| retE <| thenK_r <| retT [.int .i64 20] <| ?_
    have hen := entAt hE hx_7
    have hin : inB B i := by unfold inB; omega
    have hS_13 := ((((hS_3.pick 3 rfl).pick 3 rfl).pick 3 rfl).pick 3 rfl)
    have hS_14 : Sat W _ (([(p, .cells #[.slice a n k, .int .i64 (doneOf B)] 164 (0, 0))] ++ (c ++ G)) :: H :: F) := Sat.perm hS_13 (by simp)
    have he : heldC B i m = 20 := by unfold heldC; rw [if_pos hin, if_neg (by rw [stAt_nat _ (by omega)]; omega)]
    have hr : retB B i m = B := by unfold retB; rw [he, if_neg (by decide)]
    exact ⟨_, by rw [he]; rfl, by rw [hr]; exact ⟨_, _, _, es, c, G, rfl, hO, hD, hE⟩, hS_14⟩
  have hp_15 := OwnT.ptr hO hq_8 hx_7
  refine pu5 <| nilO <| thenK_n <| seqE <| seqE <| regionE <| pu2 <| nilO <| thenK_n <| cFf <| skipE <| thenK_n <| seqE <| regionE <| pu3 ?_
  refine sStF hS_3 hO hq_8 1 i.toNat 0 x_4 (⟨2, x_4.attempt, x_4.pending, x_4.next⟩ : BEnt) hx_7 (.int .i64 2) [.int .i64 2] Tryz.sizeOf3 ?_
  intro w_16 c_18 hO_19 hS_17
  refine nilO <| thenK_n <| seqE ?_
  have hen0 := entAt hE hx_7; have hab := hW.att _ (getD_mem (q := i.toNat) (s := B.att) (by omega))
  refine regionE <| pu3 ?_
  have hx_20 := set_at (y := (⟨2, x_4.attempt, x_4.pending, x_4.next⟩ : BEnt)) hx_7
  have hp_21 := OwnT.ptr hO_19 hq_8 hx_20
  refine sLp hS_17 (hp_21.up 1 rfl) 1 (.int .i64 x_4.attempt) (Tryz.isAgg3 _) ?_
  refine sAdd x_4.attempt 1 ?_
  refine pu2 ?_
  refine sStF hS_17 hO_19 hq_8 1 i.toNat 1 (⟨2, x_4.attempt, x_4.pending, x_4.next⟩ : BEnt) (⟨2, (x_4.attempt + 1), x_4.pending, x_4.next⟩ : BEnt) hx_20 (.int .i64 (x_4.attempt + 1)) [.int .i64 (x_4.attempt + 1)] Tryz.sizeOf3 ?_
  intro w_22 c_24 hO_25 hS_23
  rw [List.set_set] at hO_25
  refine nilO <| thenK_n <| seqE <| regionE <| pu1 <| nilO <| thenK_n <| retE <| retT [.int .i64 0] <| ?_
  have hen := entAt hE hx_7
  have hin : inB B i := by unfold inB; omega
  have hS_26 := ((((hS_23.pick 3 rfl).pick 3 rfl).pick 3 rfl).pick 3 rfl)
  have hS_27 : Sat W _ (([(p, .cells #[.slice a n k, .int .i64 (doneOf B)] 164 (0, 0))] ++ (c_24 ++ G)) :: H :: F) := Sat.perm hS_26 (by simp)
  have he : heldC B i m = 0 := by unfold heldC; rw [if_pos hin, if_pos (by rw [stAt_nat _ (by omega)]; omega)]
  have hr : retB B i m = ⟨B.deps, B.st.set i.toNat 2, B.att.set i.toNat (m + 1)⟩ := by unfold retB; rw [if_pos he]
  have hes := ents_state (x' := (⟨2, (x_4.attempt + 1), x_4.pending, x_4.next⟩ : BEnt)) (y := 2) (z := m + 1) hw1 hw2 hE hx_7 (by omega) (by omega) rfl (by dsimp only; omega) rfl rfl
  exact ⟨_, by rw [he]; rfl, by rw [hr]; exact ⟨_, _, _, _, c_24, G, by rw [hes.2], hO_25, ok_set hD hx_7 rfl, hes.1⟩, hS_27⟩
theorem st_out {s : List Int} {i : Int} (h : ¬ (0 ≤ i ∧ i < ((s.length : Nat) : Int))) : stAt s i = 0 := by
  unfold stAt
  split
  · rw [List.getD_eq_getElem?_getD, List.getElem?_eq_none (by omega)]; rfl
  · rfl
theorem b_done {p : Nat} {B : BS} {K : Int} {M : Chunk} (hB : BoardR p B M) (hW : BWf B K)  (hS : Sat W w (M :: H :: F)) :
    Calls Tryz.prog 112 #[.pointer (some ⟨p, 0, none⟩)] w fun e w' => e = .returned (.int .i64 (doneOf B)) ∧ Sat W w' (M :: H :: F) := by
  obtain ⟨a, n, k, es, c, G, rfl, hO, hD, hE⟩ := hB
  have hS : Sat W _ ([(p, .cells #[.slice a n k, .int .i64 (doneOf B)] 164 (0, 0))] :: c :: G :: H :: F) := Sat.perm hS (by simp)
  have hlo := hO.le; have hln := hO.len; have hel := entsOf_len hE; have hw1 := hW.ls; have hw2 := hW.la; have hw3 := hW.n0
  refine callsA 9 Tryz.func112 rfl ?_
  refine seqE <| regionE <| pu1 <| nilO <| thenK_n <| seqE <| seqE <| regionE <| pu2 <| nilO <| thenK_n <| cFf <| skipE <| thenK_n <| seqE <| regionE <| pu3 ?_
  refine sL hS 0 1 (.int .i64 (doneOf B)) (Tryz.isAgg3 _) ?_
  refine pu1 <| nilO <| thenK_n <| retE <| retT [.int .i64 (doneOf B)] <| ?_
  have hS_1 := ((((hS.pick 3 rfl).pick 3 rfl).pick 3 rfl).pick 3 rfl)
  have hS_2 : Sat W _ (([(p, .cells #[.slice a n k, .int .i64 (doneOf B)] 164 (0, 0))] ++ (c ++ G)) :: H :: F) := Sat.perm hS_1 (by simp)
  exact ⟨rfl, hS_2⟩
theorem b_total {p : Nat} {B : BS} {K : Int} {M : Chunk} (hB : BoardR p B M) (hW : BWf B K)  (hS : Sat W w (M :: H :: F)) :
    Calls Tryz.prog 113 #[.pointer (some ⟨p, 0, none⟩)] w fun e w' => e = .returned (.int .i64 ((B.deps.length : Nat) : Int)) ∧ Sat W w' (M :: H :: F) := by
  obtain ⟨a, n, k, es, c, G, rfl, hO, hD, hE⟩ := hB
  have hS : Sat W _ ([(p, .cells #[.slice a n k, .int .i64 (doneOf B)] 164 (0, 0))] :: c :: G :: H :: F) := Sat.perm hS (by simp)
  have hlo := hO.le; have hln := hO.len; have hel := entsOf_len hE; have hw1 := hW.ls; have hw2 := hW.la; have hw3 := hW.n0
  refine callsA 10 Tryz.func113 rfl ?_
  refine seqE <| regionE <| pu1 <| nilO <| thenK_n <| seqE <| seqE <| regionE <| pu2 <| nilO <| thenK_n <| cFf <| skipE <| thenK_n <| seqE <| regionE <| pu3 ?_
  refine sL hS 0 0 (.slice a n k) (Tryz.isAgg162 _) ?_
  refine pu2 <| nilO <| thenK_n <| retE <| retT [.int .i64 ((n : Nat) : Int)] <| ?_
  have hS_1 := ((((hS.pick 3 rfl).pick 3 rfl).pick 3 rfl).pick 3 rfl)
  have hS_2 : Sat W _ (([(p, .cells #[.slice a n k, .int .i64 (doneOf B)] 164 (0, 0))] ++ (c ++ G)) :: H :: F) := Sat.perm hS_1 (by simp)
  exact ⟨by rw [show B.deps.length = n by omega]; rfl, hS_2⟩
theorem b_start_nil {cs : List Chunk} (i : Int) (hS : Sat W w cs) :
    Ro Tryz.prog 94 #[.pointer none, .int .i64 i] (.tuple #[.int .i64 0, .int .i64 16]) W w cs := by
  refine callsA 24 Tryz.func94 rfl ?_
  refine seqE <| regionE <| pu2 <| nilO <| thenK_n <| seqE <| regionE <| pu2 ?_
  refine cX Tryz.call107 (b_entry_nil i hS) ?_
  rintro _ w_1 ⟨rfl, hS_2⟩
  refine pu1 <| nilO <| thenK_n <| seqE <| seqE <| regionE <| pu2 <| nilO <| thenK_n <| cTt <| seqE <| regionE <| pu2 <| nilO <| thenK_n <| retE <| thenK_r <| retT [.int .i64 0, .int .i64 16] <| ?_
  exact ⟨rfl, hS_2⟩
theorem b_return_nil {cs : List Chunk} (i : Int) (m : Int) (hS : Sat W w cs) :
    Ro Tryz.prog 97 #[.pointer none, .int .i64 i, .int .i64 m] (.int .i64 16) W w cs := by
  refine callsA 29 Tryz.func97 rfl ?_
  refine seqE <| regionE <| pu1 <| nilO <| thenK_n <| seqE <| regionE <| pu3 ?_
  refine cX Tryz.call108 (b_held_nil i m hS) ?_
  rintro _ w_1 ⟨rfl, hS_2⟩
  refine pu5 <| nilO <| thenK_n <| seqE <| seqE <| regionE <| pu2 <| nilO <| thenK_n <| cTt <| seqE <| regionE <| pu2 <| nilO <| thenK_n <| retE <| thenK_r <| retT [.int .i64 16] <| ?_
  exact ⟨rfl, hS_2⟩
theorem b_done_nil {cs : List Chunk}  (hS : Sat W w cs) :
    Ro Tryz.prog 112 #[.pointer none] (.int .i64 0) W w cs := by
  refine callsA 9 Tryz.func112 rfl ?_
  refine seqE <| regionE <| pu1 <| nilO <| thenK_n <| seqE <| seqE <| regionE <| pu2 <| nilO <| thenK_n <| cTt <| seqE <| regionE <| pu1 <| nilO <| thenK_n <| retE <| thenK_r <| retT [.int .i64 0] <| ?_
  exact ⟨rfl, hS⟩
theorem b_total_nil {cs : List Chunk}  (hS : Sat W w cs) :
    Ro Tryz.prog 113 #[.pointer none] (.int .i64 0) W w cs := by
  refine callsA 10 Tryz.func113 rfl ?_
  refine seqE <| regionE <| pu1 <| nilO <| thenK_n <| seqE <| seqE <| regionE <| pu2 <| nilO <| thenK_n <| cTt <| seqE <| regionE <| pu1 <| nilO <| thenK_n <| retE <| thenK_r <| retT [.int .i64 0] <| ?_
  exact ⟨rfl, hS⟩
end Go.Proofs.YtimkhljglpookaaGreat
