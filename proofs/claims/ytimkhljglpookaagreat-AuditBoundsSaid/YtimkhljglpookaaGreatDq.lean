import Derived.Test.YtimkhljglpookaaGreatAr
namespace Go.Proofs.YtimkhljglpookaaGreat
open Go Go.E
set_option linter.unusedVariables false
set_option linter.unusedSimpArgs false
set_option linter.unnecessarySimpa false
set_option maxRecDepth 100000
set_option maxHeartbeats 2000000
variable {W w : World} {H : Chunk} {F : List Chunk}

structure DS where
  cap : Int
  l : List Ref
def pushC (S : DS) : Int := if S.cap ≤ ((S.l.length : Nat) : Int) then 19 else 0
def pushD (S : DS) (r : Ref) : DS := if pushC S = 0 then { S with l := S.l ++ [r] } else S
def without (j : Int) (l : List Ref) : List Ref := l.filter (fun r => decide (r.job ≠ j))
structure DS.Wf (S : DS) : Prop where
  c : 1 ≤ S.cap ∧ S.cap ≤ 256
  n : ((S.l.length : Nat) : Int) ≤ S.cap
theorem without_len (j : Int) (l : List Ref) : (without j l).length ≤ l.length := List.length_filter_le _ l
theorem without_y {j : Int} {l : List Ref} {i : Nat} {x : Ref} {zs : List Ref} (hz : zs = without j (l.take i)) (hx : l[i]? = some x) (h : x.job ≠ j) : zs ++ [x] = without j (l.take (i + 1)) := by
  rw [take_succ_at hx]; unfold without at *; rw [List.filter_append, ← hz]; simp [h]
theorem without_n {j : Int} {l : List Ref} {i : Nat} {x : Ref} {zs : List Ref} (hz : zs = without j (l.take i)) (hx : l[i]? = some x) (h : x.job = j) : zs = without j (l.take (i + 1)) := by
  rw [take_succ_at hx]; unfold without at *; rw [List.filter_append, ← hz]; simp [h]

def DqR (p : Nat) (S : DS) (M : Chunk) : Prop := ∃ (a : Option Addr) (n k : Nat) (c : Chunk), M = [(p, .cells #[.int .i64 S.cap, .slice a n k] 130 (0, 0))] ++ c ∧ OwnT encRef 40 2 a n k S.l c ∧ S.Wf
theorem r23_without (al : Option Addr) (nl kl : Nat) (l : List Ref) (j : Int) (hl : RdT encRef 2 [H] al nl kl l) (hlb : l.length ≤ 4096) (hS : Sat W w (H :: F)) :
    Calls Tryz.prog 67 #[.slice al nl kl, .int .i64 j] w fun e w' => ∃ (az : Option Addr) (nz kz : Nat) (G : Chunk), e = .returned (.slice az nz kz) ∧ OwnT encRef 40 2 az nz kz (without j l) G ∧ Sat W w' (G :: H :: F) := by
  have hl_l := hl.le; have hn_l := hl.len
  refine callsA 28 Tryz.func67 rfl ?_
  refine seqE <| regionE <| pu1 <| nilO <| thenK_n <| seqE <| regionE <| pu1 <| nilO <| thenK_n <| seqE <| seqE <| regionE <| pu1 <| nilO <| thenK_n <| blockE ?_
  have hS_1 := Sat.nilc hS
  have hO_2 := OwnT.nil (enc := encRef) (E := 40) (sz := 2) (fun _ => rfl)
  refine loopA (γ := Nat × (List Ref) × (Option Addr) × Nat × Nat × Chunk) (fun ⟨i, zs, azs, nzs, kzs, czs⟩ => [(0, .slice al nl kl), (1, .int .i64 j), (6, .int .i64 ((i : Nat) : Int)), (5, .slice azs nzs kzs)]) (fun ⟨i, zs, azs, nzs, kzs, czs⟩ w => Sat W w (czs :: H :: F) ∧ i ≤ nl ∧ (zs = without j (l.take i)) ∧ (zs.length ≤ i) ∧ OwnT encRef 40 2 azs nzs kzs zs czs) (fun ⟨i, zs, azs, nzs, kzs, czs⟩ => nl - i) (0, [], none, 0, 0, []) ⟨hS_1, by omega, rfl, by simp, hO_2⟩ ?_
  rintro ⟨i, zs, azs, nzs, kzs, czs⟩ ρ w_3 ⟨hS_4, hi, hz, hzl, hOzs⟩
  have hn_zs := hOzs.len; have hl_zs := hOzs.le
  refine seqE <| seqE <| regionE <| pu4 <| nilO <| thenK_n <| ?_
  refine cD (((i : Nat) : Int) < ((nl : Nat) : Int)) (fun hc_5 => ?_) (fun hc_5 => ?_)
  rotate_left
  · refine exitE <| thenK_x <| thenK_x <| blockK_x <| thenK_n <| seqE <| regionE <| pu2 <| nilO <| thenK_n <| retE <| retT [.slice azs nzs kzs] <| ?_
    have hS_28 := ((hS_4.pick 1 rfl).pick 1 rfl)
    have hl : zs = without j l := by rw [hz, List.take_of_length_le (by omega)]
    have hrd := hOzs
    rw [hl] at hrd
    exact ⟨_, _, _, _, rfl, hrd, hS_28⟩
  refine skipE <| thenK_n <| seqE <| blockE <| seqE <| regionE <| pu2 ?_
  refine sIdx hl ((i : Nat) : Int) Tryz.runUnderlying104 Tryz.sizeOf40 ?_
  intro x_6 b_7 o_8 hx_9 hp_10
  rw [Int.toNat_natCast] at hx_9
  refine pu1 ?_
  refine sLp hS_4 (hp_10.up 1 rfl) 0 (.int .i64 x_6.job) (Tryz.isAgg3 _) ?_
  refine pu2 <| nilO <| thenK_n <| ?_
  refine cN x_6.job j (fun hc_11 => ?_) (fun hc_11 => ?_)
  · refine skipE <| blockK_n <| thenK_n <| regionE <| pu1 ?_
    refine sAdd ((i : Nat) : Int) 1 ?_
    refine pu1 <| nilO <| thenK_n <| ?_
    have hS_12 := ((hS_4.pick 1 rfl).pick 1 rfl)
    exact ⟨(i + 1, zs, azs, nzs, kzs, czs), by first | omega | (dsimp only; omega), alA, hS_12, by omega, (without_n hz hx_9 (by omega)), (by first | omega | (simp; omega)), hOzs⟩
  refine regionE <| pu3 ?_
  refine sIdx hl ((i : Nat) : Int) Tryz.runUnderlying104 Tryz.sizeOf40 ?_
  intro x_13 b_14 o_15 hx_16 hp_17
  rw [Int.toNat_natCast] at hx_16
  obtain rfl : x_6 = x_13 := Option.some.inj (hx_9.symm.trans hx_16)
  refine sLpA hS_4 (hp_17.up 1 rfl) 0 [.int .i64 x_6.job, .int .i64 x_6.task] (Tryz.isAgg40 _) (Tryz.sizeOf40 _) ?_
  refine sBS hS_4 #[.int .i64 x_6.job, .int .i64 x_6.task] Tryz.runUnderlying104 Tryz.sizeOf40 Tryz.zeroValue40 ?_
  intro b_18 w_19 hS_20
  refine sApp (nb := 16) hS_20 hOzs 1 (RdT.blk (enc := encRef) (sz := 2) (xs := [(⟨x_6.job, x_6.task⟩ : Ref)]) (fun _ => rfl) 1 0 rfl rfl rfl (by omega)) Tryz.underlying104 (i := Tryz.t40) (by kernel_rfl) (fun _ => rfl) ?_
  intro a_21 cap_22 c_23 w_24 hO_25 hS_26
  refine pu1 <| nilO <| blockK_n <| thenK_n <| regionE <| pu1 ?_
  refine sAdd ((i : Nat) : Int) 1 ?_
  refine pu1 <| nilO <| thenK_n <| ?_
  have hS_27 := (((hS_26.pick 2 rfl).pick 2 rfl).dropAt 2 rfl)
  exact ⟨(i + 1, (zs ++ [(⟨x_6.job, x_6.task⟩ : Ref)]), a_21, (nzs + 1), cap_22, c_23), by first | omega | (dsimp only; omega), alA, hS_27, by omega, (without_y hz hx_9 (by omega)), (by first | omega | (simp; omega)), hO_25⟩
theorem dq_len {p : Nat} {S : DS} {M : Chunk} (hR : DqR p S M)  (hS : Sat W w (M :: H :: F)) :
    Calls Tryz.prog 101 #[.pointer (some ⟨p, 0, none⟩)] w fun e w' => e = .returned (.int .i64 ((S.l.length : Nat) : Int)) ∧ Sat W w' (M :: H :: F) := by
  obtain ⟨a, n, k, c, rfl, hO, hW⟩ := hR
  have hS : Sat W _ ([(p, .cells #[.int .i64 S.cap, .slice a n k] 130 (0, 0))] :: c :: H :: F) := Sat.perm hS (by simp)
  have hn := hO.len; have hl := hO.le; have hw1 := hW.c; have hw2 := hW.n
  refine callsA 10 Tryz.func101 rfl ?_
  refine seqE <| regionE <| pu1 <| nilO <| thenK_n <| seqE <| seqE <| regionE <| pu2 <| nilO <| thenK_n <| cFf <| skipE <| thenK_n <| seqE <| regionE <| pu3 ?_
  refine sL hS 0 1 (.slice a n k) (Tryz.isAgg104 _) ?_
  refine pu2 <| nilO <| thenK_n <| retE <| retT [.int .i64 ((n : Nat) : Int)] <| ?_
  have hS_1 := (((hS.pick 2 rfl).pick 2 rfl).pick 2 rfl)
  have hS_2 : Sat W _ (([(p, .cells #[.int .i64 S.cap, .slice a n k] 130 (0, 0))] ++ c) :: H :: F) := Sat.perm (show Sat W _ ([(p, .cells #[.int .i64 S.cap, .slice a n k] 130 (0, 0))] :: c :: H :: F) from hS_1) (by simp)
  exact ⟨by rw [hn]; rfl, hS_2⟩
theorem dq_push {p : Nat} {S : DS} {M : Chunk} (hR : DqR p S M) (r : Ref) (hS : Sat W w (M :: H :: F)) :
    Calls Tryz.prog 75 #[.pointer (some ⟨p, 0, none⟩), .agg #[.int .i64 r.job, .int .i64 r.task]] w fun e w' => ∃ M' : Chunk, e = .returned (.int .i64 (pushC S)) ∧ DqR p (pushD S r) M' ∧ Sat W w' (M' :: H :: F) := by
  obtain ⟨a, n, k, c, rfl, hO, hW⟩ := hR
  have hS : Sat W _ ([(p, .cells #[.int .i64 S.cap, .slice a n k] 130 (0, 0))] :: c :: H :: F) := Sat.perm hS (by simp)
  have hn := hO.len; have hl := hO.le; have hw1 := hW.c; have hw2 := hW.n
  refine callsA 34 Tryz.func75 rfl ?_
  refine seqE <| regionE ?_
  refine sBox hS (.agg #[.int .i64 r.job, .int .i64 r.task]) #[.int .i64 r.job, .int .i64 r.task] ?_
  intro b_1 w_2 hS_3
  refine pu1 <| nilO <| thenK_n <| seqE <| seqE <| regionE <| pu6 <| gY ?_
  refine sL hS_3 1 0 (.int .i64 S.cap) (Tryz.isAgg3 _) ?_
  refine pu2 <| nilO <| thenK_n <| ?_
  refine cE S.cap 0 (fun hc_4 => ?_) (fun hc_4 => ?_)
  · refine seqE <| regionE <| pu1 <| nilO <| thenK_n <| retE <| thenK_r <| retT [.int .i64 20] <| ?_
    omega
  refine skipE <| thenK_n <| seqE <| seqE ?_
  refine drawE [] [(3, ⟨p, 1, none⟩, .slice a n k), (8, ⟨p, 0, none⟩, .int .i64 S.cap)] [(true, [0, 1, 2, 5, 6, 7]), (true, [3]), (true, [4]), (true, [8]), (true, [9])] rfl (by kernel_rfl) ⟨.inr (hS_3.cell 1 rfl rfl), .inr (hS_3.cell 1 rfl rfl), trivial⟩ ?_
  have hS_5 := hS_3.drew
  refine wU [0, 1, 2, 5, 6, 7] ?_
  refine wLd (.slice a n k) 0 Tryz.isAgg104 ?_
  refine wU [4] ?_
  refine wLd (.int .i64 S.cap) 1 Tryz.isAgg3 ?_
  refine wU [9] ?_
  refine wN ?_
  refine thenK_n <| ?_
  refine cD (((n : Nat) : Int) ≥ S.cap) (fun hc_6 => ?_) (fun hc_6 => ?_)
  · refine seqE <| regionE <| pu1 <| nilO <| thenK_n <| retE <| thenK_r <| retT [.int .i64 19] <| ?_
    have hc : pushC S = 19 := by unfold pushC; rw [if_pos (by omega)]
    have hS_7 := ((((hS_5.pick 3 rfl).pick 3 rfl).pick 3 rfl).dropAt 3 rfl)
    have hS_8 : Sat W _ (([(p, .cells #[.int .i64 S.cap, .slice a n k] 130 (0, 0))] ++ c) :: H :: F) := Sat.perm (show Sat W _ ([(p, .cells #[.int .i64 S.cap, .slice a n k] 130 (0, 0))] :: c :: H :: F) from hS_7) (by simp)
    have he : pushD S r = S := by unfold pushD; rw [hc, if_neg (by decide)]
    exact ⟨_, by rw [hc]; rfl, by rw [he]; exact ⟨_, _, _, _, rfl, hO, hW⟩, hS_8⟩
  refine skipE <| thenK_n <| seqE ?_
  refine drawE [6, 7, 10] [(4, ⟨p, 1, none⟩, .slice a n k), (5, ⟨b_1, 0, none⟩, .int .i64 r.job), (5, ⟨b_1, 1, none⟩, .int .i64 r.task)] [(true, [0, 1, 2, 3]), (true, [4]), (true, [5]), (false, [6]), (false, [7]), (true, [8, 9]), (false, [10])] rfl (by kernel_rfl) ⟨.inr (hS_5.cell 1 rfl rfl), .inr (hS_5.cell 0 rfl rfl), .inr (hS_5.cell 0 rfl rfl), trivial⟩ ?_
  have hS_9 := hS_5.drew
  refine wU [0, 1, 2, 3] ?_
  refine wLd (.slice a n k) 0 Tryz.isAgg104 ?_
  refine wY (.agg #[.int .i64 r.job, .int .i64 r.task]) rfl (fun w hF => Y_loadF rfl (Tryz.isAgg40 w) (Tryz.sizeOf40 w) (by kernel_rfl) rfl ⟨hF 1 _ _ rfl, hF 2 _ _ rfl, trivial⟩) ?_
  refine wO rfl ?_
  refine sBS hS_9 #[.int .i64 r.job, .int .i64 r.task] Tryz.runUnderlying104 Tryz.sizeOf40 Tryz.zeroValue40 ?_
  intro b_10 w_11 hS_12
  refine nilO ⟨⟨.inr (hS_12.cell 2 rfl rfl), .inl (by kernel_rfl), .inl (by kernel_rfl), trivial⟩, ?_⟩
  refine wO rfl ?_
  refine sApp (nb := 16) hS_12 hO 3 (RdT.blk (enc := encRef) (sz := 2) (xs := [(⟨r.job, r.task⟩ : Ref)]) (fun _ => rfl) 1 0 rfl rfl rfl (by omega)) Tryz.underlying104 (i := Tryz.t40) (by kernel_rfl) (fun _ => rfl) ?_
  intro a_13 cap_14 c_15 w_16 hO_17 hS_18
  refine nilO ⟨⟨.inl (by kernel_rfl), .inl (by kernel_rfl), .inl (by kernel_rfl), trivial⟩, ?_⟩
  refine wU [8, 9] ?_
  refine wO rfl ?_
  refine sT hS_18 2 1 (.slice a_13 (n + 1) cap_14) [.slice a_13 (n + 1) cap_14] #[.int .i64 S.cap, .slice a_13 (n + 1) cap_14] Tryz.sizeOf104 ?_
  intro w_19 hS_20
  refine nilO ⟨⟨.inl (by kernel_rfl), .inl (by kernel_rfl), .inl (by kernel_rfl), trivial⟩, ?_⟩
  refine wN ?_
  refine thenK_n <| seqE <| regionE <| pu1 <| nilO <| thenK_n <| retE <| retT [.int .i64 0] <| ?_
  have hc : pushC S = 0 := by unfold pushC; rw [if_neg (by omega)]
  have hS_21 := (((((hS_20.pick 4 rfl).pick 4 rfl).pick 4 rfl).dropAt 3 rfl).dropAt 3 rfl)
  have hS_22 : Sat W _ (([(p, .cells #[.int .i64 S.cap, .slice a_13 (n + 1) cap_14] 130 (0, 0))] ++ c_15) :: H :: F) := Sat.perm (show Sat W _ ([(p, .cells #[.int .i64 S.cap, .slice a_13 (n + 1) cap_14] 130 (0, 0))] :: c_15 :: H :: F) from hS_21) (by simp)
  have he : pushD S r = { S with l := S.l ++ [r] } := by unfold pushD; rw [if_pos hc]
  exact ⟨_, by rw [hc]; rfl, by rw [he]; exact ⟨_, _, _, _, rfl, hO_17, ⟨hW.c, by simp only [List.length_append, List.length_singleton]; omega⟩⟩, hS_22⟩
theorem dq_pop {p : Nat} {S : DS} {M : Chunk} (hR : DqR p S M)  (hS : Sat W w (M :: H :: F)) :
    Calls Tryz.prog 77 #[.pointer (some ⟨p, 0, none⟩)] w fun e w' => (S.l = [] ∧ e = .returned (.tuple #[.agg #[.int .i64 0, .int .i64 0], .bool false]) ∧ Sat W w' (M :: H :: F)) ∨ (∃ (x : Ref) (M' : Chunk), S.l.getLast? = some x ∧ e = .returned (.tuple #[.agg #[.int .i64 x.job, .int .i64 x.task], .bool true]) ∧ DqR p { S with l := S.l.dropLast } M' ∧ Sat W w' (M' :: H :: F)) := by
  obtain ⟨a, n, k, c, rfl, hO, hW⟩ := hR
  have hS : Sat W _ ([(p, .cells #[.int .i64 S.cap, .slice a n k] 130 (0, 0))] :: c :: H :: F) := Sat.perm hS (by simp)
  have hn := hO.len; have hl := hO.le; have hw1 := hW.c; have hw2 := hW.n
  refine callsA 36 Tryz.func77 rfl ?_
  refine seqE <| regionE ?_
  refine sAlloc hS Tryz.zeroValue40 ?_
  intro b_1 w_2 hS_3
  refine pu1 <| nilO <| thenK_n <| seqE <| seqE <| regionE <| pu1 ?_
  have hS_4 := ((((hS_3.pick 3 rfl).pick 1 rfl).pick 3 rfl).pick 3 rfl)
  have hS_5 : Sat W _ (([(p, .cells #[.int .i64 S.cap, .slice a n k] 130 (0, 0))] ++ c) :: [(b_1, .cells #[.int .i64 0, .int .i64 0] 40 (0, 0))] :: H :: F) := Sat.perm (show Sat W _ ([(p, .cells #[.int .i64 S.cap, .slice a n k] 130 (0, 0))] :: c :: [(b_1, .cells #[.int .i64 0, .int .i64 0] 40 (0, 0))] :: H :: F) from hS_4) (by simp)
  refine cX Tryz.call101 (dq_len ⟨_, _, _, _, rfl, hO, hW⟩ (Sat.flat1 hS_5)) ?_
  rintro _ w_6 ⟨rfl, hS_7⟩
  have hS_8 : Sat W _ ([(p, .cells #[.int .i64 S.cap, .slice a n k] 130 (0, 0))] :: c :: [(b_1, .cells #[.int .i64 0, .int .i64 0] 40 (0, 0))] :: H :: F) := Sat.perm (Sat.unflat1 hS_7) (by simp)
  refine pu1 <| nilO <| thenK_n <| ?_
  refine cE ((S.l.length : Nat) : Int) 0 (fun hc_9 => ?_) (fun hc_9 => ?_)
  · refine seqE <| regionE <| pu1 ?_
    refine sT hS_8 2 0 (.agg #[.int .i64 0, .int .i64 0]) [.int .i64 0, .int .i64 0] #[.int .i64 0, .int .i64 0] Tryz.sizeOf40 ?_
    intro w_10 hS_11
    refine pu1 <| nilO <| thenK_n <| retE <| thenK_r <| retN (vs := [.agg #[.int .i64 0, .int .i64 0], .bool false]) rfl (.cons (.cell _ _ _ _ (by kernel_rfl) (lvA hS_11 2 0 [.int .i64 0, .int .i64 0] (Tryz.isAgg40 _) (Tryz.sizeOf40 _) rfl rfl rfl)) (.cons (.tmp _ _ (by kernel_rfl)) .nil)) <| ?_
    have hS_12 := ((((hS_11.pick 3 rfl).pick 2 rfl).pick 2 rfl).dropAt 3 rfl)
    have hS_13 : Sat W _ (([(p, .cells #[.int .i64 S.cap, .slice a n k] 130 (0, 0))] ++ c) :: H :: F) := Sat.perm (show Sat W _ ([(p, .cells #[.int .i64 S.cap, .slice a n k] 130 (0, 0))] :: c :: H :: F) from hS_12) (by simp)
    exact .inl ⟨List.length_eq_zero_iff.1 (by omega), rfl, hS_13⟩
  refine skipE <| thenK_n <| seqE ?_
  obtain ⟨x_14, b_15, o_16, hx_17, hp_18, hq_19, ha_20⟩ := OwnT.elem hO (((n : Nat) : Int) - 1)
  refine drawE [12, 13] [(3, ⟨p, 1, none⟩, .slice a n k), (7, ⟨p, 1, none⟩, .slice a n k), (11, ⟨b_15, o_16 + ((((n : Nat) : Int) - 1)).toNat * 2 + 0, none⟩, .int .i64 x_14.job), (11, ⟨b_15, o_16 + ((((n : Nat) : Int) - 1)).toNat * 2 + 1, none⟩, .int .i64 x_14.task)] [(true, [0, 1, 2, 4, 5, 6]), (true, [3]), (true, [7]), (true, [8]), (true, [9]), (true, [10]), (true, [11]), (false, [12]), (false, [13])] rfl (by kernel_rfl) ⟨.inr (hS_8.cell 0 rfl rfl), .inr (hS_8.cell 0 rfl rfl), .inr ((hp_18.up 1 rfl).cell hS_8 (k := 0) rfl), .inr ((hp_18.up 1 rfl).cell hS_8 (k := 1) rfl), trivial⟩ ?_
  have hS_21 := hS_8.drew
  refine wU [0, 1, 2, 4, 5, 6] ?_
  refine wLd (.slice a n k) 0 Tryz.isAgg104 ?_
  refine wLd (.slice a n k) 1 Tryz.isAgg104 ?_
  refine wU [8] ?_
  refine wSub ((n : Nat) : Int) 1 ?_
  refine wY (.pointer (some ⟨b_15, o_16 + ((((n : Nat) : Int) - 1)).toNat * 2, none⟩)) rfl (fun w _ => Y_idx (a := a) (i := (((n : Nat) : Int) - 1)) (len := n) (cap := k) rfl Tryz.runUnderlying104 Tryz.sizeOf40 (by kernel_rfl) (by kernel_rfl) hq_19) ?_
  refine wY (.agg #[.int .i64 x_14.job, .int .i64 x_14.task]) rfl (fun w hF => Y_loadF rfl (Tryz.isAgg40 w) (Tryz.sizeOf40 w) (by kernel_rfl) rfl ⟨hF 2 _ _ rfl, hF 3 _ _ rfl, trivial⟩) ?_
  refine wO rfl ?_
  refine sAlloc hS_21 Tryz.zeroValue40 ?_
  intro b_22 w_23 hS_24
  refine nilO ⟨⟨.inr (hS_24.cell 1 rfl rfl), .inr (hS_24.cell 1 rfl rfl), .inr ((hp_18.up 2 rfl).cell hS_24 (k := 0) rfl), .inr ((hp_18.up 2 rfl).cell hS_24 (k := 1) rfl), trivial⟩, ?_⟩
  refine wO rfl ?_
  refine sT hS_24 0 0 (.agg #[.int .i64 x_14.job, .int .i64 x_14.task]) [.int .i64 x_14.job, .int .i64 x_14.task] #[.int .i64 x_14.job, .int .i64 x_14.task] Tryz.sizeOf40 ?_
  intro w_25 hS_26
  refine nilO ⟨⟨.inl (by kernel_rfl), .inl (by kernel_rfl), .inl (by kernel_rfl), .inl (by kernel_rfl), trivial⟩, ?_⟩
  refine wN ?_
  refine thenK_n <| seqE ?_
  refine drawE [14] [(4, ⟨p, 1, none⟩, .slice a n k), (8, ⟨p, 1, none⟩, .slice a n k)] [(true, [0, 1, 2, 3, 5, 6, 7]), (true, [4]), (true, [8]), (true, [9]), (true, [10]), (true, [11]), (true, [12, 13]), (false, [14])] rfl (by kernel_rfl) ⟨.inr (hS_26.cell 1 rfl rfl), .inr (hS_26.cell 1 rfl rfl), trivial⟩ ?_
  have hS_27 := hS_26.drew
  refine wU [0, 1, 2, 3, 5, 6, 7] ?_
  refine wLd (.slice a n k) 0 Tryz.isAgg104 ?_
  refine wLd (.slice a n k) 1 Tryz.isAgg104 ?_
  refine wU [9] ?_
  refine wSub ((n : Nat) : Int) 1 ?_
  have hP_28 := hO.part (lo := 0) (hi := ((((n : Nat) : Int) - 1)).toNat) (by omega) (by omega)
  refine wY (.slice (partAddr a k 0 2) (((((n : Nat) : Int) - 1)).toNat - 0) (k - 0)) rfl (fun w _ => Y_sl (a := a) (len := n) (cap := k) none (some (((n : Nat) : Int) - 1)) 0 (((((n : Nat) : Int) - 1)).toNat) Tryz.runUnderlying104 Tryz.sizeOf40 rfl ⟨by omega, by omega⟩ (by omega) (by omega)) ?_
  refine wU [12, 13] ?_
  refine wO rfl ?_
  refine sT hS_27 1 1 (.slice (partAddr a k 0 2) (((((n : Nat) : Int) - 1)).toNat - 0) (k - 0)) [.slice (partAddr a k 0 2) (((((n : Nat) : Int) - 1)).toNat - 0) (k - 0)] #[.int .i64 S.cap, .slice (partAddr a k 0 2) (((((n : Nat) : Int) - 1)).toNat - 0) (k - 0)] Tryz.sizeOf104 ?_
  intro w_29 hS_30
  refine nilO ⟨⟨.inl (by kernel_rfl), .inl (by kernel_rfl), trivial⟩, ?_⟩
  refine wN ?_
  refine thenK_n <| seqE <| regionE ?_
  refine lA hS_30 0 0 2 (Tryz.isAgg40 _) (Tryz.sizeOf40 _) ?_
  refine sT hS_30 3 0 (.agg #[.int .i64 x_14.job, .int .i64 x_14.task]) [.int .i64 x_14.job, .int .i64 x_14.task] #[.int .i64 x_14.job, .int .i64 x_14.task] Tryz.sizeOf40 ?_
  intro w_31 hS_32
  refine pu1 <| nilO <| thenK_n <| retE <| retN (vs := [.agg #[.int .i64 x_14.job, .int .i64 x_14.task], .bool true]) rfl (.cons (.cell _ _ _ _ (by kernel_rfl) (lvA hS_32 3 0 [.int .i64 x_14.job, .int .i64 x_14.task] (Tryz.isAgg40 _) (Tryz.sizeOf40 _) rfl rfl rfl)) (.cons (.tmp _ _ (by kernel_rfl)) .nil)) <| ?_
  have hS_33 := (((((hS_32.pick 4 rfl).pick 3 rfl).pick 3 rfl).dropAt 3 rfl).dropAt 3 rfl)
  have hS_34 : Sat W _ (([(p, .cells #[.int .i64 S.cap, .slice (partAddr a k 0 2) (((((n : Nat) : Int) - 1)).toNat - 0) (k - 0)] 130 (0, 0))] ++ c) :: H :: F) := Sat.perm (show Sat W _ ([(p, .cells #[.int .i64 S.cap, .slice (partAddr a k 0 2) (((((n : Nat) : Int) - 1)).toNat - 0) (k - 0)] 130 (0, 0))] :: c :: H :: F) from hS_33) (by simp)
  have hgl : S.l.getLast? = some x_14 := by rw [List.getLast?_eq_getElem?, ← hx_17]; congr 1; omega
  have he : S.l.dropLast = ((S.l.drop 0).take (((((n : Nat) : Int) - 1)).toNat - 0)) := by simp only [List.drop_zero, List.dropLast_eq_take]; congr 1; omega
  exact .inr ⟨_, _, hgl, rfl, by rw [he]; exact ⟨_, _, _, _, rfl, hP_28, ⟨hW.c, by have := hP_28.len; dsimp only; omega⟩⟩, hS_34⟩
theorem dq_steal {p : Nat} {S : DS} {M : Chunk} (hR : DqR p S M)  (hS : Sat W w (M :: H :: F)) :
    Calls Tryz.prog 80 #[.pointer (some ⟨p, 0, none⟩)] w fun e w' => (S.l = [] ∧ e = .returned (.tuple #[.agg #[.int .i64 0, .int .i64 0], .bool false]) ∧ Sat W w' (M :: H :: F)) ∨ (∃ (x : Ref) (M' : Chunk), S.l.head? = some x ∧ e = .returned (.tuple #[.agg #[.int .i64 x.job, .int .i64 x.task], .bool true]) ∧ DqR p { S with l := S.l.tail } M' ∧ Sat W w' (M' :: H :: F)) := by
  obtain ⟨a, n, k, c, rfl, hO, hW⟩ := hR
  have hS : Sat W _ ([(p, .cells #[.int .i64 S.cap, .slice a n k] 130 (0, 0))] :: c :: H :: F) := Sat.perm hS (by simp)
  have hn := hO.len; have hl := hO.le; have hw1 := hW.c; have hw2 := hW.n
  refine callsA 25 Tryz.func80 rfl ?_
  refine seqE <| regionE ?_
  refine sAlloc hS Tryz.zeroValue40 ?_
  intro b_1 w_2 hS_3
  refine pu1 <| nilO <| thenK_n <| seqE <| seqE <| regionE <| pu1 ?_
  have hS_4 := ((((hS_3.pick 3 rfl).pick 1 rfl).pick 3 rfl).pick 3 rfl)
  have hS_5 : Sat W _ (([(p, .cells #[.int .i64 S.cap, .slice a n k] 130 (0, 0))] ++ c) :: [(b_1, .cells #[.int .i64 0, .int .i64 0] 40 (0, 0))] :: H :: F) := Sat.perm (show Sat W _ ([(p, .cells #[.int .i64 S.cap, .slice a n k] 130 (0, 0))] :: c :: [(b_1, .cells #[.int .i64 0, .int .i64 0] 40 (0, 0))] :: H :: F) from hS_4) (by simp)
  refine cX Tryz.call101 (dq_len ⟨_, _, _, _, rfl, hO, hW⟩ (Sat.flat1 hS_5)) ?_
  rintro _ w_6 ⟨rfl, hS_7⟩
  have hS_8 : Sat W _ ([(p, .cells #[.int .i64 S.cap, .slice a n k] 130 (0, 0))] :: c :: [(b_1, .cells #[.int .i64 0, .int .i64 0] 40 (0, 0))] :: H :: F) := Sat.perm (Sat.unflat1 hS_7) (by simp)
  refine pu1 <| nilO <| thenK_n <| ?_
  refine cE ((S.l.length : Nat) : Int) 0 (fun hc_9 => ?_) (fun hc_9 => ?_)
  · refine seqE <| regionE <| pu1 ?_
    refine sT hS_8 2 0 (.agg #[.int .i64 0, .int .i64 0]) [.int .i64 0, .int .i64 0] #[.int .i64 0, .int .i64 0] Tryz.sizeOf40 ?_
    intro w_10 hS_11
    refine pu1 <| nilO <| thenK_n <| retE <| thenK_r <| retN (vs := [.agg #[.int .i64 0, .int .i64 0], .bool false]) rfl (.cons (.cell _ _ _ _ (by kernel_rfl) (lvA hS_11 2 0 [.int .i64 0, .int .i64 0] (Tryz.isAgg40 _) (Tryz.sizeOf40 _) rfl rfl rfl)) (.cons (.tmp _ _ (by kernel_rfl)) .nil)) <| ?_
    have hS_12 := ((((hS_11.pick 3 rfl).pick 2 rfl).pick 2 rfl).dropAt 3 rfl)
    have hS_13 : Sat W _ (([(p, .cells #[.int .i64 S.cap, .slice a n k] 130 (0, 0))] ++ c) :: H :: F) := Sat.perm (show Sat W _ ([(p, .cells #[.int .i64 S.cap, .slice a n k] 130 (0, 0))] :: c :: H :: F) from hS_12) (by simp)
    exact .inl ⟨List.length_eq_zero_iff.1 (by omega), rfl, hS_13⟩
  refine skipE <| thenK_n <| seqE <| regionE <| pu3 ?_
  refine sL hS_8 0 1 (.slice a n k) (Tryz.isAgg104 _) ?_
  refine sIdxO hO 0 0 Tryz.runUnderlying104 Tryz.sizeOf40 ?_
  intro x_14 b_15 o_16 hx_17 hp_18 hq_19
  refine sLpA hS_8 (hp_18.up 1 rfl) 0 [.int .i64 x_14.job, .int .i64 x_14.task] (Tryz.isAgg40 _) (Tryz.sizeOf40 _) ?_
  refine sAlloc hS_8 Tryz.zeroValue40 ?_
  intro b_20 w_21 hS_22
  refine sT hS_22 0 0 (.agg #[.int .i64 x_14.job, .int .i64 x_14.task]) [.int .i64 x_14.job, .int .i64 x_14.task] #[.int .i64 x_14.job, .int .i64 x_14.task] Tryz.sizeOf40 ?_
  intro w_23 hS_24
  refine nilO <| thenK_n <| seqE <| regionE <| pu4 ?_
  refine sL hS_24 1 1 (.slice a n k) (Tryz.isAgg104 _) ?_
  refine sSl (some 1) none 1 n Tryz.runUnderlying104 Tryz.sizeOf40 ⟨by decide, rfl⟩ rfl (by omega) (by omega) ?_ (a := a) (len := n) (cap := k)
  have hP_25 := hO.part (lo := 1) (hi := n) (by omega) (by omega)
  have hS_26 := Sat.nilc hS_24
  have hO_27 := OwnT.nil (enc := encRef) (E := 40) (sz := 2) (fun _ => rfl)
  refine sApp (nb := 16) hS_26 hO_27 0 (hP_25.rdAt 3 rfl) Tryz.underlying104 (i := Tryz.t40) (by kernel_rfl) (fun _ => rfl) ?_
  intro a_28 cap_29 c_30 w_31 hO_32 hS_33
  refine pu2 ?_
  refine sT hS_33 2 1 (.slice a_28 (0 + (n - 1)) cap_29) [.slice a_28 (0 + (n - 1)) cap_29] #[.int .i64 S.cap, .slice a_28 (0 + (n - 1)) cap_29] Tryz.sizeOf104 ?_
  intro w_34 hS_35
  refine nilO <| thenK_n <| seqE <| regionE ?_
  refine lA hS_35 1 0 2 (Tryz.isAgg40 _) (Tryz.sizeOf40 _) ?_
  refine sT hS_35 4 0 (.agg #[.int .i64 x_14.job, .int .i64 x_14.task]) [.int .i64 x_14.job, .int .i64 x_14.task] #[.int .i64 x_14.job, .int .i64 x_14.task] Tryz.sizeOf40 ?_
  intro w_36 hS_37
  refine pu1 <| nilO <| thenK_n <| retE <| retN (vs := [.agg #[.int .i64 x_14.job, .int .i64 x_14.task], .bool true]) rfl (.cons (.cell _ _ _ _ (by kernel_rfl) (lvA hS_37 4 0 [.int .i64 x_14.job, .int .i64 x_14.task] (Tryz.isAgg40 _) (Tryz.sizeOf40 _) rfl rfl rfl)) (.cons (.tmp _ _ (by kernel_rfl)) .nil)) <| ?_
  have hS_38 := ((((((hS_37.pick 5 rfl).pick 1 rfl).pick 3 rfl).dropAt 3 rfl).dropAt 3 rfl).dropAt 3 rfl)
  have hS_39 : Sat W _ (([(p, .cells #[.int .i64 S.cap, .slice a_28 (0 + (n - 1)) cap_29] 130 (0, 0))] ++ c_30) :: H :: F) := Sat.perm (show Sat W _ ([(p, .cells #[.int .i64 S.cap, .slice a_28 (0 + (n - 1)) cap_29] 130 (0, 0))] :: c_30 :: H :: F) from hS_38) (by simp)
  have hgl : S.l.head? = some x_14 := by rw [List.head?_eq_getElem?]; exact hx_17
  have he : S.l.tail = ([] ++ ((S.l.drop 1).take (n - 1))) := by rw [← List.drop_one]; simp; exact (List.take_of_length_le (by simp; omega)).symm
  exact .inr ⟨_, _, hgl, rfl, by rw [he]; exact ⟨_, _, _, _, rfl, hO_32, ⟨hW.c, by rw [← he, List.length_tail]; dsimp only; omega⟩⟩, hS_39⟩
theorem dq_remove {p : Nat} {S : DS} {M : Chunk} (hR : DqR p S M) (j : Int) (hS : Sat W w (M :: H :: F)) :
    Calls Tryz.prog 41 #[.pointer (some ⟨p, 0, none⟩), .int .i64 j] w fun e w' => ∃ (M' : Chunk) (v : Int), e = .returned (.int .i64 v) ∧ DqR p ({ S with l := without j S.l }) M' ∧ Sat W w' (M' :: H :: F) := by
  obtain ⟨a, n, k, c, rfl, hO, hW⟩ := hR
  have hS : Sat W _ ([(p, .cells #[.int .i64 S.cap, .slice a n k] 130 (0, 0))] :: c :: H :: F) := Sat.perm hS (by simp)
  have hn := hO.len; have hl := hO.le; have hw1 := hW.c; have hw2 := hW.n
  refine callsA 29 Tryz.func41 rfl ?_
  refine seqE <| regionE <| pu1 <| nilO <| thenK_n <| seqE <| seqE <| regionE <| pu2 <| nilO <| thenK_n <| cFf <| skipE <| thenK_n <| seqE <| regionE <| pu3 ?_
  refine sL hS 0 1 (.slice a n k) (Tryz.isAgg104 _) ?_
  refine pu2 <| nilO <| thenK_n <| seqE <| regionE <| pu4 ?_
  refine sL hS 0 1 (.slice a n k) (Tryz.isAgg104 _) ?_
  refine pu1 ?_
  refine cX Tryz.call67 (r23_without a n k S.l j (RdT.flat (hO.rdAt 1 (by rfl))) (by first | omega | (dsimp only; omega)) (Sat.flat hS)) ?_
  rintro _ w_1 ⟨az_4, nz_5, kz_6, G_7, rfl, hR_8, h_3⟩
  have hS_2 := Sat.unflat1 h_3
  have hn_az_4 := hR_8.len; have hl_az_4 := hR_8.le
  refine pu2 ?_
  refine sT hS_2 1 1 (.slice az_4 nz_5 kz_6) [.slice az_4 nz_5 kz_6] #[.int .i64 S.cap, .slice az_4 nz_5 kz_6] Tryz.sizeOf104 ?_
  intro w_9 hS_10
  refine nilO <| thenK_n <| seqE <| regionE <| pu4 ?_
  refine sL hS_10 1 1 (.slice az_4 nz_5 kz_6) (Tryz.isAgg104 _) ?_
  refine pu1 ?_
  refine sSub ((n : Nat) : Int) ((nz_5 : Nat) : Int) ?_
  refine pu1 <| nilO ?_
  have hwl := without_len j S.l
  refine thenK_n <| retE <| retT [.int .i64 (((n : Nat) : Int) - ((nz_5 : Nat) : Int))] <| ?_
  have hS_11 := ((((hS_10.pick 3 rfl).pick 1 rfl).pick 2 rfl).dropAt 3 rfl)
  have hS_12 : Sat W _ (([(p, .cells #[.int .i64 S.cap, .slice az_4 nz_5 kz_6] 130 (0, 0))] ++ G_7) :: H :: F) := Sat.perm (show Sat W _ ([(p, .cells #[.int .i64 S.cap, .slice az_4 nz_5 kz_6] 130 (0, 0))] :: G_7 :: H :: F) from hS_11) (by simp)
  exact ⟨_, _, rfl, ⟨_, _, _, _, rfl, hR_8, ⟨hW.c, by have := without_len j S.l; dsimp only; omega⟩⟩, hS_12⟩
theorem dq_drain {p : Nat} {S : DS} {M : Chunk} (hR : DqR p S M)  (hS : Sat W w (M :: H :: F)) :
    Calls Tryz.prog 44 #[.pointer (some ⟨p, 0, none⟩)] w fun e w' => ∃ (a : Option Addr) (n k : Nat) (Z M' : Chunk), e = .returned (.slice a n k) ∧ OwnT encRef 40 2 a n k S.l Z ∧ DqR p { S with l := [] } M' ∧ Sat W w' (Z :: M' :: H :: F) := by
  obtain ⟨a, n, k, c, rfl, hO, hW⟩ := hR
  have hS : Sat W _ ([(p, .cells #[.int .i64 S.cap, .slice a n k] 130 (0, 0))] :: c :: H :: F) := Sat.perm hS (by simp)
  have hn := hO.len; have hl := hO.le; have hw1 := hW.c; have hw2 := hW.n
  refine callsA 14 Tryz.func44 rfl ?_
  refine seqE <| regionE <| pu1 <| nilO <| thenK_n <| seqE <| seqE <| regionE <| pu2 <| nilO <| thenK_n <| cFf <| skipE <| thenK_n <| seqE <| regionE <| pu3 ?_
  refine sL hS 0 1 (.slice a n k) (Tryz.isAgg104 _) ?_
  refine pu1 <| nilO <| thenK_n <| seqE <| regionE <| pu3 ?_
  refine sT hS 0 1 (.slice none 0 0) [.slice none 0 0] #[.int .i64 S.cap, .slice none 0 0] Tryz.sizeOf104 ?_
  intro w_1 hS_2
  refine nilO <| thenK_n <| seqE <| regionE <| pu2 <| nilO <| thenK_n <| retE <| retT [.slice a n k] <| ?_
  have hS_4 := (((hS_2.pick 2 rfl).pick 1 rfl).pick 2 rfl)
  have hS_3 : Sat W _ (c :: ([(p, .cells #[.int .i64 S.cap, .slice none 0 0] 130 (0, 0))] ++ ([] : Chunk)) :: H :: F) := Sat.perm (show Sat W _ (c :: [(p, .cells #[.int .i64 S.cap, .slice none 0 0] 130 (0, 0))] :: H :: F) from hS_4) (by simp)
  exact ⟨_, _, _, _, _, rfl, hO, ⟨_, _, _, _, rfl, OwnT.nil (fun _ => rfl), ⟨hW.c, by simp; omega⟩⟩, hS_3⟩
theorem r23_new {cs : List Chunk} (c : Int) (hc : 1 ≤ c ∧ c ≤ 256) (hS : Sat W w cs) :
    Calls Tryz.prog 33 #[.int .i64 c] w fun e w' => ∃ (p : Nat) (M : Chunk), e = .returned (.tuple #[.pointer (some ⟨p, 0, none⟩), .int .i64 0]) ∧ DqR p ⟨c, []⟩ M ∧ Sat W w' (M :: cs) := by
  refine callsA 13 Tryz.func33 rfl ?_
  refine seqE <| regionE <| pu2 <| nilO <| thenK_n <| seqE <| seqE <| regionE <| pu3 ?_
  refine sD 6 (c < 1) (fun hc_1 => ?_) (fun hc_1 => ?_)
  · refine pu3 <| nilO <| thenK_n <| cTt <| seqE <| regionE <| pu2 <| nilO <| thenK_n <| retE <| thenK_r <| retT [.pointer none, .int .i64 2] <| ?_
    omega
  refine pu3 <| nilO <| thenK_n <| ?_
  refine cD (c > 256) (fun hc_2 => ?_) (fun hc_2 => ?_)
  · refine seqE <| regionE <| pu2 <| nilO <| thenK_n <| retE <| thenK_r <| retT [.pointer none, .int .i64 2] <| ?_
    omega
  refine skipE <| thenK_n <| seqE <| regionE <| pu2 ?_
  refine sBox hS (.agg #[.int .i64 c, .slice none 0 0]) #[.int .i64 c, .slice none 0 0] ?_
  intro b_3 w_4 hS_5
  refine pu2 <| nilO <| thenK_n <| retE <| retT [.pointer (some ⟨b_3, 0, none⟩), .int .i64 0] <| ?_
  exact ⟨_, _, rfl, ⟨_, _, _, [], rfl, OwnT.nil (fun _ => rfl), ⟨hc, by simp; omega⟩⟩, hS_5⟩
end Go.Proofs.YtimkhljglpookaaGreat
