import Derived.Test.YtimkhljglpookaaGreatBd4
namespace Go.Proofs.YtimkhljglpookaaGreat
open Go Go.E
set_option linter.unusedVariables false
set_option linter.unusedSimpArgs false
set_option linter.unnecessarySimpa false
set_option maxRecDepth 100000
set_option maxHeartbeats 2000000
variable {W w : World} {H : Chunk} {F : List Chunk}
theorem getD_at {s : List Int} {i : Nat} {x : Int} (h : s[i]? = some x) : s.getD i 0 = x := by rw [List.getD_eq_getElem?_getD, h]; rfl
theorem r_has {p : Nat} {B : BS} {K : Int} {M : Chunk} (hB : RefR p B M) (hW : BWf B K) (i : Int) (hS : Sat W w (M :: H :: F)) :
    Calls Tryz.prog 98 #[.pointer (some ⟨p, 0, none⟩), .int .i64 i] w fun e w' => e = .returned (.bool (decide (inB B i))) ∧ Sat W w' (M :: H :: F) := by
  refine callsA 20 Tryz.func98 rfl ?_
  refine seqE <| regionE <| pu1 <| nilO <| thenK_n <| seqE ?_
  have hS_1 := ((hS.pick 1 rfl).pick 1 rfl)
  obtain ⟨a, n, k, ts, sa, sn, sk, ta, tn, tk, c, G, cs, ct, rfl, hO, hD, hOs, hOt, hdp⟩ := hB
  have hS_2 : Sat W _ ([(p, .cells #[.slice a n k, .slice sa sn sk, .slice ta tn tk] 136 (0, 0))] :: c :: G :: cs :: ct :: H :: F) := Sat.perm hS_1 (by simp)
  have hlo := hO.le; have hln := hO.len; have hls := hOs.le; have hlns := hOs.len; have hlt := hOt.le; have hlnt := hOt.len; have hld := congrArg List.length hdp; rw [List.length_map] at hld; have hw1 := hW.ls; have hw2 := hW.la; have hw3 := hW.n0
  refine regionE <| pu7 ?_
  refine sD 11 (i ≥ 0) (fun hc_3 => ?_) (fun hc_3 => ?_)
  rotate_left
  · refine pu9 <| nilO <| thenK_n <| retE <| retT [.bool false] <| ?_
    have hS_6 := ((((((hS_2.pick 5 rfl).pick 5 rfl).pick 5 rfl).pick 5 rfl).pick 5 rfl).pick 5 rfl)
    have hS_7 : Sat W _ (([(p, .cells #[.slice a n k, .slice sa sn sk, .slice ta tn tk] 136 (0, 0))] ++ (c ++ (G ++ (cs ++ ct)))) :: H :: F) := Sat.perm hS_6 (by simp)
    exact ⟨congrArg (fun b => Ending.returned (.bool b)) (decide_eq_false (by unfold inB; omega)).symm, hS_7⟩
  refine pu4 <| gY ?_
  refine sL hS_2 0 0 (.slice a n k) (Tryz.isAgg45 _) ?_
  refine pu4 <| nilO <| thenK_n <| retE <| retT [.bool (decide ((i : Int) < ((n : Nat) : Int)))] <| ?_
  have hS_4 := ((((((hS_2.pick 5 rfl).pick 5 rfl).pick 5 rfl).pick 5 rfl).pick 5 rfl).pick 5 rfl)
  have hS_5 : Sat W _ (([(p, .cells #[.slice a n k, .slice sa sn sk, .slice ta tn tk] 136 (0, 0))] ++ (c ++ (G ++ (cs ++ ct)))) :: H :: F) := Sat.perm hS_4 (by simp)
  exact ⟨congrArg (fun b => Ending.returned (.bool b)) (decide_eq_decide.2 (by unfold inB; omega)), hS_5⟩
theorem r_held {p : Nat} {B : BS} {K : Int} {M : Chunk} (hB : RefR p B M) (hW : BWf B K) (i : Int) (m : Int) (hS : Sat W w (M :: H :: F)) :
    Calls Tryz.prog 68 #[.pointer (some ⟨p, 0, none⟩), .int .i64 i, .int .i64 m] w fun e w' => e = .returned (.int .i64 (heldC B i m)) ∧ Sat W w' (M :: H :: F) := by
  refine callsA 30 Tryz.func68 rfl ?_
  refine seqE <| regionE <| pu1 <| nilO <| thenK_n <| seqE <| seqE <| regionE <| pu2 ?_
  refine cX Tryz.call98 (r_has hB hW i (Sat.flat1 hS)) ?_
  rintro _ w_1 ⟨rfl, hS_2⟩
  have hS_3 := Sat.unflat1 hS_2
  refine pu1 <| nilO <| thenK_n <| ?_
  refine cDn (inB B i) (fun hc_4 => ?_) (fun hc_4 => ?_)
  rotate_left
  · refine seqE <| regionE <| pu1 <| nilO <| thenK_n <| retE <| thenK_r <| retT [.int .i64 16] <| ?_
    have hS_29 := ((hS_3.pick 1 rfl).pick 1 rfl)
    exact ⟨by unfold heldC; rw [if_neg hc_4]; rfl, hS_29⟩
  refine skipE <| thenK_n <| seqE <| seqE ?_
  have hS_5 := ((hS_3.pick 1 rfl).pick 1 rfl)
  obtain ⟨a, n, k, ts, sa, sn, sk, ta, tn, tk, c, G, cs, ct, rfl, hO, hD, hOs, hOt, hdp⟩ := hB
  have hS_6 : Sat W _ ([(p, .cells #[.slice a n k, .slice sa sn sk, .slice ta tn tk] 136 (0, 0))] :: c :: G :: cs :: ct :: H :: F) := Sat.perm hS_5 (by simp)
  have hlo := hO.le; have hln := hO.len; have hls := hOs.le; have hlns := hOs.len; have hlt := hOt.le; have hlnt := hOt.len; have hld := congrArg List.length hdp; rw [List.length_map] at hld; have hw1 := hW.ls; have hw2 := hW.la; have hw3 := hW.n0
  have hib : 0 ≤ i ∧ i < ((B.deps.length : Nat) : Int) := hc_4; have hsg := stAt_nat B.st hib.1
  refine regionE <| pu3 ?_
  refine sL hS_6 0 1 (.slice sa sn sk) (Tryz.isAgg22 _) ?_
  refine pu1 ?_
  refine sIdxO hOs i (i).toNat Tryz.runUnderlying22 Tryz.sizeOf3 ?_
  intro x_7 b_8 o_9 hx_10 hp_11 hq_12
  have hg_13 : B.st.getD i.toNat 0 = x_7 := by rw [List.getD_eq_getElem?_getD, hx_10]; rfl
  refine sLp hS_6 (hp_11.up 3 rfl) 0 (.int .i64 x_7) (Tryz.isAgg3 _) ?_
  refine pu2 ?_
  refine sN 19 x_7 3 (fun hc_14 => ?_) (fun hc_14 => ?_)
  rotate_left
  · refine pu10 <| nilO <| thenK_n <| cTt <| seqE <| regionE <| pu1 <| nilO <| thenK_n <| retE <| thenK_r <| retT [.int .i64 20] <| ?_
    have hS_27 := ((((((hS_6.pick 5 rfl).pick 5 rfl).pick 5 rfl).pick 5 rfl).pick 5 rfl).pick 5 rfl)
    have hS_28 : Sat W _ (([(p, .cells #[.slice a n k, .slice sa sn sk, .slice ta tn tk] 136 (0, 0))] ++ (c ++ (G ++ (cs ++ ct)))) :: H :: F) := Sat.perm hS_27 (by simp)
    exact ⟨by unfold heldC; rw [if_pos hc_4, if_neg (by rw [hsg]; omega)]; rfl, hS_28⟩
  refine pu3 <| gY ?_
  refine sL hS_6 0 2 (.slice ta tn tk) (Tryz.isAgg22 _) ?_
  refine pu1 <| gY ?_
  refine sIdxO hOt i (i).toNat Tryz.runUnderlying22 Tryz.sizeOf3 ?_
  intro x_15 b_16 o_17 hx_18 hp_19 hq_20
  have hg_21 : B.att.getD i.toNat 0 = x_15 := by rw [List.getD_eq_getElem?_getD, hx_18]; rfl
  refine gY ?_
  refine sLp hS_6 (hp_19.up 4 rfl) 0 (.int .i64 x_15) (Tryz.isAgg3 _) ?_
  refine pu3 <| nilO <| thenK_n <| ?_
  refine cN x_15 m (fun hc_22 => ?_) (fun hc_22 => ?_)
  rotate_left
  · refine seqE <| regionE <| pu1 <| nilO <| thenK_n <| retE <| thenK_r <| retT [.int .i64 20] <| ?_
    have hS_25 := ((((((hS_6.pick 5 rfl).pick 5 rfl).pick 5 rfl).pick 5 rfl).pick 5 rfl).pick 5 rfl)
    have hS_26 : Sat W _ (([(p, .cells #[.slice a n k, .slice sa sn sk, .slice ta tn tk] 136 (0, 0))] ++ (c ++ (G ++ (cs ++ ct)))) :: H :: F) := Sat.perm hS_25 (by simp)
    exact ⟨by unfold heldC; rw [if_pos hc_4, if_neg (by rw [hsg]; omega)]; rfl, hS_26⟩
  refine skipE <| thenK_n <| seqE <| regionE <| pu1 <| nilO <| thenK_n <| retE <| retT [.int .i64 0] <| ?_
  have hS_23 := ((((((hS_6.pick 5 rfl).pick 5 rfl).pick 5 rfl).pick 5 rfl).pick 5 rfl).pick 5 rfl)
  have hS_24 : Sat W _ (([(p, .cells #[.slice a n k, .slice sa sn sk, .slice ta tn tk] 136 (0, 0))] ++ (c ++ (G ++ (cs ++ ct)))) :: H :: F) := Sat.perm hS_23 (by simp)
  exact ⟨by unfold heldC; rw [if_pos hc_4, if_pos (by rw [hsg]; omega)]; rfl, hS_24⟩
theorem st_out2 {B : BS} {K i : Int} (hW : BWf B K) (h : ¬ inB B i) : stAt B.st i = 0 := by
  have hl := hW.ls
  unfold stAt
  split
  · rw [List.getD_eq_getElem?_getD, List.getElem?_eq_none (by unfold inB at h; omega)]; rfl
  · rfl
theorem r_total {p : Nat} {B : BS} {K : Int} {M : Chunk} (hB : RefR p B M) (hW : BWf B K)  (hS : Sat W w (M :: H :: F)) :
    Calls Tryz.prog 103 #[.pointer (some ⟨p, 0, none⟩)] w fun e w' => e = .returned (.int .i64 ((B.deps.length : Nat) : Int)) ∧ Sat W w' (M :: H :: F) := by
  have hS_1 := ((hS.pick 1 rfl).pick 1 rfl)
  obtain ⟨a, n, k, ts, sa, sn, sk, ta, tn, tk, c, G, cs, ct, rfl, hO, hD, hOs, hOt, hdp⟩ := hB
  have hS_2 : Sat W _ ([(p, .cells #[.slice a n k, .slice sa sn sk, .slice ta tn tk] 136 (0, 0))] :: c :: G :: cs :: ct :: H :: F) := Sat.perm hS_1 (by simp)
  have hlo := hO.le; have hln := hO.len; have hls := hOs.le; have hlns := hOs.len; have hlt := hOt.le; have hlnt := hOt.len; have hld := congrArg List.length hdp; rw [List.length_map] at hld; have hw1 := hW.ls; have hw2 := hW.la; have hw3 := hW.n0
  refine callsA 10 Tryz.func103 rfl ?_
  refine seqE <| regionE <| pu1 <| nilO <| thenK_n <| seqE <| seqE <| regionE <| pu2 <| nilO <| thenK_n <| cFf <| skipE <| thenK_n <| seqE <| regionE <| pu3 ?_
  refine sL hS_2 0 0 (.slice a n k) (Tryz.isAgg45 _) ?_
  refine pu2 <| nilO <| thenK_n <| retE <| retT [.int .i64 ((n : Nat) : Int)] <| ?_
  have hS_3 := ((((((hS_2.pick 5 rfl).pick 5 rfl).pick 5 rfl).pick 5 rfl).pick 5 rfl).pick 5 rfl)
  have hS_4 : Sat W _ (([(p, .cells #[.slice a n k, .slice sa sn sk, .slice ta tn tk] 136 (0, 0))] ++ (c ++ (G ++ (cs ++ ct)))) :: H :: F) := Sat.perm hS_3 (by simp)
  exact ⟨by rw [show B.deps.length = n by omega]; rfl, hS_4⟩
theorem r_with {p : Nat} {B : BS} {K : Int} {M : Chunk} (hB : RefR p B M) (hW : BWf B K) (y : Int) (hS : Sat W w (M :: H :: F)) :
    Calls Tryz.prog 65 #[.pointer (some ⟨p, 0, none⟩), .int .i64 y] w fun e w' => ∃ (az : Option Addr) (nz kz : Nat) (Z : Chunk), e = .returned (.slice az nz kz) ∧ RdT encI 1 [Z] az nz kz (idxOf y 0 B.st) ∧ Sat W w' (Z :: M :: H :: F) := by
  have hS_1 := ((hS.pick 1 rfl).pick 1 rfl)
  obtain ⟨a, n, k, ts, sa, sn, sk, ta, tn, tk, c, G, cs, ct, rfl, hO, hD, hOs, hOt, hdp⟩ := hB
  have hS_2 : Sat W _ ([(p, .cells #[.slice a n k, .slice sa sn sk, .slice ta tn tk] 136 (0, 0))] :: c :: G :: cs :: ct :: H :: F) := Sat.perm hS_1 (by simp)
  have hlo := hO.le; have hln := hO.len; have hls := hOs.le; have hlns := hOs.len; have hlt := hOt.le; have hlnt := hOt.len; have hld := congrArg List.length hdp; rw [List.length_map] at hld; have hw1 := hW.ls; have hw2 := hW.la; have hw3 := hW.n0
  refine callsA 34 Tryz.func65 rfl ?_
  refine seqE <| regionE <| pu1 <| nilO <| thenK_n <| seqE <| regionE <| pu1 <| nilO <| thenK_n <| seqE <| seqE <| regionE <| pu1 <| nilO <| thenK_n <| blockE ?_
  have hS_3 := Sat.nilc hS_2
  have hO_4 := OwnT.nil (enc := encI) (E := 3) (sz := 1) (fun _ => rfl)
  refine loopA (γ := Nat × (List Int) × (Option Addr) × Nat × Nat × Chunk) (fun ⟨i, zs, azs, nzs, kzs, czs⟩ => [(0, .pointer (some ⟨p, 0, none⟩)), (1, .int .i64 y), (6, .int .i64 ((i : Nat) : Int)), (5, .slice azs nzs kzs)]) (fun ⟨i, zs, azs, nzs, kzs, czs⟩ w => Sat W w (czs :: [(p, .cells #[.slice a n k, .slice sa sn sk, .slice ta tn tk] 136 (0, 0))] :: c :: G :: cs :: ct :: H :: F) ∧ i ≤ sn ∧ (zs = idxOf y 0 (B.st.take i)) ∧ (zs.length ≤ i) ∧ OwnT encI 3 1 azs nzs kzs zs czs) (fun ⟨i, zs, azs, nzs, kzs, czs⟩ => sn - i) (0, [], none, 0, 0, []) ⟨hS_3, by omega, rfl, by simp, hO_4⟩ ?_
  rintro ⟨i, zs, azs, nzs, kzs, czs⟩ ρ w_5 ⟨hS_6, hi, hz, hzl, hOzs⟩
  have hn_zs := hOzs.len; have hl_zs := hOzs.le
  refine seqE <| seqE <| regionE <| pu7 <| gY ?_
  refine sL hS_6 1 1 (.slice sa sn sk) (Tryz.isAgg22 _) ?_
  refine pu3 <| nilO <| thenK_n <| ?_
  refine cD (((i : Nat) : Int) < ((sn : Nat) : Int)) (fun hc_7 => ?_) (fun hc_7 => ?_)
  rotate_left
  · refine exitE <| thenK_x <| thenK_x <| blockK_x <| thenK_n <| seqE <| regionE <| pu2 <| nilO <| thenK_n <| retE <| retT [.slice azs nzs kzs] <| ?_
    have hS_26 := (((((((hS_6.pick 6 rfl).pick 6 rfl).pick 6 rfl).pick 6 rfl).pick 6 rfl).pick 6 rfl).pick 6 rfl)
    have hS_27 : Sat W _ (czs :: ([(p, .cells #[.slice a n k, .slice sa sn sk, .slice ta tn tk] 136 (0, 0))] ++ (c ++ (G ++ (cs ++ ct)))) :: H :: F) := Sat.perm hS_26 (by simp)
    have hrd := (hOzs.rdAt (cs := [czs]) 0 rfl); rw [hz, List.take_of_length_le (by omega)] at hrd
    exact ⟨_, _, _, _, rfl, hrd, hS_27⟩
  refine skipE <| thenK_n <| seqE <| blockE <| seqE <| regionE <| pu3 ?_
  refine sL hS_6 1 1 (.slice sa sn sk) (Tryz.isAgg22 _) ?_
  refine pu1 ?_
  refine sIdxO hOs ((i : Nat) : Int) i Tryz.runUnderlying22 Tryz.sizeOf3 ?_
  intro x_8 b_9 o_10 hx_11 hp_12 hq_13
  refine sLp hS_6 (hp_12.up 4 rfl) 0 (.int .i64 x_8) (Tryz.isAgg3 _) ?_
  refine pu2 <| nilO <| thenK_n <| ?_
  refine cE x_8 y (fun hc_14 => ?_) (fun hc_14 => ?_)
  rotate_left
  · refine skipE <| blockK_n <| thenK_n <| regionE <| pu1 ?_
    refine sAdd ((i : Nat) : Int) 1 ?_
    refine pu1 <| nilO <| thenK_n <| ?_
    have hS_25 := (((((((hS_6.pick 6 rfl).pick 6 rfl).pick 6 rfl).pick 6 rfl).pick 6 rfl).pick 6 rfl).pick 6 rfl)
    exact ⟨(i + 1, zs, azs, nzs, kzs, czs), by first | omega | (dsimp only; omega), alA, hS_25, by omega, (idx_n hz (by omega) (by rw [getD_at hx_11]; omega)), (by first | omega | (simp; omega)), hOzs⟩
  refine regionE <| pu2 ?_
  refine sBS hS_6 #[.int .i64 ((i : Nat) : Int)] Tryz.runUnderlying22 Tryz.sizeOf3 Tryz.zeroValue3 ?_
  intro b_15 w_16 hS_17
  refine sApp (nb := 8) hS_17 hOzs 1 (RdT.blk (enc := encI) (sz := 1) (xs := [((i : Nat) : Int)]) (fun _ => rfl) 1 0 rfl rfl rfl (by omega)) Tryz.underlying22 (i := Tryz.t3) (by kernel_rfl) (fun _ => rfl) ?_
  intro a_18 cap_19 c_20 w_21 hO_22 hS_23
  refine pu1 <| nilO <| blockK_n <| thenK_n <| regionE <| pu1 ?_
  refine sAdd ((i : Nat) : Int) 1 ?_
  refine pu1 <| nilO <| thenK_n <| ?_
  have hS_24 := ((((((((hS_23.pick 7 rfl).pick 7 rfl).pick 7 rfl).pick 7 rfl).pick 7 rfl).pick 7 rfl).pick 7 rfl).dropAt 7 rfl)
  exact ⟨(i + 1, (zs ++ [((i : Nat) : Int)]), a_18, (nzs + 1), cap_19, c_20), by first | omega | (dsimp only; omega), alA, hS_24, by omega, (idx_y hz (by omega) (by rw [getD_at hx_11]; omega)), (by first | omega | (simp; omega)), hO_22⟩
theorem r_ready {p : Nat} {B : BS} {K : Int} {M : Chunk} (hB : RefR p B M) (hW : BWf B K)  (hS : Sat W w (M :: H :: F)) :
    Calls Tryz.prog 38 #[.pointer (some ⟨p, 0, none⟩)] w fun e w' => ∃ (az : Option Addr) (nz kz : Nat) (Z : Chunk), e = .returned (.slice az nz kz) ∧ RdT encI 1 [Z] az nz kz (idxOf 2 0 B.st) ∧ Sat W w' (Z :: M :: H :: F) := by
  refine callsA 5 Tryz.func38 rfl ?_
  refine seqE <| regionE <| pu1 <| nilO <| thenK_n <| seqE <| regionE <| pu1 ?_
  refine cX Tryz.call65 (r_with hB hW 2 (Sat.flat1 hS)) ?_
  rintro _ w_1 ⟨az_4, nz_5, kz_6, Z_7, rfl, hr_8, hS_2⟩
  have hS_3 := Sat.unflat2 hS_2; have hn_az_4 := hr_8.len
  refine pu1 <| nilO <| thenK_n <| retE <| retT [.slice az_4 nz_5 kz_6] <| ?_
  have hS_9 := (((hS_3.pick 2 rfl).pick 2 rfl).pick 2 rfl)
  exact ⟨_, _, _, _, rfl, hr_8, hS_9⟩
theorem r_done {p : Nat} {B : BS} {K : Int} {M : Chunk} (hB : RefR p B M) (hW : BWf B K)  (hS : Sat W w (M :: H :: F)) :
    Calls Tryz.prog 76 #[.pointer (some ⟨p, 0, none⟩)] w fun e w' => e = .returned (.int .i64 (doneOf B)) ∧ Sat W w' (M :: H :: F) := by
  refine callsA 6 Tryz.func76 rfl ?_
  refine seqE <| regionE <| pu1 <| nilO <| thenK_n <| seqE <| regionE <| pu1 ?_
  refine cX Tryz.call65 (r_with hB hW 4 (Sat.flat1 hS)) ?_
  rintro _ w_1 ⟨az_4, nz_5, kz_6, Z_7, rfl, hr_8, hS_2⟩
  have hS_3 := Sat.unflat2 hS_2; have hn_az_4 := hr_8.len
  refine pu2 <| nilO <| thenK_n <| retE <| retT [.int .i64 ((nz_5 : Nat) : Int)] <| ?_
  have hS_9 := (((hS_3.pick 2 rfl).pick 2 rfl).dropAt 2 rfl)
  exact ⟨congrArg (fun z => Ending.returned (.int .i64 z)) (by unfold doneOf; rw [← idx_len 0]; omega), hS_9⟩
theorem r_start {p : Nat} {B : BS} {K : Int} {M : Chunk} (hB : RefR p B M) (hW : BWf B K) (i : Int) (hS : Sat W w (M :: H :: F)) :
    Calls Tryz.prog 102 #[.pointer (some ⟨p, 0, none⟩), .int .i64 i] w fun e w' => ∃ M' : Chunk, e = .returned (.tuple #[.int .i64 (startB B i).2.1, .int .i64 (startB B i).2.2]) ∧ RefR p ((startB B i).1) M' ∧ Sat W w' (M' :: H :: F) := by
  refine callsA 31 Tryz.func102 rfl ?_
  refine seqE <| regionE <| pu2 <| nilO <| thenK_n <| seqE <| seqE <| regionE <| pu2 ?_
  refine cX Tryz.call98 (r_has hB hW i (Sat.flat1 hS)) ?_
  rintro _ w_1 ⟨rfl, hS_2⟩
  have hS_3 := Sat.unflat1 hS_2
  refine pu1 <| nilO <| thenK_n <| ?_
  refine cDn (inB B i) (fun hc_4 => ?_) (fun hc_4 => ?_)
  rotate_left
  · refine seqE <| regionE <| pu2 <| nilO <| thenK_n <| retE <| thenK_r <| retT [.int .i64 0, .int .i64 16] <| ?_
    have hS_37 := ((hS_3.pick 1 rfl).pick 1 rfl)
    have he : startB B i = (B, 0, 16) := by unfold startB; rw [if_neg hc_4]
    exact ⟨_, by rw [he]; rfl, by rw [he]; exact hB, hS_37⟩
  refine skipE <| thenK_n <| seqE <| seqE ?_
  have hS_5 := ((hS_3.pick 1 rfl).pick 1 rfl)
  obtain ⟨a, n, k, ts, sa, sn, sk, ta, tn, tk, c, G, cs, ct, rfl, hO, hD, hOs, hOt, hdp⟩ := hB
  have hS_6 : Sat W _ ([(p, .cells #[.slice a n k, .slice sa sn sk, .slice ta tn tk] 136 (0, 0))] :: c :: G :: cs :: ct :: H :: F) := Sat.perm hS_5 (by simp)
  have hlo := hO.le; have hln := hO.len; have hls := hOs.le; have hlns := hOs.len; have hlt := hOt.le; have hlnt := hOt.len; have hld := congrArg List.length hdp; rw [List.length_map] at hld; have hw1 := hW.ls; have hw2 := hW.la; have hw3 := hW.n0
  have hib : 0 ≤ i ∧ i < ((B.deps.length : Nat) : Int) := hc_4; have hsg := stAt_nat B.st hib.1
  refine regionE <| pu3 ?_
  refine sL hS_6 0 1 (.slice sa sn sk) (Tryz.isAgg22 _) ?_
  refine pu1 ?_
  refine sIdxO hOs i (i).toNat Tryz.runUnderlying22 Tryz.sizeOf3 ?_
  intro x_7 b_8 o_9 hx_10 hp_11 hq_12
  have hg_13 : B.st.getD i.toNat 0 = x_7 := by rw [List.getD_eq_getElem?_getD, hx_10]; rfl
  refine sLp hS_6 (hp_11.up 3 rfl) 0 (.int .i64 x_7) (Tryz.isAgg3 _) ?_
  refine pu1 <| nilO <| thenK_n <| ?_
  refine cN x_7 2 (fun hc_14 => ?_) (fun hc_14 => ?_)
  rotate_left
  · refine seqE <| regionE <| pu2 <| nilO <| thenK_n <| retE <| thenK_r <| retT [.int .i64 0, .int .i64 20] <| ?_
    have hS_35 := ((((((hS_6.pick 5 rfl).pick 5 rfl).pick 5 rfl).pick 5 rfl).pick 5 rfl).pick 5 rfl)
    have hS_36 : Sat W _ (([(p, .cells #[.slice a n k, .slice sa sn sk, .slice ta tn tk] 136 (0, 0))] ++ (c ++ (G ++ (cs ++ ct)))) :: H :: F) := Sat.perm hS_35 (by simp)
    have he : startB B i = (B, 0, 20) := by unfold startB; rw [if_pos hc_4, if_neg (by rw [hsg]; omega)]
    exact ⟨_, by rw [he]; rfl, by rw [he]; exact ⟨_, _, _, ts, _, _, _, _, _, _, c, G, cs, ct, rfl, hO, hD, hOs, hOt, hdp⟩, hS_36⟩
  refine skipE <| thenK_n <| seqE <| regionE <| pu3 ?_
  refine sL hS_6 0 1 (.slice sa sn sk) (Tryz.isAgg22 _) ?_
  refine pu1 ?_
  refine sIdxO hOs i (i).toNat Tryz.runUnderlying22 Tryz.sizeOf3 ?_
  intro x_15 b_16 o_17 hx_18 hp_19 hq_20
  obtain rfl : x_7 = x_15 := Option.some.inj (hx_10.symm.trans hx_18)
  have hg_21 : B.st.getD i.toNat 0 = x_7 := by rw [List.getD_eq_getElem?_getD, hx_18]; rfl
  refine sStF hS_6 hOs hq_20 3 (i).toNat 0 x_7 3 hx_18 (.int .i64 3) [.int .i64 3] Tryz.sizeOf3 ?_
  intro w_22 c_24 hO_25 hS_23
  refine nilO <| thenK_n <| seqE <| regionE <| pu3 ?_
  refine sL hS_23 0 2 (.slice ta tn tk) (Tryz.isAgg22 _) ?_
  refine pu1 ?_
  refine sIdxO hOt i (i).toNat Tryz.runUnderlying22 Tryz.sizeOf3 ?_
  intro x_26 b_27 o_28 hx_29 hp_30 hq_31
  have hg_32 : B.att.getD i.toNat 0 = x_26 := by rw [List.getD_eq_getElem?_getD, hx_29]; rfl
  refine sLp hS_23 (hp_30.up 4 rfl) 0 (.int .i64 x_26) (Tryz.isAgg3 _) ?_
  refine pu2 <| nilO <| thenK_n <| retE <| retT [.int .i64 x_26, .int .i64 0] <| ?_
  have hS_33 := ((((((hS_23.pick 5 rfl).pick 5 rfl).pick 5 rfl).pick 5 rfl).pick 5 rfl).pick 5 rfl)
  have hS_34 : Sat W _ (([(p, .cells #[.slice a n k, .slice sa sn sk, .slice ta tn tk] 136 (0, 0))] ++ (c ++ (G ++ (c_24 ++ ct)))) :: H :: F) := Sat.perm hS_33 (by simp)
  have he : startB B i = (⟨B.deps, B.st.set i.toNat 3, B.att⟩, B.att.getD i.toNat 0, 0) := by unfold startB; rw [if_pos hc_4, if_pos (by rw [hsg]; omega)]
  exact ⟨_, by rw [he]; exact congrArg (fun z => Ending.returned (.tuple #[.int .i64 z, .int .i64 0])) (by dsimp only; omega), by rw [he]; exact ⟨_, _, _, ts, _, _, _, _, _, _, c, G, c_24, ct, rfl, hO, hD, hO_25, hOt, hdp⟩, hS_34⟩
theorem r_return {p : Nat} {B : BS} {K : Int} {M : Chunk} (hB : RefR p B M) (hW : BWf B K) (i : Int) (m : Int) (hK : K ≤ 4611686018427387904) (hS : Sat W w (M :: H :: F)) :
    Calls Tryz.prog 43 #[.pointer (some ⟨p, 0, none⟩), .int .i64 i, .int .i64 m] w fun e w' => ∃ M' : Chunk, e = .returned (.int .i64 (heldC B i m)) ∧ RefR p (retB B i m) M' ∧ Sat W w' (M' :: H :: F) := by
  refine callsA 30 Tryz.func43 rfl ?_
  refine seqE <| regionE <| pu1 <| nilO <| thenK_n <| seqE <| seqE <| regionE <| pu3 ?_
  refine cX Tryz.call68 (r_held hB hW i m (Sat.flat1 hS)) ?_
  rintro _ w_1 ⟨rfl, hS_2⟩
  have hS_3 := Sat.unflat1 hS_2
  refine pu1 <| nilO <| thenK_n <| seqE <| regionE <| pu2 <| nilO <| thenK_n <| ?_
  refine cN (heldC B i m) 0 (fun hc_4 => ?_) (fun hc_4 => ?_)
  rotate_left
  · refine seqE <| regionE <| pu2 <| nilO <| thenK_n <| retE <| thenK_r <| retT [.int .i64 (heldC B i m)] <| ?_
    have hS_38 := ((hS_3.pick 1 rfl).pick 1 rfl)
    have hr : retB B i m = B := by unfold retB; rw [if_neg hc_4]
    exact ⟨_, rfl, by rw [hr]; exact hB, hS_38⟩
  refine skipE <| thenK_n <| seqE ?_
  have hz0 := hc_4; obtain ⟨hin, hst3, hatt⟩ := heldC_zero hz0
  have hS_5 := ((hS_3.pick 1 rfl).pick 1 rfl)
  obtain ⟨a, n, k, ts, sa, sn, sk, ta, tn, tk, c, G, cs, ct, rfl, hO, hD, hOs, hOt, hdp⟩ := hB
  have hS_6 : Sat W _ ([(p, .cells #[.slice a n k, .slice sa sn sk, .slice ta tn tk] 136 (0, 0))] :: c :: G :: cs :: ct :: H :: F) := Sat.perm hS_5 (by simp)
  have hlo := hO.le; have hln := hO.len; have hls := hOs.le; have hlns := hOs.len; have hlt := hOt.le; have hlnt := hOt.len; have hld := congrArg List.length hdp; rw [List.length_map] at hld; have hw1 := hW.ls; have hw2 := hW.la; have hw3 := hW.n0
  have hib : 0 ≤ i ∧ i < ((B.deps.length : Nat) : Int) := hin; have hsg := stAt_nat B.st hib.1; have hab := hW.att _ (getD_mem (q := i.toNat) (s := B.att) (by omega))
  refine regionE <| pu3 ?_
  refine sL hS_6 0 1 (.slice sa sn sk) (Tryz.isAgg22 _) ?_
  refine pu1 ?_
  refine sIdxO hOs i (i).toNat Tryz.runUnderlying22 Tryz.sizeOf3 ?_
  intro x_7 b_8 o_9 hx_10 hp_11 hq_12
  have hg_13 : B.st.getD i.toNat 0 = x_7 := by rw [List.getD_eq_getElem?_getD, hx_10]; rfl
  refine sStF hS_6 hOs hq_12 3 (i).toNat 0 x_7 2 hx_10 (.int .i64 2) [.int .i64 2] Tryz.sizeOf3 ?_
  intro w_14 c_16 hO_17 hS_15
  refine nilO <| thenK_n <| seqE <| regionE <| pu3 ?_
  refine sL hS_15 0 2 (.slice ta tn tk) (Tryz.isAgg22 _) ?_
  refine pu1 ?_
  refine sIdxO hOt i (i).toNat Tryz.runUnderlying22 Tryz.sizeOf3 ?_
  intro x_18 b_19 o_20 hx_21 hp_22 hq_23
  have hg_24 : B.att.getD i.toNat 0 = x_18 := by rw [List.getD_eq_getElem?_getD, hx_21]; rfl
  refine sLp hS_15 (hp_22.up 4 rfl) 0 (.int .i64 x_18) (Tryz.isAgg3 _) ?_
  refine sAdd x_18 1 ?_
  refine sIdxO hOt i (i).toNat Tryz.runUnderlying22 Tryz.sizeOf3 ?_
  intro x_25 b_26 o_27 hx_28 hp_29 hq_30
  obtain rfl : x_18 = x_25 := Option.some.inj (hx_21.symm.trans hx_28)
  have hg_31 : B.att.getD i.toNat 0 = x_18 := by rw [List.getD_eq_getElem?_getD, hx_28]; rfl
  refine sStF hS_15 hOt hq_30 4 (i).toNat 0 x_18 (x_18 + 1) hx_28 (.int .i64 (x_18 + 1)) [.int .i64 (x_18 + 1)] Tryz.sizeOf3 ?_
  intro w_32 c_34 hO_35 hS_33
  refine nilO <| thenK_n <| seqE <| regionE <| pu1 <| nilO <| thenK_n <| retE <| retT [.int .i64 0] <| ?_
  have hS_36 := ((((((hS_33.pick 5 rfl).pick 5 rfl).pick 5 rfl).pick 5 rfl).pick 5 rfl).pick 5 rfl)
  have hS_37 : Sat W _ (([(p, .cells #[.slice a n k, .slice sa sn sk, .slice ta tn tk] 136 (0, 0))] ++ (c ++ (G ++ (c_16 ++ c_34)))) :: H :: F) := Sat.perm hS_36 (by simp)
  have hr : retB B i m = ⟨B.deps, B.st.set i.toNat 2, B.att.set i.toNat (x_18 + 1)⟩ := by unfold retB; rw [if_pos hc_4, show m = x_18 by omega]
  exact ⟨_, by rw [hc_4]; rfl, by rw [hr]; exact ⟨_, _, _, ts, _, _, _, _, _, _, c, G, c_16, c_34, rfl, hO, hD, hO_17, hO_35, hdp⟩, hS_37⟩

theorem open_step {s d : List Int} {j : Nat} {x : Int} (h : openB s (d.take j) = false) (hx : d[j]? = some x) (h4 : stAt s x = 4) : openB s (d.take (j + 1)) = false := by
  unfold openB at *
  rw [take_succ_at hx, List.any_append, h]; simp [h4]
theorem r_open {p : Nat} {a sa ta : Option Addr} {n k sn sk tn tk : Nat} {ts : List Task} {ss : List Int} {c G cs : Chunk} (hO : OwnT encTask 49 9 a n k ts c) (hD : ∀ z ∈ ts, Task.Ok [G] z) (hOs : OwnT encI 3 1 sa sn sk ss cs) {i : Nat} {t : Task} (ht : ts[i]? = some t) (hA : ascFrom i (-1) t.deps.l = true) (hns : n ≤ sn) (hS : Sat W w ([(p, .cells #[.slice a n k, .slice sa sn sk, .slice ta tn tk] 136 (0, 0))] :: c :: G :: cs :: F)) :
    Calls Tryz.prog 100 #[.pointer (some ⟨p, 0, none⟩), .int .i64 ((i : Nat) : Int)] w fun e w' => e = .returned (.bool (openB ss t.deps.l)) ∧ Sat W w' ([(p, .cells #[.slice a n k, .slice sa sn sk, .slice ta tn tk] 136 (0, 0))] :: c :: G :: cs :: F) := by
  have hlo := hO.le; have hln := hO.len; have hls := hOs.le; have hlns := hOs.len; have hil : i < ts.length := (List.getElem?_eq_some_iff.1 ht).1; have hdl := (hD t (List.mem_of_getElem? ht)).deps.len; have hdk := (hD t (List.mem_of_getElem? ht)).deps.le
  refine callsA 37 Tryz.func100 rfl ?_
  refine seqE <| regionE <| pu1 <| nilO <| thenK_n <| seqE <| seqE <| regionE <| pu1 <| nilO <| thenK_n <| blockE ?_
  refine loopA (γ := Nat) (fun j => [(0, .pointer (some ⟨p, 0, none⟩)), (1, .int .i64 ((i : Nat) : Int)), (5, .int .i64 ((j : Nat) : Int))]) (fun j w => Sat W w ([(p, .cells #[.slice a n k, .slice sa sn sk, .slice ta tn tk] 136 (0, 0))] :: c :: G :: cs :: F) ∧ j ≤ t.deps.n ∧ (openB ss (t.deps.l.take j) = false)) (fun j => t.deps.n - j) 0 ⟨hS, by omega, by simp [openB]⟩ ?_
  rintro j ρ w_1 ⟨hS_2, hj, hop⟩
  refine seqE <| seqE <| regionE <| pu4 ?_
  refine sL hS_2 0 0 (.slice a n k) (Tryz.isAgg45 _) ?_
  refine pu1 ?_
  refine sIdxO hO ((i : Nat) : Int) i Tryz.runUnderlying45 Tryz.sizeOf49 ?_
  intro x_3 b_4 o_5 hx_6 hp_7 hq_8
  obtain rfl : t = x_3 := Option.some.inj (ht.symm.trans hx_6)
  refine pu1 ?_
  refine sLp hS_2 (hp_7.up 1 rfl) 6 (.slice t.deps.a t.deps.n t.deps.k) (Tryz.isAgg22 _) ?_
  refine pu2 <| nilO <| thenK_n <| ?_
  refine cD (((j : Nat) : Int) < ((t.deps.n : Nat) : Int)) (fun hc_9 => ?_) (fun hc_9 => ?_)
  rotate_left
  · refine exitE <| thenK_x <| thenK_x <| blockK_x <| thenK_n <| seqE <| regionE <| pu1 <| nilO <| thenK_n <| retE <| retT [.bool false] <| ?_
    have hS_34 := ((((hS_2.pick 3 rfl).pick 3 rfl).pick 3 rfl).pick 3 rfl)
    rw [List.take_of_length_le (by omega)] at hop
    exact ⟨by rw [hop]; rfl, hS_34⟩
  refine skipE <| thenK_n <| seqE <| blockE <| seqE ?_
  obtain ⟨x_10, b_11, o_12, hx_13, hp_14, hq_15, ha_16⟩ := OwnT.elem hO ((i : Nat) : Int)
  rw [Int.toNat_natCast] at hx_13 hp_14 hq_15
  obtain rfl : t = x_10 := Option.some.inj (ht.symm.trans hx_13)
  obtain ⟨x_17, b_18, o_19, hx_20, hp_21, hq_22⟩ := RdT.elem (hD t (List.mem_of_getElem? hx_13)).deps ((j : Nat) : Int)
  rw [Int.toNat_natCast] at hx_20
  have hdb := asc_mem hA x_17 (List.mem_of_getElem? hx_20)
  obtain ⟨x_23, b_24, o_25, hx_26, hp_27, hq_28, ha_29⟩ := OwnT.elem hOs x_17
  refine drawE [] [(3, ⟨p, 1, none⟩, .slice sa sn sk), (7, ⟨p, 0, none⟩, .slice a n k), (11, ⟨b_11, o_12 + i * 9 + 6, none⟩, .slice t.deps.a t.deps.n t.deps.k), (14, ⟨b_18, o_19, none⟩, .int .i64 x_17), (16, ⟨b_24, o_25 + (x_17).toNat * 1, none⟩, .int .i64 x_23)] [(true, [0, 1, 2, 4, 5, 6, 8, 12]), (true, [3]), (true, [7]), (true, [9]), (true, [10]), (true, [11]), (true, [13]), (true, [14]), (true, [15]), (true, [16]), (true, [17])] rfl (by kernel_rfl) ⟨.inr (hS_2.cell 0 rfl rfl), .inr (hS_2.cell 0 rfl rfl), .inr ((hp_14.up 1 rfl).cell hS_2 (k := 6) rfl), .inr ((hp_21.up 2 rfl).cell hS_2 (k := 0) rfl), .inr ((hp_27.up 3 rfl).cell hS_2 (k := 0) rfl), trivial⟩ ?_
  have hS_30 := hS_2.drew
  refine wU [0, 1, 2, 4, 5, 6, 8, 12] ?_
  refine wLd (.slice sa sn sk) 0 Tryz.isAgg22 ?_
  refine wLd (.slice a n k) 1 Tryz.isAgg45 ?_
  refine wY (.pointer (some ⟨b_11, o_12 + i * 9, none⟩)) rfl (fun w _ => Y_idx (a := a) (i := ((i : Nat) : Int)) (len := n) (cap := k) rfl Tryz.runUnderlying45 Tryz.sizeOf49 (by kernel_rfl) (by kernel_rfl) hq_15) ?_
  refine wU [10] ?_
  refine wLd (.slice t.deps.a t.deps.n t.deps.k) 2 Tryz.isAgg22 ?_
  refine wY (.pointer (some ⟨b_18, o_19, none⟩)) rfl (fun w _ => Y_idx (a := t.deps.a) (i := ((j : Nat) : Int)) (len := t.deps.n) (cap := t.deps.k) rfl Tryz.runUnderlying22 Tryz.sizeOf3 (by kernel_rfl) (by kernel_rfl) hq_22) ?_
  refine wLd (.int .i64 x_17) 3 Tryz.isAgg3 ?_
  refine wY (.pointer (some ⟨b_24, o_25 + (x_17).toNat * 1, none⟩)) rfl (fun w _ => Y_idx (a := sa) (i := x_17) (len := sn) (cap := sk) rfl Tryz.runUnderlying22 Tryz.sizeOf3 (by kernel_rfl) (by kernel_rfl) hq_28) ?_
  refine wLd (.int .i64 x_23) 4 Tryz.isAgg3 ?_
  refine wU [17] ?_
  refine wN ?_
  refine thenK_n <| ?_
  refine cN x_23 4 (fun hc_31 => ?_) (fun hc_31 => ?_)
  · refine skipE <| blockK_n <| thenK_n <| regionE <| pu1 ?_
    refine sAdd ((j : Nat) : Int) 1 ?_
    refine pu1 <| nilO <| thenK_n <| ?_
    have hS_32 := ((((hS_30.pick 3 rfl).pick 3 rfl).pick 3 rfl).pick 3 rfl)
    exact ⟨j + 1, by first | omega | (dsimp only; omega), alA, hS_32, by omega, (open_step hop hx_20 (by rw [stAt_nat _ (by omega), List.getD_eq_getElem?_getD, hx_26]; simpa using (by omega : x_23 = 4)))⟩
  refine seqE <| regionE <| pu1 <| nilO <| thenK_n <| retE <| blockK_r <| thenK_r <| thenK_r <| blockK_r <| thenK_r <| retT [.bool true] <| ?_
  have hS_33 := ((((hS_30.pick 3 rfl).pick 3 rfl).pick 3 rfl).pick 3 rfl)
  exact ⟨by rw [show openB ss t.deps.l = true from List.any_eq_true.2 ⟨x_17, List.mem_of_getElem? hx_20, by rw [decide_eq_true_eq, stAt_nat _ (by omega), List.getD_eq_getElem?_getD, hx_26]; simpa using (by omega : ¬ x_23 = 4)⟩]; rfl, hS_33⟩

/-- The states when the first k tasks have been looked at. -/
def stK (s : List Int) (D : List (List Int)) (k : Nat) : List Int := (List.range D.length).map fun q => if q < k ∧ condB s D q = true then 2 else s.getD q 0
theorem stK_zero {s : List Int} {D : List (List Int)} (h : s.length = D.length) : stK s D 0 = s := by
  unfold stK
  apply List.ext_getElem?
  intro q
  by_cases hq : q < D.length
  · rw [map_range_at hq, if_neg (by omega), List.getD_eq_getElem?_getD]
    have : q < s.length := by omega
    simp only [List.getElem?_eq_getElem this, Option.getD_some]
  · rw [List.getElem?_eq_none (by simp; omega), List.getElem?_eq_none (by omega)]
theorem stK_all {s : List Int} {D : List (List Int)} : stK s D D.length = markB s D := by
  unfold stK markB
  apply map_range
  intro q hq
  by_cases hc : condB s D q = true
  · rw [if_pos ⟨hq, hc⟩, if_pos hc]
  · rw [if_neg (fun h => hc h.2), if_neg hc]
theorem stK_four {s : List Int} {D : List (List Int)} {k : Nat} (hl : s.length = D.length) (x : Int) : stAt (stK s D k) x ≠ 4 ↔ stAt s x ≠ 4 := by
  unfold stAt
  by_cases h : 0 ≤ x
  · rw [if_pos h, if_pos h]
    by_cases h2 : x.toNat < D.length
    · unfold stK
      rw [getD_range h2]
      split
      · rename_i h3
        have h4 := h3.2
        simp only [condB, Bool.and_eq_true, decide_eq_true_eq] at h4
        rw [h4.1]; simp
      · exact Iff.rfl
    · have e1 : (stK s D k).getD x.toNat 0 = 0 := by rw [List.getD_eq_getElem?_getD, List.getElem?_eq_none (by simp [stK]; omega)]; rfl
      have e2 : s.getD x.toNat 0 = 0 := by rw [List.getD_eq_getElem?_getD, List.getElem?_eq_none (by omega)]; rfl
      rw [e1, e2]
  · rw [if_neg h, if_neg h]
theorem stK_at {s : List Int} {D : List (List Int)} {k : Nat} (h : k < D.length) : (stK s D k)[k]? = some (s.getD k 0) := by unfold stK; rw [map_range_at h, if_neg (by omega)]
theorem stK_y {s : List Int} {D : List (List Int)} {k : Nat} (h : condB s D k = true) : (stK s D k).set k 2 = stK s D (k + 1) := by
  unfold stK
  rw [range_set]
  apply map_range
  intro q hq
  by_cases e : q = k
  · subst e; rw [if_pos rfl, if_pos ⟨by omega, h⟩]
  · rw [if_neg e]
    by_cases h2 : q < k ∧ condB s D q = true
    · rw [if_pos h2, if_pos ⟨by omega, h2.2⟩]
    · rw [if_neg h2, if_neg (fun h3 => h2 ⟨by omega, h3.2⟩)]
theorem stK_n {s : List Int} {D : List (List Int)} {k : Nat} (h : condB s D k ≠ true) : stK s D k = stK s D (k + 1) := by
  unfold stK
  apply map_range
  intro q hq
  by_cases h2 : q < k ∧ condB s D q = true
  · rw [if_pos h2, if_pos ⟨by omega, h2.2⟩]
  · rw [if_neg h2, if_neg (fun h3 => h2 ⟨by
      by_cases e : q = k
      · subst e; exact absurd h3.2 h
      · omega, h3.2⟩)]
def rdyK (s : List Int) (D : List (List Int)) (k : Nat) : List Int := ((List.range k).filter (condB s D)).map fun (q : Nat) => (q : Int)
theorem rdyK_y {s : List Int} {D : List (List Int)} {k : Nat} (h : condB s D k = true) : rdyK s D k ++ [((k : Nat) : Int)] = rdyK s D (k + 1) := by
  unfold rdyK; rw [List.range_succ, List.filter_append, List.map_append]; simp [h]
theorem rdyK_n {s : List Int} {D : List (List Int)} {k : Nat} (h : condB s D k ≠ true) : rdyK s D k = rdyK s D (k + 1) := by
  unfold rdyK; rw [List.range_succ, List.filter_append, List.map_append]; simp [h]
theorem rdyK_len {s : List Int} {D : List (List Int)} {k : Nat} : (rdyK s D k).length ≤ k := by
  unfold rdyK; rw [List.length_map]; have := List.length_filter_le (condB s D) (List.range k); simpa using this

theorem cond_y {B : BS} {K x : Int} {i j : Nat} {d : List Int} (hW : BWf B K) (hi : i < B.deps.length) (hj : j < B.deps.length) (hx : (stK (B.st.set i 4) B.deps j)[j]? = some x) (hd : B.deps[j]? = some d) (h1 : x = 1) (h2 : openB (stK (B.st.set i 4) B.deps j) d = false) : condB (B.st.set i 4) B.deps j = true := by
  rw [stK_at hj] at hx
  rw [open_same (fun y _ => stK_four (by rw [List.length_set]; exact hW.ls) y)] at h2
  unfold condB
  have hdk : B.deps.getD j [] = d := by rw [List.getD_eq_getElem?_getD, hd]; rfl
  rw [hdk, h2, Option.some.inj hx, h1]; rfl
theorem cond_n1 {B : BS} {K : Int} {i j : Nat} {d : List Int} (hW : BWf B K) (hi : i < B.deps.length) (hj : j < B.deps.length) (hd : B.deps[j]? = some d) (h2 : openB (stK (B.st.set i 4) B.deps j) d = true) : condB (B.st.set i 4) B.deps j ≠ true := by
  rw [open_same (fun y _ => stK_four (by rw [List.length_set]; exact hW.ls) y)] at h2
  unfold condB
  have hdk : B.deps.getD j [] = d := by rw [List.getD_eq_getElem?_getD, hd]; rfl
  rw [hdk, h2]; simp
theorem cond_n2 {s : List Int} {D : List (List Int)} {x : Int} {j : Nat} (hj : j < D.length) (hx : (stK s D j)[j]? = some x) (h1 : x ≠ 1) : condB s D j ≠ true := by
  rw [stK_at hj] at hx
  unfold condB
  rw [Option.some.inj hx, decide_eq_false h1]; simp
theorem r_commit {p : Nat} {B : BS} {K : Int} {M : Chunk} (hB : RefR p B M) (hW : BWf B K) (i : Int) (m : Int) (hS : Sat W w (M :: H :: F)) :
    Calls Tryz.prog 73 #[.pointer (some ⟨p, 0, none⟩), .int .i64 i, .int .i64 m] w fun e w' => ∃ (az : Option Addr) (nz kz : Nat) (Z M' : Chunk), e = .returned (.tuple #[.slice az nz kz, .int .i64 (heldC B i m)]) ∧ RdT encI 1 [Z] az nz kz (comB B i m).2 ∧ RefR p (comB B i m).1 M' ∧ Sat W w' (Z :: M' :: H :: F) := by
  refine callsA 58 Tryz.func73 rfl ?_
  refine seqE <| regionE <| pu2 <| nilO <| thenK_n <| seqE <| seqE <| regionE <| pu3 ?_
  refine cX Tryz.call68 (r_held hB hW i m (Sat.flat1 hS)) ?_
  rintro _ w_1 ⟨rfl, hS_2⟩
  have hS_3 := Sat.unflat1 hS_2
  refine pu1 <| nilO <| thenK_n <| seqE <| regionE <| pu2 <| nilO <| thenK_n <| ?_
  refine cN (heldC B i m) 0 (fun hc_4 => ?_) (fun hc_4 => ?_)
  rotate_left
  · refine seqE <| regionE <| pu3 <| nilO <| thenK_n <| retE <| thenK_r <| retT [.slice none 0 0, .int .i64 (heldC B i m)] <| ?_
    have hS_63 := ((hS_3.pick 1 rfl).pick 1 rfl)
    have hS_64 := Sat.nilc hS_63
    have hr : comB B i m = (B, []) := by unfold comB; rw [if_neg hc_4]
    exact ⟨_, _, _, [], _, rfl, by rw [hr]; exact RdT.nil (enc := encI) (sz := 1) (fun _ => rfl) _, by rw [hr]; exact hB, hS_64⟩
  refine skipE <| thenK_n <| seqE ?_
  have hz0 := hc_4; obtain ⟨hin, hst3, hatt⟩ := heldC_zero hz0
  have hS_5 := ((hS_3.pick 1 rfl).pick 1 rfl)
  obtain ⟨a, n, k, ts, sa, sn, sk, ta, tn, tk, c, G, cs, ct, rfl, hO, hD, hOs, hOt, hdp⟩ := hB
  have hS_6 : Sat W _ ([(p, .cells #[.slice a n k, .slice sa sn sk, .slice ta tn tk] 136 (0, 0))] :: c :: G :: cs :: ct :: H :: F) := Sat.perm hS_5 (by simp)
  have hlo := hO.le; have hln := hO.len; have hls := hOs.le; have hlns := hOs.len; have hlt := hOt.le; have hlnt := hOt.len; have hld := congrArg List.length hdp; rw [List.length_map] at hld; have hw1 := hW.ls; have hw2 := hW.la; have hw3 := hW.n0
  have hib : 0 ≤ i ∧ i < ((B.deps.length : Nat) : Int) := hin; have hsg := stAt_nat B.st hib.1; have hab := hW.att _ (getD_mem (q := i.toNat) (s := B.att) (by omega))
  refine regionE <| pu3 ?_
  refine sL hS_6 0 1 (.slice sa sn sk) (Tryz.isAgg22 _) ?_
  refine pu1 ?_
  refine sIdxO hOs i (i).toNat Tryz.runUnderlying22 Tryz.sizeOf3 ?_
  intro x_7 b_8 o_9 hx_10 hp_11 hq_12
  refine sStF hS_6 hOs hq_12 3 (i).toNat 0 x_7 4 hx_10 (.int .i64 4) [.int .i64 4] Tryz.sizeOf3 ?_
  intro w_13 c_15 hO_16 hS_14
  refine nilO <| thenK_n <| seqE <| regionE <| pu1 <| nilO <| thenK_n <| seqE <| seqE <| regionE <| pu1 <| nilO <| thenK_n <| blockE ?_
  have hS_17 := ((((((hS_14.pick 5 rfl).pick 5 rfl).pick 5 rfl).pick 5 rfl).pick 5 rfl).pick 5 rfl)
  have hS_18 := Sat.nilc hS_17
  refine loopA (γ := Nat × Chunk × (Option Addr) × Nat × Nat × Chunk) (fun ⟨j, cs1, az, nz, kz, cz⟩ => [(0, .pointer (some ⟨p, 0, none⟩)), (10, .int .i64 ((j : Nat) : Int)), (9, .slice az nz kz)]) (fun ⟨j, cs1, az, nz, kz, cz⟩ w => Sat W w (cz :: [(p, .cells #[.slice a n k, .slice sa sn sk, .slice ta tn tk] 136 (0, 0))] :: c :: G :: cs1 :: ct :: H :: F) ∧ j ≤ n ∧ OwnT encI 3 1 sa sn sk (stK (B.st.set i.toNat 4) B.deps j) cs1 ∧ OwnT encI 3 1 az nz kz (rdyK (B.st.set i.toNat 4) B.deps j) cz) (fun ⟨j, cs1, az, nz, kz, cz⟩ => n - j) (0, c_15, none, 0, 0, []) ⟨hS_18, by omega, (by rw [stK_zero (by rw [List.length_set]; omega)]; exact hO_16), OwnT.nil (fun _ => rfl)⟩ ?_
  rintro ⟨j, cs1, az, nz, kz, cz⟩ ρ w_19 ⟨hS_20, hj, hOs1, hOz⟩
  have hls1 := hOs1.len; have hlz := hOz.le; have hlnz := hOz.len; have hlzk := rdyK_len (s := (B.st.set i.toNat 4)) (D := B.deps) (k := j); have hlsk : (stK (B.st.set i.toNat 4) B.deps j).length = B.deps.length := by simp [stK]
  refine seqE <| seqE <| regionE <| pu4 ?_
  refine sL hS_20 1 0 (.slice a n k) (Tryz.isAgg45 _) ?_
  refine pu2 <| nilO <| thenK_n <| ?_
  refine cD (((j : Nat) : Int) < ((n : Nat) : Int)) (fun hc_21 => ?_) (fun hc_21 => ?_)
  rotate_left
  · refine exitE <| thenK_x <| thenK_x <| blockK_x <| thenK_n <| seqE <| regionE <| pu3 <| nilO <| thenK_n <| retE <| retT [.slice az nz kz, .int .i64 0] <| ?_
    have hS_61 := (((((((hS_20.pick 6 rfl).pick 6 rfl).pick 6 rfl).pick 6 rfl).pick 6 rfl).pick 6 rfl).pick 6 rfl)
    have hS_62 : Sat W _ (cz :: ([(p, .cells #[.slice a n k, .slice sa sn sk, .slice ta tn tk] 136 (0, 0))] ++ (c ++ (G ++ (cs1 ++ ct)))) :: H :: F) := Sat.perm hS_61 (by simp)
    obtain rfl : j = B.deps.length := by omega
    have hr : comB B i m = (⟨B.deps, markB (B.st.set i.toNat 4) B.deps, B.att⟩, rdyB (B.st.set i.toNat 4) B.deps) := by unfold comB; rw [if_pos hz0]
    rw [stK_all] at hOs1
    exact ⟨_, _, _, cz, _, by rw [hz0]; rfl, by rw [hr]; exact hOz.rdAt (cs := [cz]) 0 rfl, by rw [hr]; exact ⟨_, _, _, ts, _, _, _, _, _, _, c, G, cs1, ct, rfl, hO, hD, hOs1, hOt, hdp⟩, hS_62⟩
  refine skipE <| thenK_n <| seqE <| blockE <| seqE <| regionE <| pu3 ?_
  refine sL hS_20 1 1 (.slice sa sn sk) (Tryz.isAgg22 _) ?_
  refine pu1 ?_
  refine sIdxO hOs1 ((j : Nat) : Int) j Tryz.runUnderlying22 Tryz.sizeOf3 ?_
  intro x_22 b_23 o_24 hx_25 hp_26 hq_27
  refine sLp hS_20 (hp_26.up 4 rfl) 0 (.int .i64 x_22) (Tryz.isAgg3 _) ?_
  refine pu2 ?_
  refine sE 41 x_22 1 (fun hc_28 => ?_) (fun hc_28 => ?_)
  rotate_left
  · refine pu5 <| nilO <| thenK_n <| cFf <| skipE <| blockK_n <| thenK_n <| regionE <| pu1 ?_
    refine sAdd ((j : Nat) : Int) 1 ?_
    refine pu1 <| nilO <| thenK_n <| ?_
    have hc_59 : condB (B.st.set i.toNat 4) B.deps j ≠ true := cond_n2 (by omega) hx_25 (by omega)
    have hS_60 := (((((((hS_20.pick 6 rfl).pick 6 rfl).pick 6 rfl).pick 6 rfl).pick 6 rfl).pick 6 rfl).pick 6 rfl)
    exact ⟨(j + 1, cs1, az, nz, kz, cz), by first | omega | (dsimp only; omega), alA, hS_60, by omega, (by rw [← stK_n hc_59]; exact hOs1), (by rw [← rdyK_n hc_59]; exact hOz)⟩
  refine pu2 <| gY ?_
  have hS_31 := ((((hS_20.pick 4 rfl).pick 4 rfl).pick 4 rfl).pick 4 rfl)
  obtain ⟨t_32, ht_33⟩ : ∃ t, ts[j]? = some t := ⟨ts[j]'(by omega), List.getElem?_eq_getElem _⟩
  have hd_34 : B.deps[j]? = some t_32.deps.l := by rw [← hdp]; simp [ht_33]
  refine cX Tryz.call100 (r_open hO hD hOs1 ht_33 (hW.asc _ _ hd_34) (by omega) hS_31) ?_
  rintro _ w_29 ⟨rfl, hS_30⟩
  refine pu2 <| nilO <| thenK_n <| ?_
  refine cBn (openB (stK (B.st.set i.toNat 4) B.deps j) t_32.deps.l) (fun hc_35 => ?_) (fun hc_35 => ?_)
  · refine skipE <| blockK_n <| thenK_n <| regionE <| pu1 ?_
    refine sAdd ((j : Nat) : Int) 1 ?_
    refine pu1 <| nilO <| thenK_n <| ?_
    have hc_36 : condB (B.st.set i.toNat 4) B.deps j ≠ true := cond_n1 hW (by omega) (by omega) hd_34 (by simpa using hc_35)
    have hS_37 := (((((((hS_30.pick 6 rfl).pick 6 rfl).pick 5 rfl).pick 5 rfl).pick 5 rfl).pick 5 rfl).pick 6 rfl)
    exact ⟨(j + 1, cs1, az, nz, kz, cz), by first | omega | (dsimp only; omega), alA, hS_37, by omega, (by rw [← stK_n hc_36]; exact hOs1), (by rw [← rdyK_n hc_36]; exact hOz)⟩
  refine seqE <| regionE <| pu3 ?_
  refine sL hS_30 0 1 (.slice sa sn sk) (Tryz.isAgg22 _) ?_
  refine pu1 ?_
  refine sIdxO hOs1 ((j : Nat) : Int) j Tryz.runUnderlying22 Tryz.sizeOf3 ?_
  intro x_38 b_39 o_40 hx_41 hp_42 hq_43
  obtain rfl : x_22 = x_38 := Option.some.inj (hx_25.symm.trans hx_41)
  refine sStF hS_30 hOs1 hq_43 3 j 0 x_22 2 hx_41 (.int .i64 2) [.int .i64 2] Tryz.sizeOf3 ?_
  intro w_44 c_46 hO_47 hS_45
  refine nilO <| thenK_n <| regionE <| pu2 ?_
  refine sBS hS_45 #[.int .i64 ((j : Nat) : Int)] Tryz.runUnderlying22 Tryz.sizeOf3 Tryz.zeroValue3 ?_
  intro b_48 w_49 hS_50
  refine sApp (nb := 8) hS_50 hOz 5 (RdT.blk (enc := encI) (sz := 1) (xs := [((j : Nat) : Int)]) (fun _ => rfl) 1 0 rfl rfl rfl (by omega)) Tryz.underlying22 (i := Tryz.t3) (by kernel_rfl) (fun _ => rfl) ?_
  intro a_51 cap_52 c_53 w_54 hO_55 hS_56
  refine pu1 <| nilO <| blockK_n <| thenK_n <| regionE <| pu1 ?_
  refine sAdd ((j : Nat) : Int) 1 ?_
  refine pu1 <| nilO <| thenK_n <| ?_
  have hc_57 : condB (B.st.set i.toNat 4) B.deps j = true := cond_y hW (by omega) (by omega) hx_25 hd_34 (by omega) (by simpa using hc_35)
  have hS_58 := ((((((((hS_56.pick 7 rfl).pick 7 rfl).pick 6 rfl).pick 6 rfl).pick 6 rfl).pick 6 rfl).pick 7 rfl).dropAt 7 rfl)
  exact ⟨(j + 1, c_46, a_51, (nz + 1), cap_52, c_53), by first | omega | (dsimp only; omega), alA, hS_58, by omega, (by rw [← stK_y hc_57]; exact hO_47), (by rw [← rdyK_y hc_57]; exact hO_55)⟩
end Go.Proofs.YtimkhljglpookaaGreat
