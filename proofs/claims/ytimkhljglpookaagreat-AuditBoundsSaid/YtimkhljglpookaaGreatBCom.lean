import Derived.Test.YtimkhljglpookaaGreatBd4
import Derived.Test.YtimkhljglpookaaGreatBMeth
import Derived.Test.YtimkhljglpookaaGreatSort
namespace Go.Proofs.YtimkhljglpookaaGreat
open Go Go.E
set_option linter.unusedVariables false
set_option linter.unusedSimpArgs false
set_option linter.unnecessarySimpa false
set_option maxRecDepth 100000
set_option maxHeartbeats 2000000
variable {W w : World} {H : Chunk} {F : List Chunk}
theorem b_ready {p : Nat} {B : BS} {K : Int} {M : Chunk} (hB : BoardR p B M) (hW : BWf B K)  (hS : Sat W w (M :: H :: F)) :
    Calls Tryz.prog 92 #[.pointer (some ⟨p, 0, none⟩)] w fun e w' => ∃ (az : Option Addr) (nz kz : Nat) (Z M' : Chunk), e = .returned (.slice az nz kz) ∧ RdT encI 1 [Z] az nz kz (idxOf 2 0 B.st) ∧ BoardR p B M' ∧ Sat W w' (Z :: M' :: H :: F) := by
  obtain ⟨a, n, k, es, c, G, rfl, hO, hD, hE⟩ := hB
  have hS : Sat W _ ([(p, .cells #[.slice a n k, .int .i64 (doneOf B)] 164 (0, 0))] :: c :: G :: H :: F) := Sat.perm hS (by simp)
  have hlo := hO.le; have hln := hO.len; have hel := entsOf_len hE; have hw1 := hW.ls; have hw2 := hW.la; have hw3 := hW.n0
  refine callsA 27 Tryz.func92 rfl ?_
  refine seqE <| regionE <| pu1 <| nilO <| thenK_n <| seqE <| seqE <| regionE <| pu2 <| nilO <| thenK_n <| cFf <| skipE <| thenK_n <| seqE <| regionE <| pu1 <| nilO <| thenK_n <| seqE <| seqE <| regionE <| pu3 ?_
  refine sL hS 0 0 (.slice a n k) (Tryz.isAgg162 _) ?_
  refine pu2 <| nilO <| thenK_n <| blockE ?_
  have hS_1 := Sat.nilc hS
  have hO_2 := OwnT.nil (enc := encI) (E := 3) (sz := 1) (fun _ => rfl)
  refine loopA (γ := Nat × (List Int) × (Option Addr) × Nat × Nat × Chunk) (fun ⟨i, zs, azs, nzs, kzs, czs⟩ => [(11, .slice a n k), (12, .int .i64 ((n : Nat) : Int)), (13, .int .i64 ((i : Nat) : Int)), (3, .slice azs nzs kzs)]) (fun ⟨i, zs, azs, nzs, kzs, czs⟩ w => Sat W w (czs :: [(p, .cells #[.slice a n k, .int .i64 (doneOf B)] 164 (0, 0))] :: c :: G :: H :: F) ∧ i ≤ n ∧ (zs = idxOf 2 0 (B.st.take i)) ∧ (zs.length ≤ i) ∧ OwnT encI 3 1 azs nzs kzs zs czs) (fun ⟨i, zs, azs, nzs, kzs, czs⟩ => n - i) (0, [], none, 0, 0, []) ⟨hS_1, by omega, rfl, by simp, hO_2⟩ ?_
  rintro ⟨i, zs, azs, nzs, kzs, czs⟩ ρ w_3 ⟨hS_4, hi, hz, hzl, hOzs⟩
  have hn_zs := hOzs.len; have hl_zs := hOzs.le
  refine seqE <| regionE <| pu1 <| nilO <| thenK_n <| seqE ?_
  refine cD (((i : Nat) : Int) < ((n : Nat) : Int)) (fun hc_5 => ?_) (fun hc_5 => ?_)
  rotate_left
  · refine exitE <| thenK_x <| thenK_x <| blockK_x <| thenK_n <| seqE <| regionE <| pu2 <| nilO <| thenK_n <| retE <| retT [.slice azs nzs kzs] <| ?_
    have hS_29 := (((((hS_4.pick 4 rfl).pick 4 rfl).pick 4 rfl).pick 4 rfl).pick 4 rfl)
    have hS_30 : Sat W _ (czs :: ([(p, .cells #[.slice a n k, .int .i64 (doneOf B)] 164 (0, 0))] ++ (c ++ G)) :: H :: F) := Sat.perm hS_29 (by simp)
    have hzz : zs = idxOf 2 0 B.st := by rw [hz, List.take_of_length_le (by omega)]
    have hrd := (hOzs.rdAt (cs := [czs]) 0 rfl); rw [hzz] at hrd
    exact ⟨_, _, _, _, _, rfl, hrd, ⟨_, _, _, es, c, G, rfl, hO, hD, hE⟩, hS_30⟩
  refine skipE <| thenK_n <| seqE <| blockE <| seqE <| regionE <| pu1 ?_
  refine sIdxO hO ((i : Nat) : Int) i Tryz.runUnderlying162 Tryz.sizeOf167 ?_
  intro x_6 b_7 o_8 hx_9 hp_10 hq_11
  refine sLpA hS_4 (hp_10.up 2 rfl) 0 (encBEnt x_6) (Tryz.isAgg167 _) (Tryz.sizeOf167 _) ?_
  refine sAlloc hS_4 Tryz.zeroValue167 ?_
  intro b_12 w_13 hS_14
  refine pu1 ?_
  refine sT hS_14 0 0 (.agg (encBEnt x_6).toArray) (encBEnt x_6) (encBEnt x_6).toArray Tryz.sizeOf167 ?_
  intro w_15 hS_16
  refine nilO <| thenK_n <| seqE <| regionE <| pu1 ?_
  refine sL hS_16 0 0 (.int .i64 x_6.state) (Tryz.isAgg3 _) ?_
  refine pu1 <| nilO <| thenK_n <| ?_
  refine cE x_6.state 2 (fun hc_17 => ?_) (fun hc_17 => ?_)
  rotate_left
  · refine skipE <| blockK_n <| thenK_n <| regionE ?_
    refine sAdd ((i : Nat) : Int) 1 ?_
    refine pu1 <| nilO <| thenK_n <| ?_
    have hS_28 := ((((((hS_16.pick 5 rfl).pick 5 rfl).pick 5 rfl).pick 5 rfl).pick 5 rfl).dropAt 5 rfl)
    exact ⟨(i + 1, zs, azs, nzs, kzs, czs), by first | omega | (dsimp only; omega), alA, hS_28, by omega, (idx_n hz (by omega) (by have h := (entAt hE hx_9).2.1; omega)), (by first | omega | (simp; omega)), hOzs⟩
  refine regionE <| pu2 ?_
  refine sBS hS_16 #[.int .i64 ((i : Nat) : Int)] Tryz.runUnderlying22 Tryz.sizeOf3 Tryz.zeroValue3 ?_
  intro b_18 w_19 hS_20
  refine sApp (nb := 8) hS_20 hOzs 2 (RdT.blk (enc := encI) (sz := 1) (xs := [((i : Nat) : Int)]) (fun _ => rfl) 1 0 rfl rfl rfl (by omega)) Tryz.underlying22 (i := Tryz.t3) (by kernel_rfl) (fun _ => rfl) ?_
  intro a_21 cap_22 c_23 w_24 hO_25 hS_26
  refine pu1 <| nilO <| blockK_n <| thenK_n <| regionE ?_
  refine sAdd ((i : Nat) : Int) 1 ?_
  refine pu1 <| nilO <| thenK_n <| ?_
  have hS_27 := (((((((hS_26.pick 6 rfl).pick 6 rfl).pick 6 rfl).pick 6 rfl).pick 6 rfl).dropAt 5 rfl).dropAt 5 rfl)
  exact ⟨(i + 1, (zs ++ [((i : Nat) : Int)]), a_21, (nzs + 1), cap_22, c_23), by first | omega | (dsimp only; omega), alA, hS_27, by omega, (idx_y hz (by omega) (by have h := (entAt hE hx_9).2.1; omega)), (by first | omega | (simp; omega)), hO_25⟩

theorem com_start {es : List BEnt} {B : BS} {K : Int} {i : Nat} {x x' : BEnt} (hW : BWf B K) (h : es.map BEnt.v = entsOf B) (hx : es[i]? = some x) (h1 : x'.state = 4) (h2 : x'.attempt = x.attempt) (h3 : x'.pending = x.pending) (h4 : x'.next = x.next) :
    (es.set i x').map BEnt.v = (List.range B.deps.length).map (entC B (B.st.set i 4) ((nextOf 0 B.deps i).take 0)) := by
  obtain ⟨hi, e1, e2, e3, e4⟩ := entAt h hx
  have hls := hW.ls
  refine ents_set (f := entV B) h (fun q hq hne => ?_) (fun _ => ?_)
  · simp only [entV, entC, List.take_zero, List.not_mem_nil, if_false, getD_set]; rw [if_neg (by omega)]
  · simp only [BEnt.v, entC, List.take_zero, List.not_mem_nil, if_false, getD_set, h1, h2, h3, h4, e2, e3, e4]; rw [if_pos ⟨trivial, by omega⟩]
theorem pend_get {es : List BEnt} {B : BS} {K : Int} {i j : Nat} {z : Int} {y : BEnt} (hW : BWf B K) (hi : i < B.deps.length) (h3 : B.st.getD i 0 = 3)
    (h : es.map BEnt.v = (List.range B.deps.length).map (entC B (B.st.set i 4) ((nextOf 0 B.deps i).take j))) (hz : (nextOf 0 B.deps i)[j]? = some z) (hy : es[z.toNat]? = some y) : 0 ≤ y.pending - 1 ∧ y.pending ≤ 4096 := by
  have h1 := (com_step (y' := ⟨if y.pending - 1 = 0 then 2 else y.state, y.attempt, y.pending - 1, y.next⟩) hW hi h3 h hz hy rfl rfl rfl rfl).2
  obtain ⟨q, hzq, hq, hiq⟩ := nx_mem.1 (List.mem_of_getElem? hz)
  have hd : B.deps[z.toNat]? = some (B.deps.getD z.toNat []) := by simp [List.getD_eq_getElem?_getD, show z.toNat < B.deps.length by omega]
  have h4 := asc_len (by omega) (hW.asc _ _ hd)
  have h5 : pendOf (B.st.set i 4) (B.deps.getD z.toNat []) ≤ ((B.deps.getD z.toNat []).length : Nat) := by unfold pendOf; have := List.length_filter_le (fun x => decide (stAt (B.st.set i 4) x ≠ 4)) (B.deps.getD z.toNat []); omega
  have h6 : 0 ≤ pendOf (B.st.set i 4) (B.deps.getD z.toNat []) := by unfold pendOf; omega
  have := hW.n0
  omega
theorem b_commit {p : Nat} {B : BS} {K : Int} {M : Chunk} (hB : BoardR p B M) (hW : BWf B K) (i : Int) (m : Int) (hn12 : B.deps.length ≤ 12) (hS : Sat W w (M :: H :: F)) :
    Calls Tryz.prog 96 #[.pointer (some ⟨p, 0, none⟩), .int .i64 i, .int .i64 m] w fun e w' => ∃ (az : Option Addr) (nz kz : Nat) (Z M' : Chunk), e = .returned (.tuple #[.slice az nz kz, .int .i64 (heldC B i m)]) ∧ RdT encI 1 [Z] az nz kz ((comB B i m).2) ∧ BoardR p (comB B i m).1 M' ∧ Sat W w' (Z :: M' :: H :: F) := by
  obtain ⟨a, n, k, es, c, G, rfl, hO, hD, hE⟩ := hB
  have hS : Sat W _ ([(p, .cells #[.slice a n k, .int .i64 (doneOf B)] 164 (0, 0))] :: c :: G :: H :: F) := Sat.perm hS (by simp)
  have hlo := hO.le; have hln := hO.len; have hel := entsOf_len hE; have hw1 := hW.ls; have hw2 := hW.la; have hw3 := hW.n0
  refine callsA 72 Tryz.func96 rfl ?_
  refine seqE <| regionE <| pu2 <| nilO <| thenK_n <| seqE <| regionE <| pu3 ?_
  have hS_1 := ((hS.pick 1 rfl).pick 1 rfl)
  refine cX Tryz.call108 (b_held hO i m hS_1) ?_
  rintro _ w_2 ⟨hS_3, (⟨hn_9, rfl⟩ | ⟨hn_9, x_4, hx_7, hh_10, rfl⟩ | ⟨hn_9, x_4, b_5, o_6, rfl, hx_7, hq_8, hh_10⟩)⟩
  · refine pu5 <| nilO <| thenK_n <| seqE <| seqE <| regionE <| pu2 <| nilO <| thenK_n <| cTt <| seqE <| regionE <| pu3 <| nilO <| thenK_n <| retE <| thenK_r <| retT [.slice none 0 0, .int .i64 16] <| ?_
    have hS_11 := ((((hS_3.pick 3 rfl).pick 3 rfl).pick 3 rfl).pick 3 rfl)
    have hno : ¬ inB B i := by unfold inB; omega
    have he : heldC B i m = 16 := by unfold heldC; rw [if_neg hno]
    have hr : comB B i m = (B, []) := by unfold comB; rw [he, if_neg (by decide)]
    have hS_12 : Sat W _ (([] : Chunk) :: ([(p, .cells #[.slice a n k, .int .i64 (doneOf B)] 164 (0, 0))] ++ (c ++ G)) :: H :: F) := Sat.perm hS_11 (by simp)
    exact ⟨_, _, _, [], _, by rw [he]; rfl, by rw [hr]; exact RdT.nil (enc := encI) (sz := 1) (fun _ => rfl) _, by rw [hr]; exact ⟨_, _, _, es, c, G, rfl, hO, hD, hE⟩, hS_12⟩
  · refine pu5 <| nilO <| thenK_n <| seqE <| seqE <| regionE <| pu2 <| nilO <| thenK_n <| cTt <| seqE <| regionE <| pu3 <| nilO <| thenK_n <| retE <| thenK_r <| retT [.slice none 0 0, .int .i64 20] <| ?_
    have hS_13 := ((((hS_3.pick 3 rfl).pick 3 rfl).pick 3 rfl).pick 3 rfl)
    have hen := entAt hE hx_7
    have hin : inB B i := by unfold inB; omega
    have he : heldC B i m = 20 := by unfold heldC; rw [if_pos hin, if_neg (by rw [stAt_nat _ (by omega)]; omega)]
    have hr : comB B i m = (B, []) := by unfold comB; rw [he, if_neg (by decide)]
    have hS_14 : Sat W _ (([] : Chunk) :: ([(p, .cells #[.slice a n k, .int .i64 (doneOf B)] 164 (0, 0))] ++ (c ++ G)) :: H :: F) := Sat.perm hS_13 (by simp)
    exact ⟨_, _, _, [], _, by rw [he]; rfl, by rw [hr]; exact RdT.nil (enc := encI) (sz := 1) (fun _ => rfl) _, by rw [hr]; exact ⟨_, _, _, es, c, G, rfl, hO, hD, hE⟩, hS_14⟩
  have hp_15 := OwnT.ptr hO hq_8 hx_7
  refine pu5 <| nilO <| thenK_n <| seqE <| seqE <| regionE <| pu2 <| nilO <| thenK_n <| cFf <| skipE <| thenK_n <| seqE ?_
  have hen := entAt hE hx_7; have hin : inB B i := by unfold inB; omega
  have hst3 : B.st.getD i.toNat 0 = 3 := by omega
  have hit : i.toNat < B.deps.length := by omega
  have hxok := hD x_4 (List.mem_of_getElem? hx_7); have hxl := hxok.next.le; have hxn := hxok.next.len
  have hnl := nx_asc (i := ((i.toNat : Nat) : Int)) (D := B.deps) (k := 0) (a := -1) (by omega); have hnl2 := asc_len (by omega) hnl; rw [Nat.zero_add] at hnl hnl2
  have hdn : 0 ≤ doneOf B ∧ doneOf B ≤ 4096 := by unfold doneOf; have := List.length_filter_le (fun x => decide (x = (4 : Int))) B.st; omega
  refine regionE <| pu3 ?_
  refine sStF hS_3 hO hq_8 1 i.toNat 0 x_4 (⟨4, x_4.attempt, x_4.pending, x_4.next⟩ : BEnt) hx_7 (.int .i64 4) [.int .i64 4] Tryz.sizeOf3 ?_
  intro w_16 c_18 hO_19 hS_17
  refine nilO <| thenK_n <| seqE <| regionE <| pu3 ?_
  refine sL hS_17 0 1 (.int .i64 (doneOf B)) (Tryz.isAgg3 _) ?_
  refine sAdd (doneOf B) 1 ?_
  refine pu2 ?_
  refine sT hS_17 0 1 (.int .i64 ((doneOf B) + 1)) [.int .i64 ((doneOf B) + 1)] #[.slice a n k, .int .i64 ((doneOf B) + 1)] Tryz.sizeOf3 ?_
  intro w_20 hS_21
  refine nilO <| thenK_n <| seqE <| regionE <| pu1 <| nilO <| thenK_n <| seqE <| seqE <| regionE <| pu3 ?_
  have hx_22 := set_at (y := (⟨4, x_4.attempt, x_4.pending, x_4.next⟩ : BEnt)) hx_7
  have hp_23 := OwnT.ptr hO_19 hq_8 hx_22
  refine sLp hS_21 (hp_23.up 1 rfl) 3 (.slice x_4.next.a x_4.next.n x_4.next.k) (Tryz.isAgg22 _) ?_
  refine pu2 <| nilO <| thenK_n <| blockE ?_
  have hS_24 := ((((hS_21.pick 3 rfl).pick 3 rfl).pick 3 rfl).pick 3 rfl)
  have hS_25 := Sat.nilc hS_24
  refine loopA (γ := Nat × (List BEnt) × Chunk × (List Int) × (Option Addr) × Nat × Nat × Chunk) (fun ⟨j, es1, c1, zs, az, nz, kz, cz⟩ => [(39, .int .i64 ((j : Nat) : Int)), (37, .slice x_4.next.a x_4.next.n x_4.next.k), (38, .int .i64 ((x_4.next.n : Nat) : Int)), (0, .pointer (some ⟨p, 0, none⟩)), (10, .slice az nz kz)]) (fun ⟨j, es1, c1, zs, az, nz, kz, cz⟩ w => Sat W w (cz :: [(p, .cells #[.slice a n k, .int .i64 (doneOf B + 1)] 164 (0, 0))] :: c1 :: G :: H :: F) ∧ j ≤ x_4.next.n ∧ OwnT encBEnt 167 4 a n k es1 c1 ∧ (∀ z ∈ es1, BEnt.Ok [G] z) ∧ es1.map BEnt.v = (List.range B.deps.length).map (entC B (B.st.set i.toNat 4) ((nextOf 0 B.deps i.toNat).take j)) ∧ OwnT encI 3 1 az nz kz zs cz ∧ zs = ((nextOf 0 B.deps i.toNat).take j).filter (fun z => decide (pendOf (B.st.set i.toNat 4) (B.deps.getD z.toNat []) = 0))) (fun ⟨j, es1, c1, zs, az, nz, kz, cz⟩ => x_4.next.n - j) (0, (es.set i.toNat (⟨4, x_4.attempt, x_4.pending, x_4.next⟩ : BEnt)), c_18, [], none, 0, 0, []) ⟨hS_25, by omega, hO_19, (ok_set hD hx_7 rfl), (com_start hW hE hx_7 rfl rfl rfl rfl), OwnT.nil (fun _ => rfl), (by simp)⟩ ?_
  rintro ⟨j, es1, c1, zs, az, nz, kz, cz⟩ ρ w_26 ⟨hS_27, hj, hO1, hD1, hE1, hOz, hz⟩
  refine seqE <| regionE <| pu1 <| nilO <| thenK_n <| seqE ?_
  refine cD (((j : Nat) : Int) < ((x_4.next.n : Nat) : Int)) (fun hc_28 => ?_) (fun hc_28 => ?_)
  rotate_left
  · refine exitE <| thenK_x <| thenK_x <| blockK_x <| thenK_n <| seqE ?_
    have hlnz := hOz.len; have hlz := hOz.le; have hzl2 : zs.length ≤ 12 := by rw [hz]; have h1 := List.length_filter_le (fun z => decide (pendOf (B.st.set i.toNat 4) (B.deps.getD z.toNat []) = 0)) ((nextOf 0 B.deps i.toNat).take j); simp only [List.length_take] at h1; omega
    refine regionE <| pu1 ?_
    refine cR Tryz.call109 (s_sort az nz kz zs (RdT.flat (hOz.rdAt 0 (by rfl))) (by rw [hz]; exact asc_sorted (asc_filter (Int.le_refl _) (asc_pre (m := (nextOf 0 B.deps i.toNat).drop j) (by rw [List.take_append_drop]; exact hnl)))) (by omega) (Sat.flat hS_27)) ?_
    intro w_64 hS_65
    refine nilO <| thenK_n <| seqE <| regionE <| pu3 <| nilO <| thenK_n <| retE <| retT [.slice az nz kz, .int .i64 0] <| ?_
    have hS_67 := (((((hS_65.pick 4 rfl).pick 4 rfl).pick 4 rfl).pick 4 rfl).pick 4 rfl)
    have he : heldC B i m = 0 := by unfold heldC; rw [if_pos hin, if_pos (by rw [stAt_nat _ (by omega)]; omega)]
    have hr : comB B i m = (⟨B.deps, markB (B.st.set i.toNat 4) B.deps, B.att⟩, rdyB (B.st.set i.toNat 4) B.deps) := by unfold comB; rw [if_pos he]
    have hfull : (nextOf 0 B.deps i.toNat).take j = (nextOf 0 B.deps i.toNat) := List.take_of_length_le (by rw [← hen.2.2.2.2]; omega)
    rw [hfull] at hE1 hz
    rw [com_rdy hW hit hst3] at hz
    have hE2 := com_ents hW hit hst3 hE1
    have hS_68 : Sat W _ (cz :: ([(p, .cells #[.slice a n k, .int .i64 (doneOf B + 1)] 164 (0, 0))] ++ (c1 ++ G)) :: H :: F) := Sat.perm hS_67 (by simp)
    have hrd := hOz.rdAt (cs := [cz]) 0 rfl; rw [hz] at hrd
    exact ⟨_, _, _, cz, _, by rw [he]; rfl, by rw [hr]; exact hrd, by rw [hr]; exact ⟨_, _, _, es1, c1, G, by rw [com_done hW hit hst3], hO1, hD1, hE2⟩, hS_68⟩
  refine skipE <| thenK_n <| seqE <| blockE <| seqE <| regionE ?_
  refine sIdx hxok.next ((j : Nat) : Int) Tryz.runUnderlying22 Tryz.sizeOf3 ?_
  intro x_29 b_30 o_31 hx_32 hp_33
  rw [Int.toNat_natCast] at hx_32
  refine sLp hS_27 (hp_33.up 3 rfl) 0 (.int .i64 x_29) (Tryz.isAgg3 _) ?_
  refine pu1 <| nilO <| thenK_n <| seqE ?_
  have hzz := hx_32; rw [hen.2.2.2.2] at hzz
  have hzb := asc_mem hnl x_29 (List.mem_of_getElem? hzz)
  have hnlo := congrArg List.length hE1; simp only [List.length_map, List.length_range] at hnlo
  have hlo1 := hO1.le; have hln1 := hO1.len; have hlz := hOz.le; have hlnz := hOz.len
  have hzsl : zs.length ≤ 4096 := by rw [hz]; have h1 := List.length_filter_le (fun z => decide (pendOf (B.st.set i.toNat 4) (B.deps.getD z.toNat []) = 0)) ((nextOf 0 B.deps i.toNat).take j); simp only [List.length_take] at h1; omega
  refine regionE <| pu3 ?_
  refine sL hS_27 1 0 (.slice a n k) (Tryz.isAgg162 _) ?_
  refine pu1 ?_
  refine sIdxO hO1 x_29 (x_29).toNat Tryz.runUnderlying162 Tryz.sizeOf167 ?_
  intro x_34 b_35 o_36 hx_37 hp_38 hq_39
  refine pu1 <| nilO <| thenK_n <| seqE ?_
  have hyp := pend_get hW hit hst3 hE1 hzz hx_37
  have hyb := (hD1 x_34 (List.mem_of_getElem? hx_37)).next
  refine regionE <| pu3 ?_
  refine sLp hS_27 (hp_38.up 2 rfl) 2 (.int .i64 x_34.pending) (Tryz.isAgg3 _) ?_
  refine sSub x_34.pending 1 ?_
  refine pu2 ?_
  refine sStF hS_27 hO1 hq_39 2 (x_29).toNat 2 x_34 (⟨x_34.state, x_34.attempt, (x_34.pending - 1), x_34.next⟩ : BEnt) hx_37 (.int .i64 (x_34.pending - 1)) [.int .i64 (x_34.pending - 1)] Tryz.sizeOf3 ?_
  intro w_40 c_42 hO_43 hS_41
  refine nilO <| thenK_n <| seqE <| regionE <| pu3 ?_
  have hx_44 := set_at (y := (⟨x_34.state, x_34.attempt, (x_34.pending - 1), x_34.next⟩ : BEnt)) hx_37
  have hp_45 := OwnT.ptr hO_43 hq_39 hx_44
  refine sLp hS_41 (hp_45.up 2 rfl) 2 (.int .i64 (x_34.pending - 1)) (Tryz.isAgg3 _) ?_
  refine pu1 <| nilO <| thenK_n <| ?_
  refine cE (x_34.pending - 1) 0 (fun hc_46 => ?_) (fun hc_46 => ?_)
  rotate_left
  · refine skipE <| blockK_n <| thenK_n <| regionE ?_
    refine sAdd ((j : Nat) : Int) 1 ?_
    refine pu1 <| nilO <| thenK_n <| ?_
    have hS_62 := (((((hS_41.pick 4 rfl).pick 4 rfl).pick 4 rfl).pick 4 rfl).pick 4 rfl)
    have hcs_63 := com_step (y' := (⟨x_34.state, x_34.attempt, (x_34.pending - 1), x_34.next⟩ : BEnt)) hW hit hst3 hE1 hzz hx_37 rfl rfl rfl (by dsimp only; rw [if_neg (by omega)])
    exact ⟨(j + 1, (es1.set ((x_29).toNat) (⟨x_34.state, x_34.attempt, (x_34.pending - 1), x_34.next⟩ : BEnt)), c_42, zs, az, nz, kz, cz), by first | omega | (dsimp only; omega), alA, hS_62, by omega, hO_43, (ok_set hD1 hx_37 rfl), hcs_63.1, hOz, (by rw [take_succ_at hzz, List.filter_append, ← hz]; simp only [List.filter_cons, List.filter_nil, hcs_63.2]; rw [if_neg (by simp; omega)]; simp)⟩
  refine seqE <| regionE <| pu3 ?_
  refine sStF hS_41 hO_43 hq_39 2 (x_29).toNat 0 (⟨x_34.state, x_34.attempt, (x_34.pending - 1), x_34.next⟩ : BEnt) (⟨2, x_34.attempt, (x_34.pending - 1), x_34.next⟩ : BEnt) hx_44 (.int .i64 2) [.int .i64 2] Tryz.sizeOf3 ?_
  intro w_47 c_49 hO_50 hS_48
  rw [List.set_set] at hO_50
  refine nilO <| thenK_n <| regionE <| pu2 ?_
  refine sBS hS_48 #[.int .i64 x_29] Tryz.runUnderlying22 Tryz.sizeOf3 Tryz.zeroValue3 ?_
  intro b_51 w_52 hS_53
  refine sApp (nb := 8) hS_53 hOz 1 (RdT.blk (enc := encI) (sz := 1) (xs := [x_29]) (fun _ => rfl) 1 0 rfl rfl rfl (by omega)) Tryz.underlying22 (i := Tryz.t3) (by kernel_rfl) (fun _ => rfl) ?_
  intro a_54 cap_55 c_56 w_57 hO_58 hS_59
  refine pu1 <| nilO <| blockK_n <| thenK_n <| regionE ?_
  refine sAdd ((j : Nat) : Int) 1 ?_
  refine pu1 <| nilO <| thenK_n <| ?_
  have hS_60 := ((((((hS_59.pick 5 rfl).pick 5 rfl).pick 5 rfl).pick 5 rfl).pick 5 rfl).dropAt 5 rfl)
  have hcs_61 := com_step (y' := (⟨2, x_34.attempt, (x_34.pending - 1), x_34.next⟩ : BEnt)) hW hit hst3 hE1 hzz hx_37 rfl rfl rfl (by dsimp only; rw [if_pos (by omega)])
  exact ⟨(j + 1, (es1.set ((x_29).toNat) (⟨2, x_34.attempt, (x_34.pending - 1), x_34.next⟩ : BEnt)), c_49, (zs ++ [x_29]), a_54, (nz + 1), cap_55, c_56), by first | omega | (dsimp only; omega), alA, hS_60, by omega, hO_50, (ok_set hD1 hx_37 rfl), hcs_61.1, hO_58, (by rw [take_succ_at hzz, List.filter_append, ← hz]; simp only [List.filter_cons, List.filter_nil, hcs_61.2]; rw [if_pos (by simp; omega)])⟩
end Go.Proofs.YtimkhljglpookaaGreat
