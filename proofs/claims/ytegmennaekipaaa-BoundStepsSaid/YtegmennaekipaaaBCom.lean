import Derived.Test.YtegmennaekipaaaBd4
import Derived.Test.YtegmennaekipaaaBMeth
import Derived.Test.YtegmennaekipaaaSort
namespace Go.Proofs.Ytegmennaekipaaa
open Go Go.E
set_option linter.unusedVariables false
set_option linter.unusedSimpArgs false
set_option linter.unnecessarySimpa false
set_option maxRecDepth 100000
set_option maxHeartbeats 2000000
variable {W w : World} {H : Chunk} {F : List Chunk}
theorem b_ready {p : Nat} {B : BS} {K : Int} {M : Chunk} (hB : BoardR p B M) (hW : BWf B K)  (hS : Sat W w (M :: H :: F)) :
    Calls Try.prog 49 #[.pointer (some ⟨p, 0, none⟩)] w fun e w' => ∃ (az : Option Addr) (nz kz : Nat) (Z M' : Chunk), e = .returned (.slice az nz kz) ∧ RdT encI 1 [Z] az nz kz (idxOf 2 0 B.st) ∧ BoardR p B M' ∧ Sat W w' (Z :: M' :: H :: F) := by
  obtain ⟨a, n, k, es, c, G, rfl, hO, hD, hE⟩ := hB
  have hS : Sat W _ ([(p, .cells #[.slice a n k, .int .i64 (doneOf B)] 122 (0, 0))] :: c :: G :: H :: F) := Sat.perm hS (by simp)
  have hlo := hO.le; have hln := hO.len; have hel := entsOf_len hE; have hw1 := hW.ls; have hw2 := hW.la; have hw3 := hW.n0
  refine callsA 27 Try.func49 rfl ?_
  refine seqE <| regionE <| pu1 <| nilO <| thenK_n <| seqE <| seqE <| regionE <| pu2 <| nilO <| thenK_n <| cFf <| skipE <| thenK_n <| seqE <| regionE <| pu1 <| nilO <| thenK_n <| seqE <| seqE <| regionE <| pu3 ?_
  refine sL hS 0 0 (.slice a n k) (Try.isAgg120 _) ?_
  refine pu2 <| nilO <| thenK_n <| blockE ?_
  have hS_1 := Sat.nilc hS
  have hO_2 := OwnT.nil (enc := encI) (E := 3) (sz := 1) (fun _ => rfl)
  refine loopA (γ := Nat × (List Int) × (Option Addr) × Nat × Nat × Chunk) (fun ⟨i, zs, azs, nzs, kzs, czs⟩ => [(11, .slice a n k), (12, .int .i64 ((n : Nat) : Int)), (13, .int .i64 ((i : Nat) : Int)), (3, .slice azs nzs kzs)]) (fun ⟨i, zs, azs, nzs, kzs, czs⟩ w => Sat W w (czs :: [(p, .cells #[.slice a n k, .int .i64 (doneOf B)] 122 (0, 0))] :: c :: G :: H :: F) ∧ i ≤ n ∧ (zs = idxOf 2 0 (B.st.take i)) ∧ (zs.length ≤ i) ∧ OwnT encI 3 1 azs nzs kzs zs czs) (fun ⟨i, zs, azs, nzs, kzs, czs⟩ => n - i) (0, [], none, 0, 0, []) ⟨hS_1, by omega, rfl, by simp, hO_2⟩ ?_
  rintro ⟨i, zs, azs, nzs, kzs, czs⟩ ρ w_3 ⟨hS_4, hi, hz, hzl, hOzs⟩
  have hn_zs := hOzs.len; have hl_zs := hOzs.le
  refine seqE <| regionE <| pu1 <| nilO <| thenK_n <| seqE ?_
  refine cD (((i : Nat) : Int) < ((n : Nat) : Int)) (fun hc_5 => ?_) (fun hc_5 => ?_)
  rotate_left
  · refine exitE <| thenK_x <| thenK_x <| blockK_x <| thenK_n <| seqE <| regionE <| pu2 <| nilO <| thenK_n <| retE <| retT [.slice azs nzs kzs] <| ?_
    have hS_29 : Sat W _ (czs :: ([(p, .cells #[.slice a n k, .int .i64 (doneOf B)] 122 (0, 0))] ++ (c ++ G)) :: H :: F) := Sat.perm hS_4 (by simp)
    have hzz : zs = idxOf 2 0 B.st := by rw [hz, List.take_of_length_le (by omega)]
    have hrd := (hOzs.rdAt (cs := [czs]) 0 rfl); rw [hzz] at hrd
    exact ⟨_, _, _, _, _, rfl, hrd, ⟨_, _, _, es, c, G, rfl, hO, hD, hE⟩, hS_29⟩
  refine skipE <| thenK_n <| seqE <| blockE <| seqE <| regionE <| pu1 ?_
  refine sIdxO hO ((i : Nat) : Int) i Try.runUnderlying120 Try.sizeOf125 ?_
  intro x_6 b_7 o_8 hx_9 hp_10 hq_11
  refine sLpA hS_4 (hp_10.up 2 rfl) 0 (encBEnt x_6) (Try.isAgg125 _) (Try.sizeOf125 _) ?_
  refine sAlloc hS_4 Try.zeroValue125 ?_
  intro b_12 w_13 hS_14
  refine pu1 ?_
  refine sT hS_14 0 0 (.agg (encBEnt x_6).toArray) (encBEnt x_6) (encBEnt x_6).toArray Try.sizeOf125 ?_
  intro w_15 hS_16
  refine nilO <| thenK_n <| seqE <| regionE <| pu1 ?_
  refine sL hS_16 0 0 (.int .i64 x_6.state) (Try.isAgg3 _) ?_
  refine pu1 <| nilO <| thenK_n <| ?_
  refine cE x_6.state 2 (fun hc_17 => ?_) (fun hc_17 => ?_)
  rotate_left
  · refine skipE <| blockK_n <| thenK_n <| regionE ?_
    refine sAdd ((i : Nat) : Int) 1 ?_
    refine pu1 <| nilO <| thenK_n <| ?_
    have hS_28 := (hS_16.dropAt 0 rfl)
    exact ⟨(i + 1, zs, azs, nzs, kzs, czs), by first | omega | (dsimp only; omega), alA, hS_28, by omega, (idx_n hz (by omega) (by have h := (entAt hE hx_9).2.1; omega)), (by first | omega | (simp; omega)), hOzs⟩
  refine regionE <| pu2 ?_
  refine sBS hS_16 #[.int .i64 ((i : Nat) : Int)] Try.runUnderlying22 Try.sizeOf3 Try.zeroValue3 ?_
  intro b_18 w_19 hS_20
  refine sApp (nb := 8) hS_20 hOzs 2 (RdT.blk (enc := encI) (sz := 1) (xs := [((i : Nat) : Int)]) (fun _ => rfl) 1 0 rfl rfl rfl (by omega)) Try.underlying22 (i := Try.t3) (by kernel_rfl) (fun _ => rfl) ?_
  intro a_21 cap_22 c_23 w_24 hO_25 hS_26
  refine pu1 <| nilO <| blockK_n <| thenK_n <| regionE ?_
  refine sAdd ((i : Nat) : Int) 1 ?_
  refine pu1 <| nilO <| thenK_n <| ?_
  have hS_27 := ((hS_26.dropAt 0 rfl).dropAt 0 rfl)
  exact ⟨(i + 1, (zs ++ [((i : Nat) : Int)]), a_21, (nzs + 1), cap_22, c_23), by first | omega | (dsimp only; omega), alA, hS_27, by omega, (idx_y hz (by omega) (by have h := (entAt hE hx_9).2.1; omega)), (by first | omega | (simp; omega)), hO_25⟩

theorem com_start {es : List BEnt} {B : BS} {K : Int} {i : Nat} {x x' : BEnt} (hW : BWf B K) (h : es.map BEnt.v = entsOf B) (hx : es[i]? = some x) (h1 : x'.state = 4) (h2 : x'.attempt = x.attempt) (h3 : x'.pending = x.pending) (h4 : x'.next = x.next) :
    (es.set i x').map BEnt.v = (List.range B.deps.length).map (entC B (B.st.set i 4) ((nextOf 0 B.deps i).take 0)) := by
  obtain ⟨hi, e1, e2, e3, e4⟩ := entAt h hx
  have hls := hW.ls
  refine ents_set (f := entV B) h (fun q hq hne => ?_) (fun _ => ?_)
  · simp only [entV, entC, List.take_zero, List.not_mem_nil, if_false, getD_set]; rw [if_neg (by omega)]
  · simp only [BEnt.v, entC, List.take_zero, List.not_mem_nil, if_false, getD_set, h1, h2, h3, h4, e2, e3, e4]; rw [if_pos ⟨trivial, by omega⟩]
theorem pend_get {es : List BEnt} {B : BS} {K : Int} {i j : Nat} {z : Int} {y : BEnt} (hW : BWf B K) (hi : i < B.deps.length) (h3 : B.st.getD i 0 = 3)
    (h : es.map BEnt.v = (List.range B.deps.length).map (entC B (B.st.set i 4) ((nextOf 0 B.deps i).take j))) (hz : (nextOf 0 B.deps i)[j]? = some z) (hy : es[z.toNat]? = some y) : 0 ≤ y.pending - 1 ∧ y.pending ≤ 4096 := by
  have h1 := (com_step (y' := ⟨if y.pending - 1 = 0 then 2 else y.state, y.attempt, y.pending - 1, y.next⟩) hW hi h3 h hz hy rfl rfl rfl rfl).2
  obtain ⟨q, hzq, hq, hiq⟩ := nx_mem.1 (List.mem_of_getElem? hz)
  have hd : B.deps[z.toNat]? = some (B.deps.getD z.toNat []) := by simp [List.getD_eq_getElem?_getD, show z.toNat < B.deps.length by omega]
  have h4 := asc_len (by omega) (hW.asc _ _ hd)
  have h5 : pendOf (B.st.set i 4) (B.deps.getD z.toNat []) ≤ ((B.deps.getD z.toNat []).length : Nat) := by unfold pendOf; have := List.length_filter_le (fun x => decide (stAt (B.st.set i 4) x ≠ 4)) (B.deps.getD z.toNat []); omega
  have h6 : 0 ≤ pendOf (B.st.set i 4) (B.deps.getD z.toNat []) := by unfold pendOf; omega
  have := hW.n0
  omega
theorem b_commit {p : Nat} {B : BS} {K : Int} {M : Chunk} (hB : BoardR p B M) (hW : BWf B K) (i : Int) (m : Int) (hn12 : B.deps.length ≤ 12) (hS : Sat W w (M :: H :: F)) :
    Calls Try.prog 98 #[.pointer (some ⟨p, 0, none⟩), .int .i64 i, .int .i64 m] w fun e w' => ∃ (az : Option Addr) (nz kz : Nat) (Z M' : Chunk), e = .returned (.tuple #[.slice az nz kz, .int .i64 (heldC B i m)]) ∧ RdT encI 1 [Z] az nz kz ((comB B i m).2) ∧ BoardR p (comB B i m).1 M' ∧ Sat W w' (Z :: M' :: H :: F) := by
  obtain ⟨a, n, k, es, c, G, rfl, hO, hD, hE⟩ := hB
  have hS : Sat W _ ([(p, .cells #[.slice a n k, .int .i64 (doneOf B)] 122 (0, 0))] :: c :: G :: H :: F) := Sat.perm hS (by simp)
  have hlo := hO.le; have hln := hO.len; have hel := entsOf_len hE; have hw1 := hW.ls; have hw2 := hW.la; have hw3 := hW.n0
  refine callsA 72 Try.func98 rfl ?_
  refine seqE <| regionE <| pu2 <| nilO <| thenK_n <| seqE <| regionE <| pu3 ?_
  have hS_1 := ((hS.pick 1 rfl).pick 1 rfl)
  refine cX Try.call92 (b_held hO i m hS_1) ?_
  rintro _ w_2 ⟨hS_3, (⟨hn_9, rfl⟩ | ⟨hn_9, x_4, hx_7, hh_10, rfl⟩ | ⟨hn_9, x_4, b_5, o_6, rfl, hx_7, hq_8, hh_10⟩)⟩
  · refine pu5 <| nilO <| thenK_n <| seqE <| seqE <| regionE <| pu2 <| nilO <| thenK_n <| cTt <| seqE <| regionE <| pu3 <| nilO <| thenK_n <| retE <| thenK_r <| retT [.slice none 0 0, .int .i64 16] <| ?_
    have hno : ¬ inB B i := by unfold inB; omega
    have he : heldC B i m = 16 := by unfold heldC; rw [if_neg hno]
    have hr : comB B i m = (B, []) := by unfold comB; rw [he, if_neg (by decide)]
    have hS_11 : Sat W _ (([] : Chunk) :: ([(p, .cells #[.slice a n k, .int .i64 (doneOf B)] 122 (0, 0))] ++ (c ++ G)) :: H :: F) := Sat.perm hS_3 (by simp)
    exact ⟨_, _, _, [], _, by rw [he]; rfl, by rw [hr]; exact RdT.nil (enc := encI) (sz := 1) (fun _ => rfl) _, by rw [hr]; exact ⟨_, _, _, es, c, G, rfl, hO, hD, hE⟩, hS_11⟩
  · refine pu5 <| nilO <| thenK_n <| seqE <| seqE <| regionE <| pu2 <| nilO <| thenK_n <| cTt <| seqE <| regionE <| pu3 <| nilO <| thenK_n <| retE <| thenK_r <| retT [.slice none 0 0, .int .i64 20] <| ?_
    have hen := entAt hE hx_7
    have hin : inB B i := by unfold inB; omega
    have he : heldC B i m = 20 := by unfold heldC; rw [if_pos hin, if_neg (by rw [stAt_nat _ (by omega)]; omega)]
    have hr : comB B i m = (B, []) := by unfold comB; rw [he, if_neg (by decide)]
    have hS_12 : Sat W _ (([] : Chunk) :: ([(p, .cells #[.slice a n k, .int .i64 (doneOf B)] 122 (0, 0))] ++ (c ++ G)) :: H :: F) := Sat.perm hS_3 (by simp)
    exact ⟨_, _, _, [], _, by rw [he]; rfl, by rw [hr]; exact RdT.nil (enc := encI) (sz := 1) (fun _ => rfl) _, by rw [hr]; exact ⟨_, _, _, es, c, G, rfl, hO, hD, hE⟩, hS_12⟩
  have hp_13 := OwnT.ptr hO hq_8 hx_7
  refine pu5 <| nilO <| thenK_n <| seqE <| seqE <| regionE <| pu2 <| nilO <| thenK_n <| cFf <| skipE <| thenK_n <| seqE ?_
  have hen := entAt hE hx_7; have hin : inB B i := by unfold inB; omega
  have hst3 : B.st.getD i.toNat 0 = 3 := by omega
  have hit : i.toNat < B.deps.length := by omega
  have hxok := hD x_4 (List.mem_of_getElem? hx_7); have hxl := hxok.next.le; have hxn := hxok.next.len
  have hnl := nx_asc (i := ((i.toNat : Nat) : Int)) (D := B.deps) (k := 0) (a := -1) (by omega); have hnl2 := asc_len (by omega) hnl; rw [Nat.zero_add] at hnl hnl2
  have hdn : 0 ≤ doneOf B ∧ doneOf B ≤ 4096 := by unfold doneOf; have := List.length_filter_le (fun x => decide (x = (4 : Int))) B.st; omega
  refine regionE <| pu3 ?_
  refine sStF hS_3 hO hq_8 1 i.toNat 0 x_4 (⟨4, x_4.attempt, x_4.pending, x_4.next⟩ : BEnt) hx_7 (.int .i64 4) [.int .i64 4] Try.sizeOf3 ?_
  intro w_14 c_16 hO_17 hS_15
  refine nilO <| thenK_n <| seqE <| regionE <| pu3 ?_
  refine sL hS_15 0 1 (.int .i64 (doneOf B)) (Try.isAgg3 _) ?_
  refine sAdd (doneOf B) 1 ?_
  refine pu2 ?_
  refine sT hS_15 0 1 (.int .i64 ((doneOf B) + 1)) [.int .i64 ((doneOf B) + 1)] #[.slice a n k, .int .i64 ((doneOf B) + 1)] Try.sizeOf3 ?_
  intro w_18 hS_19
  refine nilO <| thenK_n <| seqE <| regionE <| pu1 <| nilO <| thenK_n <| seqE <| seqE <| regionE <| pu3 ?_
  have hx_20 := set_at (y := (⟨4, x_4.attempt, x_4.pending, x_4.next⟩ : BEnt)) hx_7
  have hp_21 := OwnT.ptr hO_17 hq_8 hx_20
  refine sLp hS_19 (hp_21.up 1 rfl) 3 (.slice x_4.next.a x_4.next.n x_4.next.k) (Try.isAgg22 _) ?_
  refine pu2 <| nilO <| thenK_n <| blockE ?_
  have hS_22 := Sat.nilc hS_19
  refine loopA (γ := Nat × (List BEnt) × Chunk × (List Int) × (Option Addr) × Nat × Nat × Chunk) (fun ⟨j, es1, c1, zs, az, nz, kz, cz⟩ => [(39, .int .i64 ((j : Nat) : Int)), (37, .slice x_4.next.a x_4.next.n x_4.next.k), (38, .int .i64 ((x_4.next.n : Nat) : Int)), (0, .pointer (some ⟨p, 0, none⟩)), (10, .slice az nz kz)]) (fun ⟨j, es1, c1, zs, az, nz, kz, cz⟩ w => Sat W w (cz :: [(p, .cells #[.slice a n k, .int .i64 (doneOf B + 1)] 122 (0, 0))] :: c1 :: G :: H :: F) ∧ j ≤ x_4.next.n ∧ OwnT encBEnt 125 4 a n k es1 c1 ∧ (∀ z ∈ es1, BEnt.Ok [G] z) ∧ es1.map BEnt.v = (List.range B.deps.length).map (entC B (B.st.set i.toNat 4) ((nextOf 0 B.deps i.toNat).take j)) ∧ OwnT encI 3 1 az nz kz zs cz ∧ zs = ((nextOf 0 B.deps i.toNat).take j).filter (fun z => decide (pendOf (B.st.set i.toNat 4) (B.deps.getD z.toNat []) = 0))) (fun ⟨j, es1, c1, zs, az, nz, kz, cz⟩ => x_4.next.n - j) (0, (es.set i.toNat (⟨4, x_4.attempt, x_4.pending, x_4.next⟩ : BEnt)), c_16, [], none, 0, 0, []) ⟨hS_22, by omega, hO_17, (ok_set hD hx_7 rfl), (com_start hW hE hx_7 rfl rfl rfl rfl), OwnT.nil (fun _ => rfl), (by simp)⟩ ?_
  rintro ⟨j, es1, c1, zs, az, nz, kz, cz⟩ ρ w_23 ⟨hS_24, hj, hO1, hD1, hE1, hOz, hz⟩
  refine seqE <| regionE <| pu1 <| nilO <| thenK_n <| seqE ?_
  refine cD (((j : Nat) : Int) < ((x_4.next.n : Nat) : Int)) (fun hc_25 => ?_) (fun hc_25 => ?_)
  rotate_left
  · refine exitE <| thenK_x <| thenK_x <| blockK_x <| thenK_n <| seqE ?_
    have hlnz := hOz.len; have hlz := hOz.le; have hzl2 : zs.length ≤ 12 := by rw [hz]; have h1 := List.length_filter_le (fun z => decide (pendOf (B.st.set i.toNat 4) (B.deps.getD z.toNat []) = 0)) ((nextOf 0 B.deps i.toNat).take j); simp only [List.length_take] at h1; omega
    refine regionE <| pu1 ?_
    refine cR Try.call65 (s_sort az nz kz zs (RdT.flat (hOz.rdAt 0 (by rfl))) (by rw [hz]; exact asc_sorted (asc_filter (Int.le_refl _) (asc_pre (m := (nextOf 0 B.deps i.toNat).drop j) (by rw [List.take_append_drop]; exact hnl)))) (by omega) (Sat.flat hS_24)) ?_
    intro w_60 hS_61
    refine nilO <| thenK_n <| seqE <| regionE <| pu3 <| nilO <| thenK_n <| retE <| retT [.slice az nz kz, .int .i64 0] <| ?_
    have he : heldC B i m = 0 := by unfold heldC; rw [if_pos hin, if_pos (by rw [stAt_nat _ (by omega)]; omega)]
    have hr : comB B i m = (⟨B.deps, markB (B.st.set i.toNat 4) B.deps, B.att⟩, rdyB (B.st.set i.toNat 4) B.deps) := by unfold comB; rw [if_pos he]
    have hfull : (nextOf 0 B.deps i.toNat).take j = (nextOf 0 B.deps i.toNat) := List.take_of_length_le (by rw [← hen.2.2.2.2]; omega)
    rw [hfull] at hE1 hz
    rw [com_rdy hW hit hst3] at hz
    have hE2 := com_ents hW hit hst3 hE1
    have hS_63 : Sat W _ (cz :: ([(p, .cells #[.slice a n k, .int .i64 (doneOf B + 1)] 122 (0, 0))] ++ (c1 ++ G)) :: H :: F) := Sat.perm hS_61 (by simp)
    have hrd := hOz.rdAt (cs := [cz]) 0 rfl; rw [hz] at hrd
    exact ⟨_, _, _, cz, _, by rw [he]; rfl, by rw [hr]; exact hrd, by rw [hr]; exact ⟨_, _, _, es1, c1, G, by rw [com_done hW hit hst3], hO1, hD1, hE2⟩, hS_63⟩
  refine skipE <| thenK_n <| seqE <| blockE <| seqE <| regionE ?_
  refine sIdx hxok.next ((j : Nat) : Int) Try.runUnderlying22 Try.sizeOf3 ?_
  intro x_26 b_27 o_28 hx_29 hp_30
  rw [Int.toNat_natCast] at hx_29
  refine sLp hS_24 (hp_30.up 3 rfl) 0 (.int .i64 x_26) (Try.isAgg3 _) ?_
  refine pu1 <| nilO <| thenK_n <| seqE ?_
  have hzz := hx_29; rw [hen.2.2.2.2] at hzz
  have hzb := asc_mem hnl x_26 (List.mem_of_getElem? hzz)
  have hnlo := congrArg List.length hE1; simp only [List.length_map, List.length_range] at hnlo
  have hlo1 := hO1.le; have hln1 := hO1.len; have hlz := hOz.le; have hlnz := hOz.len
  have hzsl : zs.length ≤ 4096 := by rw [hz]; have h1 := List.length_filter_le (fun z => decide (pendOf (B.st.set i.toNat 4) (B.deps.getD z.toNat []) = 0)) ((nextOf 0 B.deps i.toNat).take j); simp only [List.length_take] at h1; omega
  refine regionE <| pu3 ?_
  refine sL hS_24 1 0 (.slice a n k) (Try.isAgg120 _) ?_
  refine pu1 ?_
  refine sIdxO hO1 x_26 (x_26).toNat Try.runUnderlying120 Try.sizeOf125 ?_
  intro x_31 b_32 o_33 hx_34 hp_35 hq_36
  refine pu1 <| nilO <| thenK_n <| seqE ?_
  have hyp := pend_get hW hit hst3 hE1 hzz hx_34
  have hyb := (hD1 x_31 (List.mem_of_getElem? hx_34)).next
  refine regionE <| pu3 ?_
  refine sLp hS_24 (hp_35.up 2 rfl) 2 (.int .i64 x_31.pending) (Try.isAgg3 _) ?_
  refine sSub x_31.pending 1 ?_
  refine pu2 ?_
  refine sStF hS_24 hO1 hq_36 2 (x_26).toNat 2 x_31 (⟨x_31.state, x_31.attempt, (x_31.pending - 1), x_31.next⟩ : BEnt) hx_34 (.int .i64 (x_31.pending - 1)) [.int .i64 (x_31.pending - 1)] Try.sizeOf3 ?_
  intro w_37 c_39 hO_40 hS_38
  refine nilO <| thenK_n <| seqE <| regionE <| pu3 ?_
  have hx_41 := set_at (y := (⟨x_31.state, x_31.attempt, (x_31.pending - 1), x_31.next⟩ : BEnt)) hx_34
  have hp_42 := OwnT.ptr hO_40 hq_36 hx_41
  refine sLp hS_38 (hp_42.up 2 rfl) 2 (.int .i64 (x_31.pending - 1)) (Try.isAgg3 _) ?_
  refine pu1 <| nilO <| thenK_n <| ?_
  refine cE (x_31.pending - 1) 0 (fun hc_43 => ?_) (fun hc_43 => ?_)
  rotate_left
  · refine skipE <| blockK_n <| thenK_n <| regionE ?_
    refine sAdd ((j : Nat) : Int) 1 ?_
    refine pu1 <| nilO <| thenK_n <| ?_
    have hcs_59 := com_step (y' := (⟨x_31.state, x_31.attempt, (x_31.pending - 1), x_31.next⟩ : BEnt)) hW hit hst3 hE1 hzz hx_34 rfl rfl rfl (by dsimp only; rw [if_neg (by omega)])
    exact ⟨(j + 1, (es1.set ((x_26).toNat) (⟨x_31.state, x_31.attempt, (x_31.pending - 1), x_31.next⟩ : BEnt)), c_39, zs, az, nz, kz, cz), by first | omega | (dsimp only; omega), alA, hS_38, by omega, hO_40, (ok_set hD1 hx_34 rfl), hcs_59.1, hOz, (by rw [take_succ_at hzz, List.filter_append, ← hz]; simp only [List.filter_cons, List.filter_nil, hcs_59.2]; rw [if_neg (by simp; omega)]; simp)⟩
  refine seqE <| regionE <| pu3 ?_
  refine sStF hS_38 hO_40 hq_36 2 (x_26).toNat 0 (⟨x_31.state, x_31.attempt, (x_31.pending - 1), x_31.next⟩ : BEnt) (⟨2, x_31.attempt, (x_31.pending - 1), x_31.next⟩ : BEnt) hx_41 (.int .i64 2) [.int .i64 2] Try.sizeOf3 ?_
  intro w_44 c_46 hO_47 hS_45
  rw [List.set_set] at hO_47
  refine nilO <| thenK_n <| regionE <| pu2 ?_
  refine sBS hS_45 #[.int .i64 x_26] Try.runUnderlying22 Try.sizeOf3 Try.zeroValue3 ?_
  intro b_48 w_49 hS_50
  refine sApp (nb := 8) hS_50 hOz 1 (RdT.blk (enc := encI) (sz := 1) (xs := [x_26]) (fun _ => rfl) 1 0 rfl rfl rfl (by omega)) Try.underlying22 (i := Try.t3) (by kernel_rfl) (fun _ => rfl) ?_
  intro a_51 cap_52 c_53 w_54 hO_55 hS_56
  refine pu1 <| nilO <| blockK_n <| thenK_n <| regionE ?_
  refine sAdd ((j : Nat) : Int) 1 ?_
  refine pu1 <| nilO <| thenK_n <| ?_
  have hS_57 := (hS_56.dropAt 0 rfl)
  have hcs_58 := com_step (y' := (⟨2, x_31.attempt, (x_31.pending - 1), x_31.next⟩ : BEnt)) hW hit hst3 hE1 hzz hx_34 rfl rfl rfl (by dsimp only; rw [if_pos (by omega)])
  exact ⟨(j + 1, (es1.set ((x_26).toNat) (⟨2, x_31.attempt, (x_31.pending - 1), x_31.next⟩ : BEnt)), c_46, (zs ++ [x_26]), a_51, (nz + 1), cap_52, c_53), by first | omega | (dsimp only; omega), alA, hS_57, by omega, hO_47, (ok_set hD1 hx_34 rfl), hcs_58.1, hO_55, (by rw [take_succ_at hzz, List.filter_append, ← hz]; simp only [List.filter_cons, List.filter_nil, hcs_58.2]; rw [if_pos (by simp; omega)])⟩
end Go.Proofs.Ytegmennaekipaaa
