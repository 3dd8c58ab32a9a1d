import Derived.Test.YtdingplbadblpaaGreatQ2Lf
namespace Go.Proofs.YtdingplbadblpaaGreat
open Go Go.E Go.Proofs.Tryz
set_option linter.all false
set_option maxRecDepth 100000
set_option maxHeartbeats 2000000
variable {W w : World} {H : Chunk} {F : List Chunk}
def covS (w h tw th i : Int) : Int := w * min (i / colsN w h tw th * th) h + min (i % colsN w h tw th * tw) w * (min (i / colsN w h tw th * th + th) h - min (i / colsN w h tw th * th) h)
theorem next_col {n i : Int} (hn : 1 <= n) (hi : 0 <= i) : (i % n + 1 < n -> (i + 1) / n = i / n /\ (i + 1) % n = i % n + 1) /\ (i % n + 1 = n -> (i + 1) / n = i / n + 1 /\ (i + 1) % n = 0) := by
  have h1 := Int.emod_def i n
  have h2 := Int.emod_nonneg i (show n ≠ 0 by omega)
  have h3 := Int.emod_lt_of_pos i (show 0 < n by omega)
  constructor
  · intro h
    exact (Int.ediv_emod_unique (show 0 < n by omega)).2 ⟨by omega, by omega, by omega⟩
  · intro h
    exact (Int.ediv_emod_unique (show 0 < n by omega)).2 ⟨by rw [Int.mul_add, Int.mul_one]; omega, by omega, by omega⟩
theorem tile_facts {w h tw th i : Int} (hf : fineP w h tw th) (hi : 0 <= i /\ i < colsN w h tw th * rowsN w h tw th) :
  (0 <= i % colsN w h tw th * tw /\ i % colsN w h tw th * tw < w) /\ 0 <= i / colsN w h tw th * th /\ i / colsN w h tw th * th < h /\ (i % colsN w h tw th + 1 = colsN w h tw th -> w <= i % colsN w h tw th * tw + tw) := by
 have hb := cols_bd hf
 have ht := tile_in hf hi.1 hi.2
 have hx0 : 0 <= i % colsN w h tw th := Int.emod_nonneg _ om
 have hy0 : 0 <= i / colsN w h tw th := Int.ediv_nonneg hi.1 om
 unfold tileV inP at ht
 dsimp only at ht
 refine ⟨om, om, om, ?_⟩
 intro he
 have hg := ceil_ge (show 0 <= w by have := hf.1.1; omega) hf.2.2.1.1
 have hc : colsN w h tw th = ceilV w tw := by unfold colsN; rw [if_pos hf]
 have hm : (i % colsN w h tw th + 1) * tw = i % colsN w h tw th * tw + tw := by rw [Int.add_mul, Int.one_mul]
 rw [he, hc] at hm
 rw [hc]
 omega
theorem cov_step {w h tw th i : Int} (hf : fineP w h tw th) (hi : 0 <= i /\ i < colsN w h tw th * rowsN w h tw th) : covS w h tw th (i + 1) = covS w h tw th i + ((tileV w h tw th i).x1 - (tileV w h tw th i).x0) * ((tileV w h tw th i).y1 - (tileV w h tw th i).y0) := by
 have hb := cols_bd hf
 have ht := tile_facts hf hi
 have hn := next_col hb.1.1 hi.1
 have hlt := Int.emod_lt_of_pos i (show 0 < colsN w h tw th by omega)
 unfold covS tileV
 dsimp only
 rcases Int.lt_or_eq_of_le (show i % colsN w h tw th + 1 <= colsN w h tw th by omega) with h1 | h1
 ·obtain ⟨e1, e2⟩ := hn.1 h1
  rw [e1, e2, Int.add_mul, Int.one_mul]
  generalize i % colsN w h tw th * tw = a at *
  generalize i / colsN w h tw th * th = b at *
  rw [show min a w = a by omega, show min b h = b by omega, Int.sub_mul]
  omega
 ·obtain ⟨e1, e2⟩ := hn.2 h1
  rw [e1, e2, Int.add_mul, Int.one_mul, Int.zero_mul]
  have hw := ht.2.2.2 h1
  generalize i % colsN w h tw th * tw = a at *
  generalize i / colsN w h tw th * th = b at *
  rw [show min a w = a by omega, show min b h = b by omega, show min (0 : Int) w = 0 by omega, Int.zero_mul, show min (a + tw) w = w by omega, Int.sub_mul]
  have : w * min (b + th) h = w * b + w * (min (b + th) h - b) := by rw [<- Int.mul_add]; congr 1; omega
  omega
theorem cov_zero {w h tw th : Int} (hf : fineP w h tw th) : covS w h tw th 0 = 0 := by
  unfold covS
  rw [Int.zero_ediv, Int.zero_emod, Int.zero_mul, Int.zero_mul, show min (0 : Int) h = 0 by have := hf.2.1.1; omega, show min (0 : Int) w = 0 by have := hf.1.1; omega]
  simp
theorem cov_all {w h tw th : Int} (hf : fineP w h tw th) : covS w h tw th (colsN w h tw th * rowsN w h tw th) = w * h := by
  have hb := cols_bd hf
  unfold covS
  rw [Int.mul_ediv_cancel_left _ (show colsN w h tw th ≠ 0 by omega), Int.mul_emod_right, Int.zero_mul, show min (0 : Int) w = 0 by have := hf.1.1; omega, Int.zero_mul, Int.add_zero]
  have hg := ceil_ge (show 0 <= h by have := hf.2.1.1; omega) hf.2.2.2.1
  have hc : rowsN w h tw th = ceilV h th := by unfold rowsN; rw [if_pos hf]
  rw [hc, show min (ceilV h th * th) h = h by omega]
theorem tiles_apart {w h tw th i j : Int} (hf : fineP w h tw th) (hi : 0 <= i /\ i < colsN w h tw th * rowsN w h tw th) (hj : 0 <= j /\ j < colsN w h tw th * rowsN w h tw th) (hij : i ≠ j) :
  (tileV w h tw th i).x1 <= (tileV w h tw th j).x0 \/ (tileV w h tw th j).x1 <= (tileV w h tw th i).x0 \/ (tileV w h tw th i).y1 <= (tileV w h tw th j).y0 \/ (tileV w h tw th j).y1 <= (tileV w h tw th i).y0 := by
 have hb := cols_bd hf
 have key : ∀ {a b t : Int}, 0 <= t -> a < b -> a * t + t <= b * t := by
  intro a b t ht hab
  have := Int.mul_le_mul_of_nonneg_right (show a + 1 <= b by omega) ht
  rw [Int.add_mul, Int.one_mul] at this
  exact this
 have htw := hf.2.2.1.1
 have hth := hf.2.2.2.1
 have h1 := Int.emod_def i (colsN w h tw th)
 have h2 := Int.emod_def j (colsN w h tw th)
 unfold tileV
 dsimp only
 by_cases hx : i % colsN w h tw th = j % colsN w h tw th
 ·have hy : i / colsN w h tw th ≠ j / colsN w h tw th := fun e => hij (by rw [e] at h1; omega)
  rcases Int.lt_or_gt_of_ne hy with h3 | h3
  ·have := key (t := th) om h3; omega
  ·have := key (t := th) om h3; omega
 ·rcases Int.lt_or_gt_of_ne hx with h3 | h3
  ·have := key (t := tw) om h3; omega
  ·have := key (t := tw) om h3; omega
section
variable {L : Lay} (g : LayG L)
include g
theorem cov_at {i : Nat} {z : TaskV} {n : Int} (h : L.all[i]? = some z) (hn : n ∈ L.od) : (z.stage ≠ n /\ ((i : Int) < L.first n \/ L.first n + L.cnt n <= (i : Int))) \/ (z.stage = n /\ z.part = 2 /\ (L.st n).kind = 4 /\ (i : Int) = L.first n + L.nx n * L.ny n) \/
  (z.stage = n /\ z.part = L.part n /\ L.first n <= (i : Int) /\ (i : Int) < L.first n + L.nx n * L.ny n /\ (⟨z.rectX0, z.rectY0, z.rectX1, z.rectY1⟩ : Rct) = L.tile n ((i : Int) - L.first n)) := by
 by_cases hs : z.stage = n
 ·obtain ⟨_, j, hz, hi⟩ := all_st g h
  rw [hs] at hz hi
  rcases tasks_at g hn hz with ⟨hj, e⟩ | ⟨h4, hj, e⟩
  ·right; right
   refine ⟨hs, by rw [e]; rfl, om, om, ?_⟩
   rw [e, show (i : Int) - L.first n = (j : Int) by omega]; rfl
  ·right; left
   exact ⟨hs, by rw [e]; rfl, h4, om⟩
 ·left
  refine ⟨hs, ?_⟩
  by_cases h1 : (i : Int) < L.first n
  ·exact .inl h1
  right
  by_cases h2 : L.first n + L.cnt n <= (i : Int)
  ·exact h2
  exfalso
  refine hs (stage_at g hn (k := (i : Int) - L.first n) om om ?_)
  rw [show (L.first n + ((i : Int) - L.first n)).toNat = i by omega]; exact h
theorem tile_inn {n k : Int} (hn : n ∈ L.od) (hk : 0 <= k /\ k < L.nx n * L.ny n) : inP (L.tile n k) /\ (L.tile n k).x1 <= (L.cut n).w /\ (L.tile n k).y1 <= (L.cut n).h := by
  have := tile_in (g.fine hn) hk.1 hk.2
  exact ⟨this.1, this.2.1, this.2.2.1⟩
end
def Lay.cov (L : Lay) (n i : Int) : Int := covS (L.cut n).w (L.cut n).h L.tw L.th (max 0 (min (i - L.first n) (L.nx n * L.ny n)))
def Lay.mrg (L : Lay) (n i : Int) : Int := if (L.st n).kind = 4 /\ L.first n + L.nx n * L.ny n < i then 1 else 0
section
variable {L : Lay} (g : LayG L)
include g
theorem cov_add {n i : Int} (hn : n ∈ L.od) (h1 : L.first n <= i) (h2 : i < L.first n + L.nx n * L.ny n) : L.cov n (i + 1) = L.cov n i + ((L.tile n (i - L.first n)).x1 - (L.tile n (i - L.first n)).x0) * ((L.tile n (i - L.first n)).y1 - (L.tile n (i - L.first n)).y0) := by
  unfold Lay.cov
  rw [show max 0 (min (i + 1 - L.first n) (L.nx n * L.ny n)) = (i - L.first n) + 1 by omega, show max 0 (min (i - L.first n) (L.nx n * L.ny n)) = i - L.first n by omega]
  exact cov_step (g.fine hn) ⟨by omega, by show _ < L.nx n * L.ny n; omega⟩
theorem cov_same {n i : Int} (hn : n ∈ L.od) (h : i < L.first n \/ L.first n + L.nx n * L.ny n <= i) : L.cov n (i + 1) = L.cov n i := by
  have := (g.grid hn).2.2
  unfold Lay.cov
  rw [show max 0 (min (i + 1 - L.first n) (L.nx n * L.ny n)) = max 0 (min (i - L.first n) (L.nx n * L.ny n)) by omega]
theorem cov_start {n : Int} (hn : n ∈ L.od) : L.cov n 0 = 0 /\ L.mrg n 0 = 0 := by
  have := (g.grid hn).2.2
  have hf := g.firstb hn
  unfold Lay.cov Lay.mrg
  rw [show max 0 (min (0 - L.first n) (L.nx n * L.ny n)) = 0 by omega, if_neg (by omega)]
  exact ⟨cov_zero (g.fine hn), rfl⟩
theorem cov_end {n : Int} (hn : n ∈ L.od) : L.cov n L.total = (L.cut n).w * (L.cut n).h /\ L.mrg n L.total = (if (L.st n).kind = 4 then 1 else 0) := by
  have hg := (g.grid hn).2.2
  have hf := g.firstb hn
  have hc : L.nx n * L.ny n <= L.cnt n := by unfold Lay.cnt; split <;> omega
  unfold Lay.cov Lay.mrg
  rw [show max 0 (min (L.total - L.first n) (L.nx n * L.ny n)) = L.nx n * L.ny n by omega]
  refine ⟨cov_all (g.fine hn), ?_⟩
  by_cases h4 : (L.st n).kind = 4
  · have : L.cnt n = L.nx n * L.ny n + 1 := by unfold Lay.cnt; rw [if_pos h4]
    rw [if_pos ⟨h4, by omega⟩, if_pos h4]
  · rw [if_neg (fun h => h4 h.1), if_neg h4]
theorem cov_bd {n : Int} (hn : n ∈ L.od) : ∀ i : Nat, 0 <= L.cov n i /\ L.cov n i <= 4096 * (i : Int)
 | 0 => by have := (cov_start g hn).1; simp only [Int.natCast_zero, Int.mul_zero]; omega
 | i + 1 => by
  have ih := cov_bd hn i
  push_cast
  by_cases h : (i : Int) < L.first n \/ L.first n + L.nx n * L.ny n <= (i : Int)
  ·rw [cov_same g hn h]; omega
  ·have ht := tile_in (g.fine hn) (i := (i : Int) - L.first n) om (by show _ < L.nx n * L.ny n; omega)
   have h0 := ht.1
   unfold inP at h0
   have hm := mul_bd (a := (L.tile n ((i : Int) - L.first n)).x1 - (L.tile n ((i : Int) - L.first n)).x0) (b := (L.tile n ((i : Int) - L.first n)).y1 - (L.tile n ((i : Int) - L.first n)).y0) (A := 64) (B := 64) (by unfold Lay.tile; omega) (by unfold Lay.tile; omega)
   rw [cov_add g hn om om]
   omega
end
section
variable {L : Lay} (g : LayG L)
theorem part_ne {L : Lay} (n : Int) : ¬ L.part n = 2 := by unfold Lay.part; split <;> omega
theorem mrg_same {n i : Int} (h : ¬ ((L.st n).kind = 4 /\ i = L.first n + L.nx n * L.ny n)) : L.mrg n (i + 1) = L.mrg n i := by
  unfold Lay.mrg
  by_cases h4 : (L.st n).kind = 4
  · by_cases h1 : L.first n + L.nx n * L.ny n < i
    · rw [if_pos ⟨h4, by omega⟩, if_pos ⟨h4, h1⟩]
    · rw [if_neg (fun h2 => by have := h2.2; exact h ⟨h4, by omega⟩), if_neg (fun h2 => h1 h2.2)]
  · rw [if_neg (fun h2 => h4 h2.1), if_neg (fun h2 => h4 h2.1)]
theorem mrg_zero {n i : Int} (h : i <= L.first n + L.nx n * L.ny n) : L.mrg n i = 0 := by
  unfold Lay.mrg
  rw [if_neg (fun h2 => by have := h2.2; omega)]
theorem mrg_add {n i : Int} (h4 : (L.st n).kind = 4) (h : i = L.first n + L.nx n * L.ny n) : L.mrg n (i + 1) = 1 := by
  unfold Lay.mrg
  rw [if_pos ⟨h4, by omega⟩]
include g
theorem cnt_nx (n : Int) : L.nx n * L.ny n <= L.cnt n /\ L.cnt n <= L.nx n * L.ny n + 1 := by unfold Lay.cnt; split <;> omega
theorem ap_at {h i : Nat} {y : TaskV} {n : Int} (hz : L.all[h]? = some y) (hn : n ∈ L.od) (hs : y.stage = n) (hlt : h < i) (h1 : L.first n <= (i : Int)) (h2 : (i : Int) < L.first n + L.nx n * L.ny n) :
  inP ⟨y.rectX0, y.rectY0, y.rectX1, y.rectY1⟩ /\ (y.rectX1 <= (L.tile n ((i : Int) - L.first n)).x0 \/ (L.tile n ((i : Int) - L.first n)).x1 <= y.rectX0 \/ y.rectY1 <= (L.tile n ((i : Int) - L.first n)).y0 \/ (L.tile n ((i : Int) - L.first n)).y1 <= y.rectY0) := by
 rcases cov_at g hz hn with h3 | h3 | ⟨_, _, h4, h5, h6⟩
 ·exact absurd hs h3.1
 ·have := h3.2.2.2; omega
 ·have hi := tile_inn g hn (k := (h : Int) - L.first n) ⟨om, om⟩
  have ha := tiles_apart (g.fine hn) (i := (h : Int) - L.first n) (j := (i : Int) - L.first n) ⟨om, by show _ < L.nx n * L.ny n; omega⟩ ⟨om, by show _ < L.nx n * L.ny n; omega⟩ om
  rw [<- h6] at hi
  refine ⟨hi.1, ?_⟩
  have e : tileV (L.cut n).w (L.cut n).h L.tw L.th ((h : Int) - L.first n) = ⟨y.rectX0, y.rectY0, y.rectX1, y.rectY1⟩ := h6.symm
  rw [e] at ha
  exact ha
end
theorem r2_inside (a : Rct) (b : Rct) (ha : inP a) (hb : (b.x0 = 0 /\ b.y0 = 0) /\ (a.x1 <= b.x1 /\ b.x1 <= 128) /\ a.y1 <= b.y1 /\ b.y1 <= 128) (hS : Sat W w (H :: F)) :
  Ro prog 30 #[.agg (encRct a).toArray, .agg (encRct b).toArray] (.bool true) W w (H :: F) := by
 unfold inP at ha
 refine callsA 43 func30 rfl <| sR <| sBox hS (.agg (encRct a).toArray) (encRct a).toArray fun _ _ j0 => sBox j0 (.agg (encRct b).toArray) (encRct b).toArray fun _ _ b0 => pu1 <| zQ <| lA b0 1 0 4 (isAgg44 _) (sizeOf44 _) <| cR call76 (r2_valid a b0.flat) fun _ c0 => pu2 ?_
 have k0 : rvP a := (by unfold rvP cooP; omega)
 refine sFix 8 _ false (congrArg Bool.not (decide_eq_true k0)) <| gY <| lA c0 0 0 4 (isAgg44 _) (sizeOf44 _) <| gY <| cR call76 (r2_valid b c0.flat) fun _ d0 => pu2 <| nT ?_
 have l0 : rvP b := (by unfold rvP cooP; omega)
 refine cF _ (congrArg Bool.not (decide_eq_true l0)) <| kS <| lA d0 1 0 4 (isAgg44 _) (sizeOf44 _) <| cR call32 (r2_empty a d0.flat) fun _ a0 => pu1 <| sD 15 (a.x0 = 0 /\ a.y0 = 0 /\ a.x1 = 0 /\ a.y1 = 0) (fun m0 => ?_) (fun m0 => ?_)
 ·refine pu16 <| pu12 <| zE <| retT [.bool true] ?_
  have e0 := (a0.drops [0, 0])
  first | exact ⟨rfl, e0⟩ | exact ⟨congrArg (fun z => Ending.returned (.bool z)) (by first | exact decide_eq_true om | (simp_all; omega)), e0⟩ | (exfalso; omega)
 refine pu1 <| gY <| sL a0 1 0 (I a.x0) (isAgg3 _) <| pu1 <| gY <| sL a0 0 0 (I b.x0) (isAgg3 _) <| pu2 <| sD 21 (a.x0 >= b.x0) (fun n0 => ?_) (fun n0 => ?_)
 rotate_left
 ·refine pu16 <| pu6 <| zE <| retT [.bool false] ?_
  have f0 := (a0.drops [0, 0])
  first | exact ⟨rfl, f0⟩ | exact ⟨congrArg (fun z => Ending.returned (.bool z)) (by first | exact decide_eq_true om | (simp_all; omega)), f0⟩ | (exfalso; omega)
 refine pu1 <| gY <| sL a0 1 1 (I a.y0) (isAgg3 _) <| pu1 <| gY <| sL a0 0 1 (I b.y0) (isAgg3 _) <| pu3 <| sD 28 (a.y0 >= b.y0) (fun o0 => ?_) (fun o0 => ?_)
 rotate_left
 ·refine pu15 <| zE <| retT [.bool false] ?_
  have g0 := (a0.drops [0, 0])
  first | exact ⟨rfl, g0⟩ | exact ⟨congrArg (fun z => Ending.returned (.bool z)) (by first | exact decide_eq_true om | (simp_all; omega)), g0⟩ | (exfalso; omega)
 refine pu1 <| gY <| sL a0 1 2 (I a.x1) (isAgg3 _) <| pu1 <| gY <| sL a0 0 2 (I b.x1) (isAgg3 _) <| pu3 <| sD 35 (a.x1 <= b.x1) (fun p0 => ?_) (fun p0 => ?_)
 rotate_left
 ·refine pu8 <| zE <| retT [.bool false] ?_
  have h0 := (a0.drops [0, 0])
  first | exact ⟨rfl, h0⟩ | exact ⟨congrArg (fun z => Ending.returned (.bool z)) (by first | exact decide_eq_true om | (simp_all; omega)), h0⟩ | (exfalso; omega)
 refine pu1 <| gY <| sL a0 1 3 (I a.y1) (isAgg3 _) <| pu1 <| gY <| sL a0 0 3 (I b.y1) (isAgg3 _) <| pu4 <| zE <| retT [.bool (decide ((a.y1 : Int) <= b.y1))] ?_
 have i0 := (a0.drops [0, 0])
 first | exact ⟨rfl, i0⟩ | exact ⟨congrArg (fun z => Ending.returned (.bool z)) (by first | exact decide_eq_true om | (simp_all; omega)), i0⟩ | (exfalso; omega)
theorem r2_area (a : Rct) (ha : inP a) (hS : Sat W w (H :: F)) :
  Ro prog 31 #[.agg (encRct a).toArray] (I ((a.x1 - a.x0) * (a.y1 - a.y0))) W w (H :: F) := by
 unfold inP at ha
 have hmm := mul_bd (a := a.x1 - a.x0) (b := a.y1 - a.y0) (A := 128) (B := 128) om om
 refine callsA 17 func31 rfl <| sR <| sBox hS (.agg (encRct a).toArray) (encRct a).toArray fun _ _ b0 => pu1 <| zQ <| lA b0 0 0 4 (isAgg44 _) (sizeOf44 _) <| cR call76 (r2_valid a b0.flat) fun _ a0 => pu1 <| nT ?_
 have c0 : rvP a := (by unfold rvP cooP; omega)
 refine cF _ (congrArg Bool.not (decide_eq_true c0)) <| kS <| pu1 <| sL a0 0 2 (I a.x1) (isAgg3 _) <| pu1 <| sL a0 0 0 (I a.x0) (isAgg3 _) <| sSub a.x1 a.x0 <| pu1 <| sL a0 0 3 (I a.y1) (isAgg3 _) <| pu1 <| sL a0 0 1 (I a.y0) (isAgg3 _) <| sSub a.y1 a.y0 <| sMul (a.x1 - a.x0) (a.y1 - a.y0) <| pu1 <| zE <| retT [I ((a.x1 - a.x0) * (a.y1 - a.y0))] ?_
 have d0 := (a0.dropAt 0 rfl)
 first | exact ⟨rfl, d0⟩ | (exfalso; omega)
theorem r2_apart (a : Rct) (b : Rct) (ha : inP a) (hb : inP b) (hd : a.x1 <= b.x0 \/ b.x1 <= a.x0 \/ a.y1 <= b.y0 \/ b.y1 <= a.y0) (hS : Sat W w (H :: F)) :
  Ro prog 33 #[.agg (encRct a).toArray, .agg (encRct b).toArray] (.agg #[I 0, I 0, I 0, I 0]) W w (H :: F) := by
 unfold inP at ha hb
 refine callsA 51 func33 rfl <| sR <| sBox hS (.agg (encRct a).toArray) (encRct a).toArray fun _ _ h0 => sBox h0 (.agg (encRct b).toArray) (encRct b).toArray fun _ _ i0 => sAlloc i0 zeroValue44 fun _ _ a0 => zS <| pu1 <| sL a0 2 0 (I a.x0) (isAgg3 _) <| pu1 <| sL a0 1 0 (I b.x0) (isAgg3 _) <| stepY (I (max a.x0 b.x0)) rfl rfl (Y_max2 a.x0 b.x0 rfl rfl kr kr) <| pu1 <| sL a0 2 1 (I a.y0) (isAgg3 _) <| pu1 <| sL a0 1 1 (I b.y0) (isAgg3 _) <| stepY (I (max a.y0 b.y0)) rfl rfl (Y_max2 a.y0 b.y0 rfl rfl kr kr) <| pu1 <| sL a0 2 2 (I a.x1) (isAgg3 _) <| pu1 <| sL a0 1 2 (I b.x1) (isAgg3 _) <| stepY (I (min a.x1 b.x1)) rfl rfl (Y_min2 a.x1 b.x1 rfl rfl kr kr) <| pu1 ?_
 refine sL a0 2 3 (I a.y1) (isAgg3 _) <| pu1 <| sL a0 1 3 (I b.y1) (isAgg3 _) <| stepY (I (min a.y1 b.y1)) rfl rfl (Y_min2 a.y1 b.y1 rfl rfl kr kr) <| pu1 <| sAlloc a0 zeroValue44 fun _ _ j0 => ?_
 refine sT j0 0 0 (.agg #[I (max a.x0 b.x0), I (max a.y0 b.y0), I (min a.x1 b.x1), I (min a.y1 b.y1)]) [I (max a.x0 b.x0), I (max a.y0 b.y0), I (min a.x1 b.x1), I (min a.y1 b.y1)] #[I (max a.x0 b.x0), I (max a.y0 b.y0), I (min a.x1 b.x1), I (min a.y1 b.y1)] sizeOf44 fun _ c0 => zQ <| lA c0 3 0 4 (isAgg44 _) (sizeOf44 _) <| cR call76 (r2_valid a c0.flat) fun _ d0 => pu2 ?_
 have k0 : rvP a := (by unfold rvP cooP; omega)
 refine sFix 30 _ false (congrArg Bool.not (decide_eq_true k0)) <| gY <| lA d0 2 0 4 (isAgg44 _) (sizeOf44 _) <| gY <| cR call76 (r2_valid b d0.flat) fun _ b0 => pu3 ?_
 have l0 : rvP b := (by unfold rvP cooP; omega)
 refine sFix 35 _ false (congrArg Bool.not (decide_eq_true l0)) <| pu1 <| gY <| sL b0 0 0 (I (max a.x0 b.x0)) (isAgg3 _) <| pu1 <| gY <| sL b0 0 2 (I (min a.x1 b.x1)) (isAgg3 _) <| pu3 <| sD 42 ((max a.x0 b.x0) >= (min a.x1 b.x1)) (fun m0 => ?_) (fun m0 => ?_)
 ·refine pu6 <| zC <| pu1 <| sT b0 1 0 (.agg #[I 0, I 0, I 0, I 0]) [I 0, I 0, I 0, I 0] #[I 0, I 0, I 0, I 0] sizeOf44 fun _ e0 => zR <| retN (vs := [.agg #[I 0, I 0, I 0, I 0]]) rfl (.cons (.cell _ _ _ _ kr (lvA e0 1 0 [I 0, I 0, I 0, I 0] (isAgg44 _) (sizeOf44 _) rfl rfl rfl)) .nil) ?_
  have n0 := (e0.drops [0, 0, 0, 0])
  first | exact ⟨rfl, n0⟩ | (exfalso; omega)
 refine pu1 <| gY <| sL b0 0 1 (I (max a.y0 b.y0)) (isAgg3 _) <| pu1 <| gY <| sL b0 0 3 (I (min a.y1 b.y1)) (isAgg3 _) <| pu2 <| nT <| cD ((max a.y0 b.y0) >= (min a.y1 b.y1)) (fun o0 => ?_) (fun o0 => ?_)
 ·refine sR <| pu1 <| sT b0 1 0 (.agg #[I 0, I 0, I 0, I 0]) [I 0, I 0, I 0, I 0] #[I 0, I 0, I 0, I 0] sizeOf44 fun _ f0 => zR <| retN (vs := [.agg #[I 0, I 0, I 0, I 0]]) rfl (.cons (.cell _ _ _ _ kr (lvA f0 1 0 [I 0, I 0, I 0, I 0] (isAgg44 _) (sizeOf44 _) rfl rfl rfl)) .nil) ?_
  have p0 := (f0.drops [0, 0, 0, 0])
  first | exact ⟨rfl, p0⟩ | (exfalso; omega)
 refine kS <| lA b0 0 0 4 (isAgg44 _) (sizeOf44 _) <| sT b0 1 0 (.agg #[I (max a.x0 b.x0), I (max a.y0 b.y0), I (min a.x1 b.x1), I (min a.y1 b.y1)]) [I (max a.x0 b.x0), I (max a.y0 b.y0), I (min a.x1 b.x1), I (min a.y1 b.y1)] #[I (max a.x0 b.x0), I (max a.y0 b.y0), I (min a.x1 b.x1), I (min a.y1 b.y1)] sizeOf44 fun _ g0 => zE <| retN (vs := [.agg #[I (max a.x0 b.x0), I (max a.y0 b.y0), I (min a.x1 b.x1), I (min a.y1 b.y1)]]) rfl (.cons (.cell _ _ _ _ kr (lvA g0 1 0 [I (max a.x0 b.x0), I (max a.y0 b.y0), I (min a.x1 b.x1), I (min a.y1 b.y1)] (isAgg44 _) (sizeOf44 _) rfl rfl rfl)) .nil) ?_
 have q0 := (g0.drops [0, 0, 0, 0])
 first | exact ⟨rfl, q0⟩ | (exfalso; omega)
theorem l20_covers (W w : World) (H : Chunk) (F : List Chunk) (t : Option Addr) (nt kt : Nat) (xt : List Int) (ht : RdT Go.E.encI 1 [H] t nt kt xt) (hS : Sat W w (H :: F)) :
  Calls prog 6 #[.slice t nt kt] w fun e w' => e = .returned (.bool true) /\ Sat W w' (H :: F) := by
 have hlt := ht.le
 refine callsA 178 func6 rfl <| sR <| pu1 <| zS <| pu1 <| cX call11 (tape_new t nt kt hS) ?_
 rintro _ _ ⟨k1, rfl, r2⟩
 have w4 := ht.le
 refine pu1 <| zS <| pu1 <| cX call12 (tg_job (RdT.flat (ht.up 0 (by rfl))) om r2.flat1 4 om) ?_
 rintro _ _ ⟨b0, l1, rfl, i0, s2, t2, u2, _, _, v2⟩
 have w2 := v2.unflat2
 obtain ⟨hgd, l0, hrn⟩ := t2
 have hns := (i0).stages.len; have hni := (i0).inputs.len; have hno := (i0).outputs.len; have hjO := u2; have hjB := s2
 have hb : b0.inputs.n <= 1000000 /\ b0.stages.n <= 1000000 /\ b0.outputs.n <= 1000000 := by have h1 := hgd.ni; have h2 := hgd.ns; rw [List.length_map] at h1 h2; omega
 have hns4 := hjB.2.1.1
 refine pu1 <| cX call13 (tape_next (RdT.flat (ht.up 1 (by rfl))) om w2.flat1 4 om) ?_
 rintro _ _ ⟨b1, rfl, _, _, _, x2⟩
 have y2 := x2.unflat1
 refine sAdd 1 b1 <| pu1 <| cX call13 (tape_next (RdT.flat (ht.up 1 (by rfl))) om y2.flat1 4 om) ?_
 rintro _ _ ⟨c1, rfl, _, m1, _, z2⟩
 have a3 := z2.unflat1
 refine sAdd 1 c1 <| sAlloc a3 zeroValue28 fun t0 _ b3 => ?_
 refine sT b3 0 0 (.agg (encJob b0).toArray) (encJob b0) (encJob b0).toArray sizeOf28 fun _ d2 => pu2 <| zS <| lA d2 0 0 4 (isAgg28 _) (sizeOf28 _) <| pu2 <| cX call16 (p20_low (F := []) b0 (1 + b1) (1 + c1) ⟨(RdT.flat (i0.inputs.up 2 (by rfl))), (fun z hz => (i0.inputsD z hz).of_mem (mem_flat1 2 (by rfl))), (RdT.flat (i0.stages.up 2 (by rfl))), (fun z hz => (i0.stagesD z hz).of_mem (mem_flat1 2 (by rfl))), (RdT.flat (i0.outputs.up 2 (by rfl)))⟩ om d2.flat) ?_
 rintro _ _ ⟨k0, h0, m0, c3, n1, o1, rfl, u0, _, d3, e3⟩
 have e2 := e3.unflat2; have hn_az_38 := u0.len; have hl_az_38 := u0.le
 have hmd : MadeL b0.v (1 + b1) (1 + c1) := made_low hgd hrn (fun z hz => by obtain ⟨y, hy, rfl⟩ := List.mem_map.1 hz; exact (hjB.1.2 y hy).1.1) (fun z hz => by obtain ⟨y, hy, rfl⟩ := List.mem_map.1 hz; have h := hjB.2.1.2 y hy; unfold stageB at h; simp only [Stage.v, List.length_map]; omega) (by show 1 <= (b0.stages.l.map Stage.v).length /\ (b0.stages.l.map Stage.v).length <= 4; rw [List.length_map]; omega) hjO.2.1 hjO.2.2 (show tileP _ _ by unfold tileP; omega)
 obtain ⟨L, hLe⟩ : ∃ z : Lay, z = (layV b0.v (1 + b1) (1 + c1)) := ⟨_, rfl⟩
 have hzv : c3.map Task.v = L.all := by rw [hLe, d3]; exact hmd.v
 have hg : LayG L := by rw [hLe]; exact hmd.g
 have hLn : (L.ni = (b0.inputs.n : Int)) /\ (L.ss.length : Int) = b0.stages.n /\ L.ss = b0.stages.l.map Stage.v := by rw [hLe]; unfold layV Job.v; dsimp only; refine ⟨?_, ?_, rfl⟩ <;> (rw [List.length_map]; omega)
 have hnz : (h0 : Int) = L.total /\ 1 <= L.total /\ L.total <= 516 := by
  have h1 := congrArg List.length hzv; rw [List.length_map] at h1
  have h2 := tasks_sum hg L.od (fun _ h => h)
  have h3 := hmd.t; rw [<- hLe] at h3
  have h4 := hg.ln; have h5 := hg.ni
  have h6 : 1 <= L.total := by
   obtain ⟨x, hx⟩ : ∃ x, x ∈ L.od := ⟨L.od[0]'om, List.getElem_mem _⟩
   have h7 := hg.firstb hx; have h8 := hg.cntb hx; omega
  have h9 : (L.all.length : Int) = L.total := h2
  omega
 refine pu5 <| zS <| lA e2 2 0 4 (isAgg28 _) (sizeOf28 _) <| cX call29 (r17_shapes b0 ⟨(RdT.flat (i0.inputs.up 4 (by rfl))), (fun z hz => (i0.inputsD z hz).of_mem (mem_flat1 4 (by rfl))), (RdT.flat (i0.stages.up 4 (by rfl))), (fun z hz => (i0.stagesD z hz).of_mem (mem_flat1 4 (by rfl))), (RdT.flat (i0.outputs.up 4 (by rfl)))⟩ (od) e2.flat) ?_
 rintro _ _ ⟨q1, v0, r1, s1, rfl, t1, f3⟩
 have f2 := f3.unflat1
 have hn_az_50 := t1.len; have hl_az_50 := t1.le
 refine pu7 <| zQ <| pu2 <| nT ?_
 have g3 : ((lowC b0.v (1 + b1) (1 + c1)) : Int) = 0 := hmd.z
 refine cF _ (bne_eq_false_iff_eq.2 g3) <| kT <| seqE <| seqE ?_
 have hLsh : L.sh = ((shpV b0.v).1) := by rw [hLe]; rfl
 have hsl : (v0 : Int) = L.ni + L.ss.length := by have h := hg.len; have h2 := hn_az_50; rw [hLsh] at h; omega
 refine rE <| pu1 <| sL f2 3 0 (.slice b0.inputs.a b0.inputs.n b0.inputs.k) (isAgg25 _) <| pu2 <| nT <| blockE <| loopA (γ := Nat) (fun n => [(4, Pt t0 0), (7, .slice k0 h0 m0), (9, .slice q1 v0 r1), (12, I (n : Int))]) (fun n w => Sat W w (s1 :: n1 :: o1 :: [(t0, .cells (encJob b0).toArray 28 (0, 0))] :: [(k1, .cells #[.slice t nt kt, I m1] 85 (0, 0))] :: l1 :: H :: F) /\ n <= v0 /\ (b0.inputs.n <= n)) (fun n => v0 - n) b0.inputs.n ⟨f2, om, om⟩ ?_
 rintro n ρ _ ⟨d1, hn, hn0⟩
 refine seqE <| sR <| pu4 <| nT <| cD ((n : Int) < (v0 : Int)) (fun i3 => ?_) (fun i3 => ?_)
 rotate_left
 ·refine exitE <| xB <| tN <| sR <| cR call17 (l20_sane  d1.flat) fun _ j3 => pu1 <| zE <| retT [.bool true] ?_
  have k3 := (j3.pick 6 rfl)
  have l3 := k3.dropAt 1 rfl
  have m3 := l3.dropAt 1 rfl
  have n3 := m3.dropAt 1 rfl
  have o3 := n3.dropAt 1 rfl
  have p3 := o3.dropAt 1 rfl
  exact ⟨rfl, (p3.dropAt 1 rfl)⟩
 refine kT <| seqE <| blockE <| sR <| pu1 <| sL d1 3 1 (.slice b0.stages.a b0.stages.n b0.stages.k) (isAgg26 _) <| pu2 <| sL d1 3 0 (.slice b0.inputs.a b0.inputs.n b0.inputs.k) (isAgg25 _) <| pu1 <| sSub (n : Int) (b0.inputs.n : Int) <| sIdx i0.stages ((n : Int) - (b0.inputs.n : Int)) runUnderlying26 sizeOf38 fun c0 _ _ r3 s3 => ?_
 have hno : (n : Int) ∈ L.od := hg.every _ om om; have hfn := hg.fine hno; unfold fineP at hfn; have hgn := hg.grid hno
 have hst : L.st (n : Int) = c0.v := by unfold Lay.st stgAt; rw [hLn.1, hLn.2.2, show (b0.stages.l.map Stage.v)[((n : Int) - (b0.inputs.n : Int)).toNat]? = some c0.v from map_at (f := Stage.v) r3]; rfl
 refine sLpA d1 (s3.up 5 rfl) 0 (encStage c0) (isAgg38 _) (sizeOf38 _) <| sAlloc d1 zeroValue38 fun w0 _ t3 => ?_
 refine sT t3 0 0 (.agg (encStage c0).toArray) (encStage c0) (encStage c0).toArray sizeOf38 fun _ g2 => zS <| pu2 <| sIdx t1 (n : Int) runUnderlying61 sizeOf54 fun f0 _ _ i2 u3 => ?_
 rw [Int.toNat_natCast] at i2
 refine sLpA g2 (u3.up 1 rfl) 0 [I f0.w, I f0.h, I f0.max_] (isAgg54 _) (sizeOf54 _) <| sAlloc g2 zeroValue54 fun z0 _ v3 => ?_
 refine sT v3 0 0 (.agg #[I f0.w, I f0.h, I f0.max_]) [I f0.w, I f0.h, I f0.max_] #[I f0.w, I f0.h, I f0.max_] sizeOf54 fun _ e1 => nT <| cutA (γ := Shape) (fun m => [(4, Pt t0 0), (7, .slice k0 h0 m0), (9, .slice q1 v0 r1), (12, I (n : Int)), (13, Pt w0 0), (14, Pt z0 0)]) (fun m w => Sat W w ([(z0, .cells #[I m.w, I m.h, I m.max_] 54 (0, 0))] :: [(w0, .cells (encStage c0).toArray 38 (0, 0))] :: s1 :: n1 :: o1 :: [(t0, .cells (encJob b0).toArray 28 (0, 0))] :: [(k1, .cells #[.slice t nt kt, I m1] 85 (0, 0))] :: l1 :: H :: F) /\ L.cut (n : Int) = m) ?_ ?_
 ·refine sR <| pu1 <| sL e1 1 0 (I c0.kind) (isAgg3 _) <| pu1 <| nT <| cE c0.kind 4 (fun a2 => ?_) (fun a2 => ?_)
  rotate_left
  ·exact kT <| ⟨(⟨f0.w, f0.h, f0.max_⟩ : Shape), alA, e1, (by unfold Lay.cut; rw [hst, if_neg (show ¬ c0.v.kind = 4 from a2)]; unfold shpAt; rw [hLsh, show ((shpV b0.v).1)[((n : Int)).toNat]? = some f0 from i2]; rfl)⟩
  have has := (hg.src hno _ (a_src _)); rw [hst] at has; simp only [Stage.v] at has
  exact rE <| pu2 <| sL e1 1 1 (I c0.a) (isAgg3 _) <| sIdx t1 c0.a runUnderlying61 sizeOf54 fun g0 _ _ w3 x3 => sLpA e1 (x3.up 2 rfl) 0 [I g0.w, I g0.h, I g0.max_] (isAgg54 _) (sizeOf54 _) <| sT e1 0 0 (.agg #[I g0.w, I g0.h, I g0.max_]) [I g0.w, I g0.h, I g0.max_] #[I g0.w, I g0.h, I g0.max_] sizeOf54 fun _ y3 => nT <| ⟨(⟨g0.w, g0.h, g0.max_⟩ : Shape), alA, y3, (by unfold Lay.cut; rw [hst, if_pos (show c0.v.kind = 4 from a2)]; unfold shpAt; rw [hLsh, show ((shpV b0.v).1)[(c0.v.a).toNat]? = some g0 from w3]; rfl)⟩
 rintro m ρ _ ⟨z3, hmc⟩
 refine sR <| pu2 <| nT <| seqE <| seqE ?_
 rw [hmc] at hfn
 refine rE <| pu1 <| nT <| blockE <| loopA (γ := Nat × Int × Int) (fun ⟨i, ar, mg⟩ => [(4, Pt t0 0), (7, .slice k0 h0 m0), (9, .slice q1 v0 r1), (12, I (n : Int)), (13, Pt w0 0), (14, Pt z0 0), (17, I (i : Int)), (15, I ar), (16, I mg)]) (fun ⟨i, ar, mg⟩ w => Sat W w ([(z0, .cells #[I m.w, I m.h, I m.max_] 54 (0, 0))] :: [(w0, .cells (encStage c0).toArray 38 (0, 0))] :: s1 :: n1 :: o1 :: [(t0, .cells (encJob b0).toArray 28 (0, 0))] :: [(k1, .cells #[.slice t nt kt, I m1] 85 (0, 0))] :: l1 :: H :: F) /\ i <= h0 /\ (ar = L.cov (n : Int) (i : Int)) /\ (mg = L.mrg (n : Int) (i : Int))) (fun ⟨i, ar, mg⟩ => h0 - i) (0, 0, 0) ⟨z3, om, (cov_start hg hno).1.symm, (cov_start hg hno).2.symm⟩ ?_
 rintro ⟨i, ar, mg⟩ ρ _ ⟨d0, hi, hAr, hMg⟩
 have hab := cov_bd hg hno i; have hmb : 0 <= mg /\ mg <= 1 := by rw [hMg]; unfold Lay.mrg; split <;> omega
 have hcx := cnt_nx hg (n : Int); have hpn := part_ne (L := L) (n : Int)
 refine seqE <| sR <| pu4 <| nT <| cD ((i : Int) < (h0 : Int)) (fun a4 => ?_) (fun a4 => ?_)
 rotate_left
 ·refine exitE <| xB <| tN <| seqE ?_
  have hin : (i : Int) = L.total := by omega
  have hce := cov_end hg hno; rw [<- hin, hmc, hst] at hce; rw [<- hAr, <- hMg] at hce; obtain ⟨hce1, hce2⟩ := hce; have hme : (c0.kind = 4 /\ mg = 1) \/ (¬ c0.kind = 4 /\ mg = 0) := by by_cases h4 : c0.v.kind = 4; exact .inl ⟨h4, by rw [if_pos h4] at hce2; exact hce2⟩; exact .inr ⟨h4, by rw [if_neg h4] at hce2; exact hce2⟩
  refine rE <| pu2 <| sL d0 0 0 (I m.w) (isAgg3 _) <| pu1 <| sL d0 0 1 (I m.h) (isAgg3 _) ?_
  have hml1 := mul_bd (a := m.w) (b := m.h) (A := 300) (B := 300) om om
  refine sMul m.w m.h <| pu2 <| sN 165 ar (m.w * m.h) (fun b4 => ?_) (fun b4 => ?_)
  rotate_left
  ·refine pu11 <| zC <| pu1 <| zB <| tR <| tK <| retT [.bool false] ?_
   first | omega
  refine pu3 <| gY <| sL d0 1 0 (I c0.kind) (isAgg3 _) <| pu4 ?_
  rcases bool_em ((mg : Int) == 1) ((c0.kind : Int) == 4) with u1 | u1
  rotate_left
  ·refine sFix 173 _ true (congrArg Bool.not (show (((mg : Int) == 1) == ((c0.kind : Int) == 4)) = false from by simpa using u1)) ?_
   refine pu3 <| zC <| pu1 <| zB <| tR <| tK <| retT [.bool false] ?_
   first | omega | (exact absurd (by rw [Bool.eq_iff_iff]; simp <;> omega) u1)
  refine sFix 173 _ false (congrArg Bool.not (show (((mg : Int) == 1) == ((c0.kind : Int) == 4)) = true from by simpa using u1)) ?_
  refine pu3 <| nT <| cD (mg > 1) (fun c4 => ?_) (fun c4 => ?_)
  ·refine sR <| pu1 <| zB <| tR <| tK <| retT [.bool false] ?_
   first | omega
  exact skipE <| bN <| tN <| rE <| pu1 <| sAdd (n : Int) 1 <| pu1 <| nT <| ⟨n + 1, od, alA, (d0.drops [0, 0]), om, om⟩
 refine kT <| seqE <| blockE <| seqE <| sR <| pu2 <| sIdxO u0 (i : Int) i runUnderlying39 sizeOf46 fun a0 _ _ f1 e4 _ => ?_
 have hz_x_92 : L.all[i]? = some a0.v := by rw [<- hzv]; exact map_at (f := Task.v) f1
 have hco_x_92 := cov_at hg hz_x_92 hno; simp only [Task.v] at hco_x_92
 refine pu1 <| sLp d0 (e4.up 3 rfl) 0 (I a0.stage) (isAgg3 _) <| pu2 <| nT <| cN a0.stage (n : Int) (fun f4 => ?_) (fun f4 => ?_)
 rotate_left
 ·refine exitE <| thenK_x <| blockK_x <| tN <| rE <| pu1 <| sAdd (i : Int) 1 <| pu1 <| nT ?_
  exact ⟨(i + 1, ar, mg), od, alA, d0, om, (by rw [hAr]; exact (cov_same hg hno (by rcases hco_x_92 with h | h | h <;> omega)).symm), (by rw [hMg]; exact (mrg_same (fun h => by have h1 := h.2; rcases hco_x_92 with h2 | h2 | h2 <;> first | omega | (have h3 := cnt_nx hg (n : Int); have h4 := h.1; have h5 : L.cnt (n : Int) = L.nx (n : Int) * L.ny (n : Int) + 1 := (by unfold Lay.cnt; exact if_pos h4); omega))).symm)⟩
 refine kT <| seqE <| sR <| pu2 <| sIdxO u0 (i : Int) i runUnderlying39 sizeOf46 fun g4 _ _ i4 j4 _ => ?_
 obtain rfl : a0 = g4 := Option.some.inj (f1.symm.trans i4)
 refine pu1 <| sLp d0 (j4.up 3 rfl) 1 (I a0.part) (isAgg3 _) <| pu1 <| nT <| cE a0.part 2 (fun k4 => ?_) (fun k4 => ?_)
 ·refine sR <| pu1 <| sAdd mg 1 <| pu1 <| nT <| exitE <| thenK_x <| blockK_x <| tN <| rE <| pu1 <| sAdd (i : Int) 1 <| pu1 <| nT ?_
  exact ⟨(i + 1, ar, (mg + 1)), od, alA, d0, om, (by rw [hAr]; exact (cov_same hg hno (by rcases hco_x_92 with h | h | h <;> omega)).symm), (by have hc6 := (hco_x_92.resolve_left (fun h => by have := h.1; omega)); have hc7 : (L.st (n : Int)).kind = 4 /\ (i : Int) = L.first (n : Int) + L.nx (n : Int) * L.ny (n : Int) := hc6.elim (fun h => ⟨h.2.2.1, h.2.2.2⟩) (fun h => by have h1 := part_ne (L := L) (n : Int); omega); have h8 := mrg_add hc7.1 hc7.2; have h9 := mrg_zero (L := L) (n := (n : Int)) (i := (i : Int)) om; rw [hMg, h9]; exact h8.symm)⟩
 refine kT <| seqE <| seqE ?_
 have hc0 := (hco_x_92.resolve_left (fun h => by have := h.1; omega)).resolve_left (fun h => by have := h.2.1; omega); obtain ⟨hc1, hc2, hc3, hc4, hc5⟩ := hc0
 have hti := tile_inn hg hno (k := (i : Int) - L.first (n : Int)) ⟨om, om⟩; rw [<- hc5, hmc] at hti; obtain ⟨hti0, hti1, hti2⟩ := hti; have hcv := cov_add hg hno hc3 hc4; rw [<- hc5] at hcv; dsimp only at hcv hti1 hti2
 have hpt : (c0.kind = 4 /\ a0.part = 1) \/ (¬ c0.kind = 4 /\ a0.part = 0) := by unfold Lay.part at hc2; rw [hst] at hc2; by_cases h4 : c0.v.kind = 4; exact .inl ⟨h4, by rw [if_pos h4] at hc2; exact hc2⟩; exact .inr ⟨h4, by rw [if_neg h4] at hc2; exact hc2⟩
 have ham := mul_bd (a := a0.rectX1 - a0.rectX0) (b := a0.rectY1 - a0.rectY0) (A := 128) (B := 128) (by have h := hti0; unfold inP at h; dsimp only at h; omega) (by have h := hti0; unfold inP at h; dsimp only at h; omega)
 have hmz : L.mrg (n : Int) (i : Int) = 0 := mrg_zero om
 by_cases b2 : (mg : Int) > 0
 ·refine drawE [25] [] [(true, [0, 1, 2]), (true, [3, 4, 5, 6, 9, 7, 8, 10, 11, 12, 13, 14, 15, 16, 17, 18, 20, 22, 19, 21, 23, 24]), (false, [25]), (true, [26, 27])] rfl kr trivial ?_
  have j6 := d0.drew
  refine wU [0, 1, 2] <| wFix 97 _ true (decide_eq_true b2) <| wU [3, 4, 5, 6, 9, 7, 8, 10, 11, 12, 13, 14, 15, 16, 17, 18, 20, 22, 19, 21, 23, 24] <| wO rfl <| pu1 <| nilO ⟨trivial, ?_⟩
  refine wU [26, 27] <| wN <| tN <| cTt <| sR <| pu1 <| zE <| tR <| tK <| tR <| tR <| tK <| tR <| tK <| retT [.bool false] ?_
  first | omega
 obtain ⟨l4, o0, p0, j2, q0, v1, k6⟩ := OwnT.elem u0 (i : Int)
 rw [Int.toNat_natCast] at j2 q0 v1
 obtain rfl : a0 = l4 := Option.some.inj (f1.symm.trans j2)
 rcases bool_em ((a0.part : Int) == 1) ((c0.kind : Int) == 4) with w1 | w1
 rotate_left
 ·refine drawE [25] [(7, ⟨o0, p0 + i * 9 + 1, none⟩, I a0.part), (10, ⟨w0, 0, none⟩, I c0.kind)] [(true, [0, 1, 2]), (true, [3, 4]), (true, [5]), (true, [6, 9]), (true, [7]), (true, [8]), (true, [10]), (true, [11, 12, 13, 14]), (true, [15, 16, 17, 18, 20, 22, 19, 21, 23, 24]), (false, [25]), (true, [26, 27])] rfl kr ⟨.inr ((q0.up 3 rfl).cell d0 (k := 1) rfl), cI d0 1, trivial⟩ ?_
  have k2 := d0.drew
  refine wU [0, 1, 2] <| wFix 97 _ false (decide_eq_false b2) <| wU [3, 4] <| wY (.pointer (some ⟨o0, p0 + i * 9, none⟩)) rfl (fun w _ => Y_idx (a := k0) (i := (i : Int)) (len := h0) (cap := m0) rfl runUnderlying39 sizeOf46 kr kr v1) <| wU [6, 9] <| wLd (I a0.part) 0 isAgg3 <| wU [8] <| wLd (I c0.kind) 1 isAgg3 <| wU [11, 12, 13, 14] <| wFix 109 _ true (congrArg Bool.not (show (((a0.part : Int) == 1) == ((c0.kind : Int) == 4)) = false from by simpa using w1)) ?_
  refine wU [15, 16, 17, 18, 20, 22, 19, 21, 23, 24] <| wO rfl <| pu1 <| nilO ⟨⟨.inr ((q0.up 3 rfl).cell k2 (k := 1) rfl), cI k2 1, trivial⟩, ?_⟩
  refine wU [26, 27] <| wN <| tN <| cTt <| sR <| pu1 <| zE <| tR <| tK <| tR <| tR <| tK <| tR <| tK <| retT [.bool false] ?_
  first | omega | (exact absurd (by rw [Bool.eq_iff_iff]; simp <;> omega) w1)
 refine drawE [25] [(7, ⟨o0, p0 + i * 9 + 1, none⟩, I a0.part), (10, ⟨w0, 0, none⟩, I c0.kind), (19, ⟨o0, p0 + i * 9 + 2 + 0, none⟩, I a0.rectX0), (19, ⟨o0, p0 + i * 9 + 2 + 1, none⟩, I a0.rectY0), (19, ⟨o0, p0 + i * 9 + 2 + 2, none⟩, I a0.rectX1), (19, ⟨o0, p0 + i * 9 + 2 + 3, none⟩, I a0.rectY1), (21, ⟨z0, 0, none⟩, I m.w), (23, ⟨z0, 1, none⟩, I m.h)] [(true, [0, 1, 2]), (true, [3, 4]), (true, [5]), (true, [6, 9]), (true, [7]), (true, [8]), (true, [10]), (true, [11, 12, 13, 14]), (true, [15, 16]), (true, [17]), (true, [18, 20, 22]), (true, [19]), (true, [21]), (true, [23]), (true, [24]), (false, [25]), (true, [26]), (true, [27])] rfl kr ⟨.inr ((q0.up 3 rfl).cell d0 (k := 1) rfl), cI d0 1, .inr ((q0.up 3 rfl).cell d0 (k := 2) rfl), .inr ((q0.up 3 rfl).cell d0 (k := 3) rfl), .inr ((q0.up 3 rfl).cell d0 (k := 4) rfl), .inr ((q0.up 3 rfl).cell d0 (k := 5) rfl), cI d0 0, cI d0 0, trivial⟩ ?_
 have m4 := d0.drew
 refine wU [0, 1, 2] <| wFix 97 _ false (decide_eq_false b2) <| wU [3, 4] <| wY (.pointer (some ⟨o0, p0 + i * 9, none⟩)) rfl (fun w _ => Y_idx (a := k0) (i := (i : Int)) (len := h0) (cap := m0) rfl runUnderlying39 sizeOf46 kr kr v1) <| wU [6, 9] <| wLd (I a0.part) 0 isAgg3 <| wU [8] <| wLd (I c0.kind) 1 isAgg3 <| wU [11, 12, 13, 14] <| wFix 109 _ false (congrArg Bool.not (show (((a0.part : Int) == 1) == ((c0.kind : Int) == 4)) = true from by simpa using w1)) ?_
 refine wU [15, 16] <| wY (.pointer (some ⟨o0, p0 + i * 9, none⟩)) rfl (fun w _ => Y_idx (a := k0) (i := (i : Int)) (len := h0) (cap := m0) rfl runUnderlying39 sizeOf46 kr kr v1) <| wU [18, 20, 22] <| wY (.agg #[I a0.rectX0, I a0.rectY0, I a0.rectX1, I a0.rectY1]) rfl (fun w hF => Y_loadF rfl (isAgg44 w) (sizeOf44 w) kr rfl ⟨hF 2 _ _ rfl, hF 3 _ _ rfl, hF 4 _ _ rfl, hF 5 _ _ rfl, trivial⟩) <| wLd (I m.w) 6 isAgg3 <| wLd (I m.h) 7 isAgg3 <| wU [24] <| wO rfl <| gY <| cR call30 (r2_inside (⟨a0.rectX0, a0.rectY0, a0.rectX1, a0.rectY1⟩ : Rct) (⟨0, 0, m.w, m.h⟩ : Rct) hti0 (by dsimp only; omega) m4.flat) fun _ a1 => ?_
 refine nilO ⟨⟨.inr ((q0.up 3 rfl).cell a1 (k := 1) rfl), cI a1 1, dI, dI, dI, dI, cI a1 0, cI a1 0, trivial⟩, ?_⟩
 refine wU [26] <| wU [27] <| wN <| tN <| cFf <| kS <| pu3 <| sIdxO u0 (i : Int) i runUnderlying39 sizeOf46 fun n4 _ _ o4 p4 _ => ?_
 obtain rfl : a0 = n4 := Option.some.inj (f1.symm.trans o4)
 refine pu1 <| sLpA a1 (p4.up 3 rfl) 2 [I a0.rectX0, I a0.rectY0, I a0.rectX1, I a0.rectY1] (isAgg44 _) (sizeOf44 _) <| cR call31 (r2_area (⟨a0.rectX0, a0.rectY0, a0.rectX1, a0.rectY1⟩ : Rct) hti0 a1.flat) fun _ q4 => sAdd ar ((a0.rectX1 - a0.rectX0) * (a0.rectY1 - a0.rectY0)) <| pu1 <| zS <| pu1 <| nT <| blockE ?_
 refine loopA (γ := Nat) (fun h => [(4, Pt t0 0), (7, .slice k0 h0 m0), (9, .slice q1 v0 r1), (12, I (n : Int)), (13, Pt w0 0), (14, Pt z0 0), (17, I (i : Int)), (15, I (ar + ((a0.rectX1 - a0.rectX0) * (a0.rectY1 - a0.rectY0)))), (16, I mg), (18, I (h : Int))]) (fun h w => Sat W w ([(z0, .cells #[I m.w, I m.h, I m.max_] 54 (0, 0))] :: [(w0, .cells (encStage c0).toArray 38 (0, 0))] :: s1 :: n1 :: o1 :: [(t0, .cells (encJob b0).toArray 28 (0, 0))] :: [(k1, .cells #[.slice t nt kt, I m1] 85 (0, 0))] :: l1 :: H :: F) /\ h <= i) (fun h => i - h) 0 ⟨q4, om⟩ ?_
 rintro h ρ _ ⟨j0, hh⟩
 refine seqE <| sR <| pu3 <| nT <| cD ((h : Int) < (i : Int)) (fun r4 => ?_) (fun r4 => ?_)
 rotate_left
 ·refine exitE <| xB <| bN <| tN <| rE <| pu1 <| sAdd (i : Int) 1 <| pu1 <| nT ?_
  exact ⟨(i + 1, (ar + ((a0.rectX1 - a0.rectX0) * (a0.rectY1 - a0.rectY0))), mg), od, alA, j0, om, (by rw [hAr]; exact hcv.symm), (by rw [hMg]; exact (mrg_same (fun h => by have h1 := h.2; rcases hco_x_92 with h2 | h2 | h2 <;> first | omega | (have h3 := cnt_nx hg (n : Int); have h4 := h.1; have h5 : L.cnt (n : Int) = L.nx (n : Int) * L.ny (n : Int) + 1 := (by unfold Lay.cnt; exact if_pos h4); omega))).symm)⟩
 refine kT <| seqE <| blockE <| seqE ?_
 obtain ⟨e0, r0, s0, l2, n0, z1, r6⟩ := OwnT.elem u0 (h : Int)
 rw [Int.toNat_natCast] at l2 n0 z1
 have hz_x_132 : L.all[h]? = some e0.v := by rw [<- hzv]; exact map_at (f := Task.v) l2
 have hco_x_132 := cov_at hg hz_x_132 hno; simp only [Task.v] at hco_x_132
 by_cases m2 : (e0.stage : Int) = (n : Int)
 rotate_left
 ·refine drawE [18, 19] [(4, ⟨r0, s0 + h * 9 + 0, none⟩, I e0.stage)] [(true, [0, 1]), (true, [2]), (true, [3, 5]), (true, [4]), (true, [6, 7]), (true, [8, 9, 10, 11, 13, 14, 15, 16, 12, 17]), (false, [18]), (false, [19]), (true, [20, 21])] rfl kr ⟨.inr ((n0.up 3 rfl).cell j0 (k := 0) rfl), trivial⟩ ?_
  have c2 := j0.drew
  refine wU [0, 1] <| wY (.pointer (some ⟨r0, s0 + h * 9, none⟩)) rfl (fun w _ => Y_idx (a := k0) (i := (h : Int)) (len := h0) (cap := m0) rfl runUnderlying39 sizeOf46 kr kr z1) <| wU [3, 5] <| wLd (I e0.stage) 0 isAgg3 <| wU [6, 7] <| wFix 143 _ false (beq_eq_false_iff_ne.2 m2) <| wU [8, 9, 10, 11, 13, 14, 15, 16, 12, 17] <| wO rfl <| pu1 <| nilO ⟨⟨.inr ((n0.up 3 rfl).cell c2 (k := 0) rfl), trivial⟩, ?_⟩
  refine wO rfl <| pu1 <| nilO ⟨⟨.inr ((n0.up 3 rfl).cell c2 (k := 0) rfl), trivial⟩, ?_⟩
  exact wU [20, 21] <| wN <| tN <| cFf <| skipE <| bN <| tN <| rE <| pu1 <| sAdd (h : Int) 1 <| pu1 <| nT <| ⟨h + 1, od, alA, c2, om⟩
 obtain ⟨s4, g1, i1, n2, j1, o2, s6⟩ := OwnT.elem u0 (i : Int)
 rw [Int.toNat_natCast] at n2 j1 o2
 obtain rfl : a0 = s4 := Option.some.inj (f1.symm.trans n2)
 refine drawE [18, 19] [(4, ⟨r0, s0 + h * 9 + 0, none⟩, I e0.stage), (12, ⟨r0, s0 + h * 9 + 2 + 0, none⟩, I e0.rectX0), (12, ⟨r0, s0 + h * 9 + 2 + 1, none⟩, I e0.rectY0), (12, ⟨r0, s0 + h * 9 + 2 + 2, none⟩, I e0.rectX1), (12, ⟨r0, s0 + h * 9 + 2 + 3, none⟩, I e0.rectY1), (17, ⟨g1, i1 + i * 9 + 2 + 0, none⟩, I a0.rectX0), (17, ⟨g1, i1 + i * 9 + 2 + 1, none⟩, I a0.rectY0), (17, ⟨g1, i1 + i * 9 + 2 + 2, none⟩, I a0.rectX1), (17, ⟨g1, i1 + i * 9 + 2 + 3, none⟩, I a0.rectY1)] [(true, [0, 1]), (true, [2]), (true, [3, 5]), (true, [4]), (true, [6, 7]), (true, [8, 9]), (true, [10]), (true, [11, 13, 14]), (true, [15]), (true, [16]), (true, [12]), (true, [17]), (false, [18]), (false, [19]), (true, [20]), (true, [21])] rfl kr ⟨.inr ((n0.up 3 rfl).cell j0 (k := 0) rfl), .inr ((n0.up 3 rfl).cell j0 (k := 2) rfl), .inr ((n0.up 3 rfl).cell j0 (k := 3) rfl), .inr ((n0.up 3 rfl).cell j0 (k := 4) rfl), .inr ((n0.up 3 rfl).cell j0 (k := 5) rfl), .inr ((j1.up 3 rfl).cell j0 (k := 2) rfl), .inr ((j1.up 3 rfl).cell j0 (k := 3) rfl), .inr ((j1.up 3 rfl).cell j0 (k := 4) rfl), .inr ((j1.up 3 rfl).cell j0 (k := 5) rfl), trivial⟩ ?_
 have t4 := j0.drew
 refine wU [0, 1] <| wY (.pointer (some ⟨r0, s0 + h * 9, none⟩)) rfl (fun w _ => Y_idx (a := k0) (i := (h : Int)) (len := h0) (cap := m0) rfl runUnderlying39 sizeOf46 kr kr z1) <| wU [3, 5] <| wLd (I e0.stage) 0 isAgg3 <| wU [6, 7] <| wFix 143 _ true (beq_iff_eq.2 m2) <| wU [8, 9] <| wY (.pointer (some ⟨r0, s0 + h * 9, none⟩)) rfl (fun w _ => Y_idx (a := k0) (i := (h : Int)) (len := h0) (cap := m0) rfl runUnderlying39 sizeOf46 kr kr z1) <| wU [11, 13, 14] <| wY (.pointer (some ⟨g1, i1 + i * 9, none⟩)) rfl (fun w _ => Y_idx (a := k0) (i := (i : Int)) (len := h0) (cap := m0) rfl runUnderlying39 sizeOf46 kr kr o2) <| wU [16] ?_
 refine wY (.agg #[I e0.rectX0, I e0.rectY0, I e0.rectX1, I e0.rectY1]) rfl (fun w hF => Y_loadF rfl (isAgg44 w) (sizeOf44 w) kr rfl ⟨hF 1 _ _ rfl, hF 2 _ _ rfl, hF 3 _ _ rfl, hF 4 _ _ rfl, trivial⟩) <| wY (.agg #[I a0.rectX0, I a0.rectY0, I a0.rectX1, I a0.rectY1]) rfl (fun w hF => Y_loadF rfl (isAgg44 w) (sizeOf44 w) kr rfl ⟨hF 5 _ _ rfl, hF 6 _ _ rfl, hF 7 _ _ rfl, hF 8 _ _ rfl, trivial⟩) <| wO rfl <| gY ?_
 refine cR call33 (r2_apart (⟨e0.rectX0, e0.rectY0, e0.rectX1, e0.rectY1⟩ : Rct) (⟨a0.rectX0, a0.rectY0, a0.rectX1, a0.rectY1⟩ : Rct) (ap_at hg hz_x_132 hno (show e0.stage = _ by omega) (show h < i by omega) hc3 hc4).1 hti0 (by have h := (ap_at hg hz_x_132 hno (show e0.stage = _ by omega) (show h < i by omega) hc3 hc4).2; rw [<- hc5] at h; exact h) t4.flat) ?_
 intro _ p2
 refine nilO ⟨⟨.inr ((n0.up 3 rfl).cell p2 (k := 0) rfl), dI, dI, dI, dI, dI, dI, dI, dI, trivial⟩, ?_⟩
 refine wO rfl <| gY <| cR call32 (r2_empty (⟨0, 0, 0, 0⟩ : Rct) p2.flat) fun _ q2 => nilO ⟨⟨.inr ((n0.up 3 rfl).cell q2 (k := 0) rfl), dI, dI, dI, dI, dI, dI, dI, dI, trivial⟩, ?_⟩
 refine wU [20] <| wU [21] <| wN <| tN ?_
 have u4 : (⟨0, 0, 0, 0⟩ : Rct).x0 = 0 /\ (⟨0, 0, 0, 0⟩ : Rct).y0 = 0 /\ (⟨0, 0, 0, 0⟩ : Rct).x1 = 0 /\ (⟨0, 0, 0, 0⟩ : Rct).y1 = 0 := ⟨rfl, rfl, rfl, rfl⟩
 exact cF _ (congrArg Bool.not (decide_eq_true u4)) <| skipE <| bN <| tN <| rE <| pu1 <| sAdd (h : Int) 1 <| pu1 <| nT <| ⟨h + 1, od, alA, q2, om⟩
end Go.Proofs.YtdingplbadblpaaGreat
