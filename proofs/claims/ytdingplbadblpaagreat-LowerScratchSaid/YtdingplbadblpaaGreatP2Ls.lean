import Derived.Test.YtdingplbadblpaaGreatP2Lf
import Derived.Test.YtdingplbadblpaaGreatP2Spoil
namespace Go.Proofs.YtdingplbadblpaaGreat
open Go Go.E
set_option linter.unusedVariables false
set_option linter.unusedSimpArgs false
set_option linter.unnecessarySimpa false
set_option maxRecDepth 100000
set_option maxHeartbeats 2000000
variable {W w : World} {H : Chunk} {F : List Chunk}

-- squeezed
theorem scr_nn (s : StageV) (m : Shape) (p : Int) (r : Rct) : 0 ≤ scrV s m p r := by
  unfold scrV
  split
  · rename_i h
    have hcb := cells_bd (h := m.h) (of_bytOK h.1) h.2.2
    unfold bytV alnV
    omega
  · omega
theorem tg_rect {p : Nat} {a : Option Addr} {n k : Nat} {i : Int} {xs : List Int} (hR : RdT Go.E.encI 1 [H] a n k xs) (hi : 0 ≤ i ∧ i ≤ n) (hS : Sat W w ([(p, .cells #[.slice a n k, I i] 85 (0, 0))] :: H :: F))  :
  Calls Tryz.prog 24 #[Pt p 0] w fun e w' => ∃ (r : Rct), e = .returned (.agg (encRct r).toArray) ∧ ∃ i' : Int, (0 ≤ i' ∧ i' ≤ n) ∧ Sat W w' ([(p, .cells #[.slice a n k, I i'] 85 (0, 0))] :: H :: F) := by
 have hle := hR.le
 refine callsA 46 Tryz.func24 rfl ?_
 refine sR ?_
 refine sAlloc hS Tryz.zeroValue44 ?_
 intro _ _ s0
 refine nT <| sR <| pu1 ?_
 have t0 := (s0.pick 1 rfl)
 refine cX Tryz.call13 (tape_next (RdT.flat (hR.up 1 (by rfl))) om (Sat.flat1 t0) 8 om) ?_
 rintro _ _ ⟨b0, rfl, _, _, _, u0⟩
 have v0 := Sat.unflat1 u0
 refine sSub b0 2 ?_
 refine pu1 ?_
 refine cX Tryz.call13 (tape_next (RdT.flat (hR.up 1 (by rfl))) om (Sat.flat1 v0) 8 om) ?_
 rintro _ _ ⟨a0, rfl, _, _, _, w0⟩
 have x0 := Sat.unflat1 w0
 refine sSub a0 2 ?_
 refine pu1 ?_
 refine sAlloc x0 Tryz.zeroValue44 ?_
 intro l0 _ y0
 refine sT y0 0 0 (.agg #[I (b0 - 2), I (a0 - 2), I 0, I 0]) [I (b0 - 2), I (a0 - 2), I 0, I 0] #[I (b0 - 2), I (a0 - 2), I 0, I 0] Tryz.sizeOf44 ?_
 intro _ h0
 refine nT <| seqE ?_
 refine drawE [4, 10, 13, 15] [(1, ⟨l0, 0, none⟩, I (b0 - 2)), (7, ⟨l0, 1, none⟩, I (a0 - 2))] [(true, [0, 3, 6, 9]), (true, [1]), (true, [2]), (true, [7]), (true, [8]), (false, [4]), (true, [5]), (true, [12]), (false, [10]), (true, [11]), (false, [13]), (true, [14]), (false, [15])] rfl kr ⟨.inr (h0.cell 0 rfl rfl), .inr (h0.cell 0 rfl rfl), trivial⟩ ?_
 have z0 := h0.drew
 refine wU [0, 3, 6, 9] ?_
 refine wLd (I (b0 - 2)) 0 Tryz.isAgg3 ?_
 refine wAdd (b0 - 2) 1 ?_
 refine wLd (I (a0 - 2)) 1 Tryz.isAgg3 ?_
 refine wAdd (a0 - 2) 1 ?_
 refine wO rfl ?_
 have a1 := (z0.pick 1 rfl)
 refine cX Tryz.call13 (tape_next (RdT.flat (hR.up 2 (by rfl))) om (Sat.flat1 a1) 6 om) ?_
 rintro _ _ ⟨f0, rfl, _, _, _, b1⟩
 have i0 := Sat.unflat1 b1
 refine nilO ⟨⟨.inr (i0.cell 1 rfl rfl), .inr (i0.cell 1 rfl rfl), trivial⟩, ?_⟩
 refine wAdd ((b0 - 2) + 1) f0 ?_
 refine wU [12] ?_
 refine wO rfl ?_
 refine cX Tryz.call13 (tape_next (RdT.flat (hR.up 2 (by rfl))) om (Sat.flat1 i0) 6 om) ?_
 rintro _ _ ⟨c0, rfl, _, _, _, c1⟩
 have j0 := Sat.unflat1 c1
 refine nilO ⟨⟨.inr (j0.cell 1 rfl rfl), .inr (j0.cell 1 rfl rfl), trivial⟩, ?_⟩
 refine wAdd ((a0 - 2) + 1) c0 ?_
 refine wO rfl ?_
 refine tW j0 1 2 (I (((b0 - 2) + 1) + f0)) Tryz.sizeOf3 ?_
 intro _ d1
 refine nilO ⟨dA, ?_⟩
 refine wU [14] ?_
 refine wO rfl ?_
 refine tW d1 1 3 (I (((a0 - 2) + 1) + c0)) Tryz.sizeOf3 ?_
 intro _ e1
 refine nilO ⟨dA, ?_⟩
 refine wN ?_
 refine thenK_n <| seqE <| sR <| pu1 ?_
 refine cX Tryz.call13 (tape_next (RdT.flat (hR.up 2 (by rfl))) om (Sat.flat1 e1) 14 om) ?_
 rintro _ _ ⟨k0, rfl, _, _, _, f1⟩
 have g0 := Sat.unflat1 f1
 refine nT <| blockE <| sR <| pu2 <| nT ?_
 refine cE k0 11 (fun g1 => ?_) (fun g1 => ?_)
 ·refine sR <| pu1 ?_
  refine sT g0 2 0 (.agg #[I 0, I 0, I 0, I 0]) [I 0, I 0, I 0, I 0] #[I 0, I 0, I 0, I 0] Tryz.sizeOf44 ?_
  intro _ m0
  refine nT <| retE <| blockK_r <| thenK_r <| retN (vs := [.agg #[I 0, I 0, I 0, I 0]]) rfl (.cons (.cell _ _ _ _ kr (lvA m0 2 0 [I 0, I 0, I 0, I 0] (Tryz.isAgg44 _) (Tryz.sizeOf44 _) rfl rfl rfl)) .nil) ?_
  have h1 := (m0.drops [1, 1])
  exact ⟨(⟨0, 0, 0, 0⟩ : Rct), rfl, _, om, h1⟩
 refine sR <| pu2 <| nT ?_
 refine cE k0 12 (fun i1 => ?_) (fun i1 => ?_)
 ·refine regionE <| pu1 ?_
  refine sL g0 1 0 (I (b0 - 2)) (Tryz.isAgg3 _) ?_
  refine pu1 ?_
  refine tW g0 1 2 (I (b0 - 2)) Tryz.sizeOf3 ?_
  intro _ n0
  refine nB <| sR ?_
  refine lA n0 1 0 4 (Tryz.isAgg44 _) (Tryz.sizeOf44 _) ?_
  refine sT n0 2 0 (.agg #[I (b0 - 2), I (a0 - 2), I (b0 - 2), I (((a0 - 2) + 1) + c0)]) [I (b0 - 2), I (a0 - 2), I (b0 - 2), I (((a0 - 2) + 1) + c0)] #[I (b0 - 2), I (a0 - 2), I (b0 - 2), I (((a0 - 2) + 1) + c0)] Tryz.sizeOf44 ?_
  intro _ o0
  refine nT <| retE <| retN (vs := [.agg #[I (b0 - 2), I (a0 - 2), I (b0 - 2), I (((a0 - 2) + 1) + c0)]]) rfl (.cons (.cell _ _ _ _ kr (lvA o0 2 0 [I (b0 - 2), I (a0 - 2), I (b0 - 2), I (((a0 - 2) + 1) + c0)] (Tryz.isAgg44 _) (Tryz.sizeOf44 _) rfl rfl rfl)) .nil) ?_
  have j1 := (o0.drops [1, 1])
  exact ⟨(⟨(b0 - 2), (a0 - 2), (b0 - 2), (((a0 - 2) + 1) + c0)⟩ : Rct), rfl, _, om, j1⟩
 refine sR <| pu2 <| nT ?_
 refine cE k0 13 (fun k1 => ?_) (fun k1 => ?_)
 rotate_left
 ·refine skipE <| blockK_n <| thenK_n <| sR ?_
  refine lA g0 1 0 4 (Tryz.isAgg44 _) (Tryz.sizeOf44 _) ?_
  refine sT g0 2 0 (.agg #[I (b0 - 2), I (a0 - 2), I (((b0 - 2) + 1) + f0), I (((a0 - 2) + 1) + c0)]) [I (b0 - 2), I (a0 - 2), I (((b0 - 2) + 1) + f0), I (((a0 - 2) + 1) + c0)] #[I (b0 - 2), I (a0 - 2), I (((b0 - 2) + 1) + f0), I (((a0 - 2) + 1) + c0)] Tryz.sizeOf44 ?_
  intro _ p0
  refine nT <| retE <| retN (vs := [.agg #[I (b0 - 2), I (a0 - 2), I (((b0 - 2) + 1) + f0), I (((a0 - 2) + 1) + c0)]]) rfl (.cons (.cell _ _ _ _ kr (lvA p0 2 0 [I (b0 - 2), I (a0 - 2), I (((b0 - 2) + 1) + f0), I (((a0 - 2) + 1) + c0)] (Tryz.isAgg44 _) (Tryz.sizeOf44 _) rfl rfl rfl)) .nil) ?_
  have l1 := (p0.drops [1, 1])
  exact ⟨(⟨(b0 - 2), (a0 - 2), (((b0 - 2) + 1) + f0), (((a0 - 2) + 1) + c0)⟩ : Rct), rfl, _, om, l1⟩
 refine regionE <| pu1 ?_
 refine sBS g0 #[I (-1048576), I (-1048577)] Tryz.runUnderlying22 Tryz.sizeOf3 Tryz.zeroValue3 ?_
 intro _ _ m1
 have n1 := (m1.pick 1 rfl)
 refine cX Tryz.call38 (tape_pick (RdT.flat (hR.up 3 (by rfl))) om (Sat.flat1 n1) (RdT.flat (RdT.blk (enc := Go.E.encI) (sz := 1) (xs := [-1048576, -1048577]) (fun _ => (by rfl)) 2 0 rfl rfl rfl om)) om om) ?_
 rintro _ _ ⟨d0, rfl, o1, _, _, p1⟩
 have q1 := Sat.unflat1 p1
 have h3 : (d0 : Int) = (-1048576) ∨ (d0 : Int) = (-1048577) := by simpa using o1
 refine pu1 ?_
 refine sBS q1 #[I 1048576, I 1048577] Tryz.runUnderlying22 Tryz.sizeOf3 Tryz.zeroValue3 ?_
 intro _ _ r1
 have s1 := (r1.pick 1 rfl)
 refine cX Tryz.call38 (tape_pick (RdT.flat (hR.up 4 (by rfl))) om (Sat.flat1 s1) (RdT.flat (RdT.blk (enc := Go.E.encI) (sz := 1) (xs := [1048576, 1048577]) (fun _ => (by rfl)) 2 0 rfl rfl rfl om)) om om) ?_
 rintro _ _ ⟨e0, rfl, t1, _, _, u1⟩
 have v1 := Sat.unflat1 u1
 have n3 : (e0 : Int) = 1048576 ∨ (e0 : Int) = 1048577 := by simpa using t1
 refine pu1 ?_
 refine tW v1 3 0 (I d0) Tryz.sizeOf3 ?_
 intro _ w1
 refine pu1 ?_
 refine tW w1 3 2 (I e0) Tryz.sizeOf3 ?_
 intro _ q0
 refine nB <| sR ?_
 refine lA q0 3 0 4 (Tryz.isAgg44 _) (Tryz.sizeOf44 _) ?_
 refine sT q0 4 0 (.agg #[I d0, I (a0 - 2), I e0, I (((a0 - 2) + 1) + c0)]) [I d0, I (a0 - 2), I e0, I (((a0 - 2) + 1) + c0)] #[I d0, I (a0 - 2), I e0, I (((a0 - 2) + 1) + c0)] Tryz.sizeOf44 ?_
 intro _ r0
 refine nT <| retE <| retN (vs := [.agg #[I d0, I (a0 - 2), I e0, I (((a0 - 2) + 1) + c0)]]) rfl (.cons (.cell _ _ _ _ kr (lvA r0 4 0 [I d0, I (a0 - 2), I e0, I (((a0 - 2) + 1) + c0)] (Tryz.isAgg44 _) (Tryz.sizeOf44 _) rfl rfl rfl)) .nil) ?_
 have x1 := (r0.drops [1, 1, 1, 1])
 exact ⟨(⟨d0, (a0 - 2), e0, (((a0 - 2) + 1) + c0)⟩ : Rct), rfl, _, om, x1⟩
theorem tg_within {p : Nat} {a : Option Addr} {n k : Nat} {i : Int} {xs : List Int} (hR : RdT Go.E.encI 1 [H] a n k xs) (hi : 0 ≤ i ∧ i ≤ n) (hS : Sat W w ([(p, .cells #[.slice a n k, I i] 85 (0, 0))] :: H :: F)) (w0 : Int) (h0 : Int) (hw : 1 ≤ w0 ∧ w0 ≤ 1000) (hh : 1 ≤ h0 ∧ h0 ≤ 1000) :
  Calls Tryz.prog 28 #[Pt p 0, I w0, I h0] w fun e w' => ∃ (r : Rct), e = .returned (.agg (encRct r).toArray) ∧ ∃ i' : Int, (0 ≤ i' ∧ i' ≤ n) ∧ Sat W w' ([(p, .cells #[.slice a n k, I i'] 85 (0, 0))] :: H :: F) := by
 have hle := hR.le
 refine callsA 38 Tryz.func28 rfl ?_
 refine sR ?_
 refine sAlloc hS Tryz.zeroValue44 ?_
 intro _ _ l0
 refine nT <| sR <| pu2 ?_
 have m0 := (l0.pick 1 rfl)
 refine cX Tryz.call13 (tape_next (RdT.flat (hR.up 1 (by rfl))) om (Sat.flat1 m0) w0 om) ?_
 rintro _ _ ⟨a0, rfl, _, _, _, n0⟩
 have o0 := Sat.unflat1 n0
 refine pu2 ?_
 refine cX Tryz.call13 (tape_next (RdT.flat (hR.up 1 (by rfl))) om (Sat.flat1 o0) h0 om) ?_
 rintro _ _ ⟨b0, rfl, _, _, _, p0⟩
 have q0 := Sat.unflat1 p0
 refine pu1 ?_
 refine sAlloc q0 Tryz.zeroValue44 ?_
 intro i0 _ r0
 refine sT r0 0 0 (.agg #[I a0, I b0, I 0, I 0]) [I a0, I b0, I 0, I 0] #[I a0, I b0, I 0, I 0] Tryz.sizeOf44 ?_
 intro _ e0
 refine nT <| seqE ?_
 refine drawE [8, 18, 21, 23] [(1, ⟨i0, 0, none⟩, I a0), (6, ⟨i0, 0, none⟩, I a0), (11, ⟨i0, 1, none⟩, I b0), (16, ⟨i0, 1, none⟩, I b0)] [(true, [0, 3, 4, 5, 10, 13, 14, 15]), (true, [1]), (true, [2]), (true, [6]), (true, [7]), (true, [11]), (true, [12]), (true, [16]), (true, [17]), (false, [8]), (true, [9]), (true, [20]), (false, [18]), (true, [19]), (false, [21]), (true, [22]), (false, [23])] rfl kr ⟨.inr (e0.cell 0 rfl rfl), .inr (e0.cell 0 rfl rfl), .inr (e0.cell 0 rfl rfl), .inr (e0.cell 0 rfl rfl), trivial⟩ ?_
 have s0 := e0.drew
 refine wU [0, 3, 4, 5, 10, 13, 14, 15] ?_
 refine wLd (I a0) 0 Tryz.isAgg3 ?_
 refine wAdd a0 1 ?_
 refine wLd (I a0) 1 Tryz.isAgg3 ?_
 refine wSub w0 a0 ?_
 refine wLd (I b0) 2 Tryz.isAgg3 ?_
 refine wAdd b0 1 ?_
 refine wLd (I b0) 3 Tryz.isAgg3 ?_
 refine wSub h0 b0 ?_
 refine wO rfl ?_
 have t0 := (s0.pick 1 rfl)
 refine cX Tryz.call13 (tape_next (RdT.flat (hR.up 2 (by rfl))) om (Sat.flat1 t0) (w0 - a0) om) ?_
 rintro _ _ ⟨c0, rfl, _, _, _, u0⟩
 have f0 := Sat.unflat1 u0
 refine nilO ⟨⟨.inr (f0.cell 1 rfl rfl), .inr (f0.cell 1 rfl rfl), .inr (f0.cell 1 rfl rfl), .inr (f0.cell 1 rfl rfl), trivial⟩, ?_⟩
 refine wAdd (a0 + 1) c0 ?_
 refine wU [20] ?_
 refine wO rfl ?_
 refine cX Tryz.call13 (tape_next (RdT.flat (hR.up 2 (by rfl))) om (Sat.flat1 f0) (h0 - b0) om) ?_
 rintro _ _ ⟨d0, rfl, _, _, _, v0⟩
 have g0 := Sat.unflat1 v0
 refine nilO ⟨⟨.inr (g0.cell 1 rfl rfl), .inr (g0.cell 1 rfl rfl), .inr (g0.cell 1 rfl rfl), .inr (g0.cell 1 rfl rfl), trivial⟩, ?_⟩
 refine wAdd (b0 + 1) d0 ?_
 refine wO rfl ?_
 refine tW g0 1 2 (I ((a0 + 1) + c0)) Tryz.sizeOf3 ?_
 intro _ x0
 refine nilO ⟨dA, ?_⟩
 refine wU [22] ?_
 refine wO rfl ?_
 refine tW x0 1 3 (I ((b0 + 1) + d0)) Tryz.sizeOf3 ?_
 intro _ j0
 refine nilO ⟨dA, ?_⟩
 refine wN ?_
 refine thenK_n <| sR ?_
 refine lA j0 1 0 4 (Tryz.isAgg44 _) (Tryz.sizeOf44 _) ?_
 refine sT j0 2 0 (.agg #[I a0, I b0, I ((a0 + 1) + c0), I ((b0 + 1) + d0)]) [I a0, I b0, I ((a0 + 1) + c0), I ((b0 + 1) + d0)] #[I a0, I b0, I ((a0 + 1) + c0), I ((b0 + 1) + d0)] Tryz.sizeOf44 ?_
 intro _ k0
 refine nT <| retE <| retN (vs := [.agg #[I a0, I b0, I ((a0 + 1) + c0), I ((b0 + 1) + d0)]]) rfl (.cons (.cell _ _ _ _ kr (lvA k0 2 0 [I a0, I b0, I ((a0 + 1) + c0), I ((b0 + 1) + d0)] (Tryz.isAgg44 _) (Tryz.sizeOf44 _) rfl rfl rfl)) .nil) ?_
 have y0 := (k0.drops [1, 1])
 exact ⟨(⟨a0, b0, ((a0 + 1) + c0), ((b0 + 1) + d0)⟩ : Rct), rfl, _, om, y0⟩
theorem l20_scratch (W w : World) (H : Chunk) (F : List Chunk) (t : Option Addr) (nt kt : Nat) (xt : List Int) (s : Shape) (part : Int) (r : Rct) (ht : RdT Go.E.encI 1 [H] t nt kt xt) (_hpart : -9223372036854775808 ≤ part ∧ part ≤ 9223372036854775807) (hS : Sat W w (H :: F)) :
  Calls Tryz.prog 5 #[.slice t nt kt, .agg #[I s.w, I s.h, I s.max_], I part, .agg (encRct r).toArray] w fun e w' => e = .returned (.bool true) ∧ Sat W w' (H :: F) := by
 have hlt := ht.le
 refine callsA 67 Tryz.func5 rfl ?_
 refine sR ?_
 refine sBox hS (.agg #[I s.w, I s.h, I s.max_]) #[I s.w, I s.h, I s.max_] ?_
 intro h0 _ j1
 refine sBox j1 (.agg (encRct r).toArray) (encRct r).toArray ?_
 intro f0 _ k1
 refine pu1 <| nT <| sR <| pu1 ?_
 refine cX Tryz.call11 (tape_new t nt kt k1) ?_
 rintro _ _ ⟨n0, rfl, l1⟩
 have r4 := ht.le
 refine pu1 <| nT <| seqE <| sR <| pu1 <| nT <| blockE ?_
 refine loopA (γ := Nat × Int) (fun ⟨i, iti⟩ => [(2, I part), (5, Pt h0 0), (7, Pt f0 0), (9, Pt n0 0), (10, I ((i : Nat) : Int))]) (fun ⟨i, iti⟩ w => Sat W w ([(n0, .cells #[.slice t nt kt, I iti] 85 (0, 0))] :: [(f0, .cells (encRct r).toArray 44 (0, 0))] :: [(h0, .cells #[I s.w, I s.h, I s.max_] 54 (0, 0))] :: H :: F) ∧ i ≤ 5 ∧ (0 ≤ iti ∧ iti ≤ nt)) (fun ⟨i, iti⟩ => 5 - i) (0, 0) ⟨l1, om, om⟩ ?_
 rintro ⟨i, iti⟩ ρ _ ⟨d1, hi, hiti⟩
 refine seqE <| sR <| pu2 <| nT ?_
 refine cD (((i : Nat) : Int) < 5) (fun o1 => ?_) (fun o1 => ?_)
 rotate_left
 ·refine exitE <| xB <| thenK_n <| sR ?_
  refine cR Tryz.call17 (l20_sane  (Sat.flat d1)) ?_
  intro _ p1
  refine pu1 <| nT <| retE <| retT [.bool true] ?_
  have s1 := (p1.pick 3 rfl)
  have t1 := s1.dropAt 1 rfl
  have u1 := t1.dropAt 1 rfl
  have v1 := u1.dropAt 1 rfl
  exact ⟨rfl, v1⟩
 refine kT <| seqE <| blockE <| sR <| pu1 ?_
 refine cX Tryz.call13 (tape_next (RdT.flat (ht.up 2 (by rfl))) om (Sat.flat1 d1) 6 om) ?_
 rintro _ _ ⟨i0, rfl, _, _, _, w1⟩
 have z1 := Sat.unflat1 w1
 refine sAdd 1 i0 ?_
 refine pu1 ?_
 refine cX Tryz.call13 (tape_next (RdT.flat (ht.up 2 (by rfl))) om (Sat.flat1 z1) 5 om) ?_
 rintro _ _ ⟨j0, rfl, _, _, _, a2⟩
 have b2 := Sat.unflat1 a2
 refine sAdd 1 j0 ?_
 refine pu1 ?_
 refine sAlloc b2 Tryz.zeroValue54 ?_
 intro g0 _ c2
 refine sT c2 0 0 (.agg #[I (1 + i0), I (1 + j0), I 255]) [I (1 + i0), I (1 + j0), I 255] #[I (1 + i0), I (1 + j0), I 255] Tryz.sizeOf54 ?_
 intro _ e1
 refine nT <| sR <| pu1 ?_
 refine lA e1 0 0 3 (Tryz.isAgg54 _) (Tryz.sizeOf54 _) ?_
 have e5 : szP (⟨(1 + i0), (1 + j0), 255⟩ : Shape) := by have hm := mul_bd (a := (1 + i0)) (b := (1 + j0)) (A := 6) (B := 5) om om; unfold szP; dsimp only; omega
 have d2 := (e1.pick 1 rfl)
 refine cX Tryz.call23 (tg_stage (RdT.flat (ht.up 3 (by rfl))) om (Sat.flat1 d2) 0 (⟨(1 + i0), (1 + j0), 255⟩ : Shape) (-1) ‹_› (by unfold numB; omega)) ?_
 rintro _ _ ⟨o0, s0, rfl, k0, e2, _, _, _, f2⟩
 have g2 := Sat.unflat2 f2
 refine sAlloc g2 Tryz.zeroValue38 ?_
 intro b0 _ h2
 refine sT h2 0 0 (.agg (encStage o0).toArray) (encStage o0) (encStage o0).toArray Tryz.sizeOf38 ?_
 intro _ i2
 refine nT <| sR <| pu1 ?_
 have j2 := (i2.pick 1 rfl)
 refine cX Tryz.call13 (tape_next (RdT.flat (ht.up 5 (by rfl))) om (Sat.flat1 j2) 4 om) ?_
 rintro _ _ ⟨f1, rfl, _, _, _, k2⟩
 have l2 := Sat.unflat1 k2
 refine pu1 ?_
 refine cX Tryz.call24 (tg_rect (RdT.flat (ht.up 5 (by rfl))) om (Sat.flat1 l2) ) ?_
 rintro _ _ ⟨e0, rfl, o2, _, p2⟩
 have s2 := Sat.unflat1 p2
 refine sAlloc s2 Tryz.zeroValue44 ?_
 intro d0 _ t2
 refine pu1 ?_
 refine sT t2 0 0 (.agg (encRct e0).toArray) (encRct e0) (encRct e0).toArray Tryz.sizeOf44 ?_
 intro _ u0
 refine nT ?_
 refine cutA (γ := Stage × Chunk × Shape × Int × Rct × Int) (fun ⟨q1, J1, m1, n1, r1, it1⟩ => [(2, I part), (5, Pt h0 0), (7, Pt f0 0), (9, Pt n0 0), (10, I ((i : Nat) : Int)), (11, Pt g0 0), (12, Pt b0 0), (14, Pt d0 0), (13, I n1)]) (fun ⟨q1, J1, m1, n1, r1, it1⟩ w => Sat W w ([(n0, .cells #[.slice t nt kt, I it1] 85 (0, 0))] :: J1 :: [(b0, .cells (encStage q1).toArray 38 (0, 0))] :: [(g0, .cells #[I m1.w, I m1.h, I m1.max_] 54 (0, 0))] :: [(d0, .cells (encRct r1).toArray 44 (0, 0))] :: [(f0, .cells (encRct r).toArray 44 (0, 0))] :: [(h0, .cells #[I s.w, I s.h, I s.max_] 54 (0, 0))] :: H :: F) ∧ (0 ≤ it1 ∧ it1 ≤ nt) ∧ Stage.Ok [J1] q1 ∧ -9223372036854775808 ≤ n1 ∧ n1 ≤ 9223372036854775807) ?_ ?_
 ·refine sR <| pu2 <| nT ?_
  refine cD (((i : Nat) : Int) > 2) (fun u2 => ?_) (fun u2 => ?_)
  rotate_left
  ·refine kT ?_
   have v2 := (u0.picks [4, 3, 4, 4])
   exact ⟨(o0, s0, (⟨(1 + i0), (1 + j0), 255⟩ : Shape), f1, (⟨e0.x0, e0.y0, e0.x1, e0.y1⟩ : Rct), o2), alA, v2, om, k0, om⟩
  refine regionE <| pu1 ?_
  refine lA u0 2 0 18 (Tryz.isAgg38 _) (Tryz.sizeOf38 _) ?_
  have w2 := (u0.pick 1 rfl)
  have x2 := (w2.picks [3, 1])
  refine cX Tryz.call25 (tg_spoilStage (RdT.flat (ht.up 5 (by rfl))) om (Sat.flat2 x2) o0 ⟨k0.weights, k0.row, k0.col, k0.x, k0.xD, k0.y, k0.yD, k0.ops⟩ 0 om e2) ?_
  rintro _ _ ⟨t0, v0, rfl, y2, _, w0, _, z2⟩
  have a3 := Sat.unflat3 z2
  have b3 := (a3.picks [2, 2, 2])
  have c3 : Sat W _ ([(n0, .cells #[.slice t nt kt, I w0] 85 (0, 0))] :: (v0 ++ s0) :: [(d0, .cells (encRct e0).toArray 44 (0, 0))] :: [(b0, .cells (encStage o0).toArray 38 (0, 0))] :: [(g0, .cells #[I (1 + i0), I (1 + j0), I 255] 54 (0, 0))] :: [(f0, .cells (encRct r).toArray 44 (0, 0))] :: [(h0, .cells #[I s.w, I s.h, I s.max_] 54 (0, 0))] :: H :: F) := Sat.perm (show Sat W _ ([(n0, .cells #[.slice t nt kt, I w0] 85 (0, 0))] :: v0 :: s0 :: [(d0, .cells (encRct e0).toArray 44 (0, 0))] :: [(b0, .cells (encStage o0).toArray 38 (0, 0))] :: [(g0, .cells #[I (1 + i0), I (1 + j0), I 255] 54 (0, 0))] :: [(f0, .cells (encRct r).toArray 44 (0, 0))] :: [(h0, .cells #[I s.w, I s.h, I s.max_] 54 (0, 0))] :: H :: F) from b3) (by simp [Value.cells])
  refine sT c3 3 0 (.agg (encStage t0).toArray) (encStage t0) (encStage t0).toArray Tryz.sizeOf38 ?_
  intro _ d3
  refine nT ?_
  have e3 := (d3.picks [4, 4, 3, 3])
  exact ⟨(t0, (v0 ++ s0), (⟨(1 + i0), (1 + j0), 255⟩ : Shape), f1, (⟨e0.x0, e0.y0, e0.x1, e0.y1⟩ : Rct), w0), alA, e3, om, y2, om⟩
 rintro ⟨q1, J1, m1, n1, r1, it1⟩ ρ _ ⟨l0, hit1, hq1, hn1⟩
 refine cutA (γ := Stage × Chunk × Shape × Int × Rct × Int) (fun ⟨q2, J2, m2, n2, r2, it2⟩ => [(2, I part), (5, Pt h0 0), (7, Pt f0 0), (9, Pt n0 0), (10, I ((i : Nat) : Int)), (11, Pt g0 0), (12, Pt b0 0), (14, Pt d0 0), (13, I n2)]) (fun ⟨q2, J2, m2, n2, r2, it2⟩ w => Sat W w ([(n0, .cells #[.slice t nt kt, I it2] 85 (0, 0))] :: J2 :: [(b0, .cells (encStage q2).toArray 38 (0, 0))] :: [(g0, .cells #[I m2.w, I m2.h, I m2.max_] 54 (0, 0))] :: [(d0, .cells (encRct r2).toArray 44 (0, 0))] :: [(f0, .cells (encRct r).toArray 44 (0, 0))] :: [(h0, .cells #[I s.w, I s.h, I s.max_] 54 (0, 0))] :: H :: F) ∧ (0 ≤ it2 ∧ it2 ≤ nt) ∧ Stage.Ok [J2] q2 ∧ -9223372036854775808 ≤ n2 ∧ n2 ≤ 9223372036854775807) ?_ ?_
 ·refine sR <| pu2 <| nT ?_
  refine cE ((i : Nat) : Int) 4 (fun g3 => ?_) (fun g3 => ?_)
  rotate_left
  ·refine kT ?_
   exact ⟨(q1, J1, (⟨m1.w, m1.h, m1.max_⟩ : Shape), n1, (⟨r1.x0, r1.y0, r1.x1, r1.y1⟩ : Rct), it1), alA, l0, om, hq1, om⟩
  refine drawE [3, 5] [(0, ⟨h0, 0, none⟩, I s.w), (0, ⟨h0, 1, none⟩, I s.h), (0, ⟨h0, 2, none⟩, I s.max_), (2, ⟨f0, 0, none⟩, I r.x0), (2, ⟨f0, 1, none⟩, I r.y0), (2, ⟨f0, 2, none⟩, I r.x1), (2, ⟨f0, 3, none⟩, I r.y1)] [(true, [1]), (true, [0]), (true, [2]), (false, [3]), (true, [4]), (false, [5])] rfl kr ⟨.inr (l0.cell 6 rfl rfl), .inr (l0.cell 6 rfl rfl), .inr (l0.cell 6 rfl rfl), .inr (l0.cell 5 rfl rfl), .inr (l0.cell 5 rfl rfl), .inr (l0.cell 5 rfl rfl), .inr (l0.cell 5 rfl rfl), trivial⟩ ?_
  have h3 := l0.drew
  refine wU [1] ?_
  refine wY (.agg #[I s.w, I s.h, I s.max_]) rfl (fun w hF => Y_loadF rfl (Tryz.isAgg54 w) (Tryz.sizeOf54 w) kr rfl ⟨hF 0 _ _ rfl, hF 1 _ _ rfl, hF 2 _ _ rfl, trivial⟩) ?_
  refine wY (.agg (encRct r).toArray) rfl (fun w hF => Y_loadF rfl (Tryz.isAgg44 w) (Tryz.sizeOf44 w) kr rfl ⟨hF 3 _ _ rfl, hF 4 _ _ rfl, hF 5 _ _ rfl, hF 6 _ _ rfl, trivial⟩) ?_
  refine wO rfl ?_
  refine sT h3 3 0 (.agg #[I s.w, I s.h, I s.max_]) [I s.w, I s.h, I s.max_] #[I s.w, I s.h, I s.max_] Tryz.sizeOf54 ?_
  intro _ r0
  refine nilO ⟨⟨dI, dI, dI, .inr (r0.cell 5 rfl rfl), .inr (r0.cell 5 rfl rfl), .inr (r0.cell 5 rfl rfl), .inr (r0.cell 5 rfl rfl), trivial⟩, ?_⟩
  refine wU [4] ?_
  refine wO rfl ?_
  refine sT r0 4 0 (.agg (encRct r).toArray) (encRct r) (encRct r).toArray Tryz.sizeOf44 ?_
  intro _ i3
  refine nilO ⟨dA, ?_⟩
  refine wN ?_
  refine thenK_n ?_
  exact ⟨(q1, J1, (⟨s.w, s.h, s.max_⟩ : Shape), part, (⟨r.x0, r.y0, r.x1, r.y1⟩ : Rct), it1), alA, i3, om, hq1, om⟩
 rintro ⟨q2, J2, m2, n2, r2, it2⟩ ρ _ ⟨a0, hit2, hq2, hn2⟩
 refine seqE ?_
 refine drawP [4, 9, 12, 13, 17, 18] [(0, ⟨b0, 0, none⟩, I q2.kind), (0, ⟨b0, 1, none⟩, I q2.a), (0, ⟨b0, 2, none⟩, I q2.b), (0, ⟨b0, 3, none⟩, .bool q2.barrier), (0, ⟨b0, 4, none⟩, I q2.edgePolicy), (0, ⟨b0, 5, none⟩, I q2.edgeFill), (0, ⟨b0, 6, none⟩, I q2.kW), (0, ⟨b0, 7, none⟩, I q2.kH), (0, ⟨b0, 8, none⟩, .slice q2.weights.a q2.weights.n q2.weights.k), (0, ⟨b0, 9, none⟩, .slice q2.row.a q2.row.n q2.row.k), (0, ⟨b0, 10, none⟩, .slice q2.col.a q2.col.n q2.col.k), (0, ⟨b0, 11, none⟩, I q2.shift), (0, ⟨b0, 12, none⟩, I q2.shift2), (0, ⟨b0, 13, none⟩, .slice q2.x.a q2.x.n q2.x.k), (0, ⟨b0, 14, none⟩, .slice q2.y.a q2.y.n q2.y.k), (0, ⟨b0, 15, none⟩, I q2.bins), (0, ⟨b0, 16, none⟩, .slice q2.ops.a q2.ops.n q2.ops.k), (0, ⟨b0, 17, none⟩, I q2.max_), (1, ⟨g0, 0, none⟩, I m2.w), (1, ⟨g0, 1, none⟩, I m2.h), (1, ⟨g0, 2, none⟩, I m2.max_), (3, ⟨d0, 0, none⟩, I r2.x0), (3, ⟨d0, 1, none⟩, I r2.y0), (3, ⟨d0, 2, none⟩, I r2.x1), (3, ⟨d0, 3, none⟩, I r2.y1), (5, ⟨b0, 0, none⟩, I q2.kind), (5, ⟨b0, 1, none⟩, I q2.a), (5, ⟨b0, 2, none⟩, I q2.b), (5, ⟨b0, 3, none⟩, .bool q2.barrier), (5, ⟨b0, 4, none⟩, I q2.edgePolicy), (5, ⟨b0, 5, none⟩, I q2.edgeFill), (5, ⟨b0, 6, none⟩, I q2.kW), (5, ⟨b0, 7, none⟩, I q2.kH), (5, ⟨b0, 8, none⟩, .slice q2.weights.a q2.weights.n q2.weights.k), (5, ⟨b0, 9, none⟩, .slice q2.row.a q2.row.n q2.row.k), (5, ⟨b0, 10, none⟩, .slice q2.col.a q2.col.n q2.col.k), (5, ⟨b0, 11, none⟩, I q2.shift), (5, ⟨b0, 12, none⟩, I q2.shift2), (5, ⟨b0, 13, none⟩, .slice q2.x.a q2.x.n q2.x.k), (5, ⟨b0, 14, none⟩, .slice q2.y.a q2.y.n q2.y.k), (5, ⟨b0, 15, none⟩, I q2.bins), (5, ⟨b0, 16, none⟩, .slice q2.ops.a q2.ops.n q2.ops.k), (5, ⟨b0, 17, none⟩, I q2.max_), (6, ⟨g0, 0, none⟩, I m2.w), (6, ⟨g0, 1, none⟩, I m2.h), (6, ⟨g0, 2, none⟩, I m2.max_), (8, ⟨d0, 0, none⟩, I r2.x0), (8, ⟨d0, 1, none⟩, I r2.y0), (8, ⟨d0, 2, none⟩, I r2.x1), (8, ⟨d0, 3, none⟩, I r2.y1)] (Plan.sts [2, 7] <| Plan.sts [0] <| Plan.sts [1] <| Plan.sts [3] <| Plan.sts [5] <| Plan.sts [6] <| Plan.sts [8] <| .ef 4 <| .ef 9 <| Plan.sts [10] <| Plan.sts [11] <| Plan.sts [14] <| Plan.sts [15] <| Plan.sts [16] <| .f3 12 13 17 (.fk 13 17 (.ef 17 <| .ef 18 <| Plan.sts [19] <| Plan.sts [20] <| .fin) (.ef 13 <| .ef 18 <| Plan.sts [19] <| Plan.sts [20] <| .fin)) (.fk 12 17 (.ef 17 <| .ef 18 <| Plan.sts [19] <| Plan.sts [20] <| .fin) (.ef 12 <| .ef 18 <| Plan.sts [19] <| Plan.sts [20] <| .fin)) (.fk 12 13 (.ef 13 <| .ef 18 <| Plan.sts [19] <| Plan.sts [20] <| .fin) (.ef 12 <| .ef 18 <| Plan.sts [19] <| Plan.sts [20] <| .fin))) rfl kr ⟨.inr (a0.cell 2 rfl rfl), .inr (a0.cell 2 rfl rfl), .inr (a0.cell 2 rfl rfl), .inr (a0.cell 2 rfl rfl), .inr (a0.cell 2 rfl rfl), .inr (a0.cell 2 rfl rfl), .inr (a0.cell 2 rfl rfl), .inr (a0.cell 2 rfl rfl), .inr (a0.cell 2 rfl rfl), .inr (a0.cell 2 rfl rfl), .inr (a0.cell 2 rfl rfl), .inr (a0.cell 2 rfl rfl), .inr (a0.cell 2 rfl rfl), .inr (a0.cell 2 rfl rfl), .inr (a0.cell 2 rfl rfl), .inr (a0.cell 2 rfl rfl), .inr (a0.cell 2 rfl rfl), .inr (a0.cell 2 rfl rfl), .inr (a0.cell 3 rfl rfl), .inr (a0.cell 3 rfl rfl), .inr (a0.cell 3 rfl rfl), .inr (a0.cell 4 rfl rfl), .inr (a0.cell 4 rfl rfl), .inr (a0.cell 4 rfl rfl), .inr (a0.cell 4 rfl rfl), .inr (a0.cell 2 rfl rfl), .inr (a0.cell 2 rfl rfl), .inr (a0.cell 2 rfl rfl), .inr (a0.cell 2 rfl rfl), .inr (a0.cell 2 rfl rfl), .inr (a0.cell 2 rfl rfl), .inr (a0.cell 2 rfl rfl), .inr (a0.cell 2 rfl rfl), .inr (a0.cell 2 rfl rfl), .inr (a0.cell 2 rfl rfl), .inr (a0.cell 2 rfl rfl), .inr (a0.cell 2 rfl rfl), .inr (a0.cell 2 rfl rfl), .inr (a0.cell 2 rfl rfl), .inr (a0.cell 2 rfl rfl), .inr (a0.cell 2 rfl rfl), .inr (a0.cell 2 rfl rfl), .inr (a0.cell 2 rfl rfl), .inr (a0.cell 3 rfl rfl), .inr (a0.cell 3 rfl rfl), .inr (a0.cell 3 rfl rfl), .inr (a0.cell 4 rfl rfl), .inr (a0.cell 4 rfl rfl), .inr (a0.cell 4 rfl rfl), .inr (a0.cell 4 rfl rfl), trivial⟩ ?_
 have j3 := a0.drew
 refine qU [2, 7] ?_
 refine qY (.agg (encStage q2).toArray) rfl (fun w hF => Y_loadF rfl (Tryz.isAgg38 w) (Tryz.sizeOf38 w) kr rfl ⟨hF 0 _ _ rfl, hF 1 _ _ rfl, hF 2 _ _ rfl, hF 3 _ _ rfl, hF 4 _ _ rfl, hF 5 _ _ rfl, hF 6 _ _ rfl, hF 7 _ _ rfl, hF 8 _ _ rfl, hF 9 _ _ rfl, hF 10 _ _ rfl, hF 11 _ _ rfl, hF 12 _ _ rfl, hF 13 _ _ rfl, hF 14 _ _ rfl, hF 15 _ _ rfl, hF 16 _ _ rfl, hF 17 _ _ rfl, trivial⟩) ?_
 refine qY (.agg #[I m2.w, I m2.h, I m2.max_]) rfl (fun w hF => Y_loadF rfl (Tryz.isAgg54 w) (Tryz.sizeOf54 w) kr rfl ⟨hF 18 _ _ rfl, hF 19 _ _ rfl, hF 20 _ _ rfl, trivial⟩) ?_
 refine qY (.agg (encRct r2).toArray) rfl (fun w hF => Y_loadF rfl (Tryz.isAgg44 w) (Tryz.sizeOf44 w) kr rfl ⟨hF 21 _ _ rfl, hF 22 _ _ rfl, hF 23 _ _ rfl, hF 24 _ _ rfl, trivial⟩) ?_
 refine qY (.agg (encStage q2).toArray) rfl (fun w hF => Y_loadF rfl (Tryz.isAgg38 w) (Tryz.sizeOf38 w) kr rfl ⟨hF 25 _ _ rfl, hF 26 _ _ rfl, hF 27 _ _ rfl, hF 28 _ _ rfl, hF 29 _ _ rfl, hF 30 _ _ rfl, hF 31 _ _ rfl, hF 32 _ _ rfl, hF 33 _ _ rfl, hF 34 _ _ rfl, hF 35 _ _ rfl, hF 36 _ _ rfl, hF 37 _ _ rfl, hF 38 _ _ rfl, hF 39 _ _ rfl, hF 40 _ _ rfl, hF 41 _ _ rfl, hF 42 _ _ rfl, trivial⟩) ?_
 refine qY (.agg #[I m2.w, I m2.h, I m2.max_]) rfl (fun w hF => Y_loadF rfl (Tryz.isAgg54 w) (Tryz.sizeOf54 w) kr rfl ⟨hF 43 _ _ rfl, hF 44 _ _ rfl, hF 45 _ _ rfl, trivial⟩) ?_
 refine qY (.agg (encRct r2).toArray) rfl (fun w hF => Y_loadF rfl (Tryz.isAgg44 w) (Tryz.sizeOf44 w) kr rfl ⟨hF 46 _ _ rfl, hF 47 _ _ rfl, hF 48 _ _ rfl, hF 49 _ _ rfl, trivial⟩) ?_
 refine qO rfl ?_
 refine cR Tryz.call26 (p20_scratch q2 m2 n2 r2 ⟨(RdT.flat (hq2.weights.up 1 (by rfl))), (RdT.flat (hq2.row.up 1 (by rfl))), (RdT.flat (hq2.col.up 1 (by rfl))), (RdT.flat (hq2.x.up 1 (by rfl))), (fun z hz => (hq2.xD z hz).of_mem (mem_flat1 1 (by rfl))), (RdT.flat (hq2.y.up 1 (by rfl))), (fun z hz => (hq2.yD z hz).of_mem (mem_flat1 1 (by rfl))), (RdT.flat (hq2.ops.up 1 (by rfl)))⟩ (Sat.flat j3)) ?_
 intro _ c0
 refine nilO ⟨⟨dI, dI, dI, dI, dI, dI, dI, dI, dI, dI, dI, dI, dI, dI, dI, dI, dI, dI, dI, dI, dI, dI, dI, dI, dI, .inr (c0.cell 2 rfl rfl), .inr (c0.cell 2 rfl rfl), .inr (c0.cell 2 rfl rfl), .inr (c0.cell 2 rfl rfl), .inr (c0.cell 2 rfl rfl), .inr (c0.cell 2 rfl rfl), .inr (c0.cell 2 rfl rfl), .inr (c0.cell 2 rfl rfl), .inr (c0.cell 2 rfl rfl), .inr (c0.cell 2 rfl rfl), .inr (c0.cell 2 rfl rfl), .inr (c0.cell 2 rfl rfl), .inr (c0.cell 2 rfl rfl), .inr (c0.cell 2 rfl rfl), .inr (c0.cell 2 rfl rfl), .inr (c0.cell 2 rfl rfl), .inr (c0.cell 2 rfl rfl), .inr (c0.cell 2 rfl rfl), .inr (c0.cell 3 rfl rfl), .inr (c0.cell 3 rfl rfl), .inr (c0.cell 3 rfl rfl), .inr (c0.cell 4 rfl rfl), .inr (c0.cell 4 rfl rfl), .inr (c0.cell 4 rfl rfl), .inr (c0.cell 4 rfl rfl), trivial⟩, ?_⟩
 refine qO rfl ?_
 refine cR Tryz.call27 (r20_scratch q2 m2 n2 r2 ⟨(RdT.flat (hq2.weights.up 1 (by rfl))), (RdT.flat (hq2.row.up 1 (by rfl))), (RdT.flat (hq2.col.up 1 (by rfl))), (RdT.flat (hq2.x.up 1 (by rfl))), (fun z hz => (hq2.xD z hz).of_mem (mem_flat1 1 (by rfl))), (RdT.flat (hq2.y.up 1 (by rfl))), (fun z hz => (hq2.yD z hz).of_mem (mem_flat1 1 (by rfl))), (RdT.flat (hq2.ops.up 1 (by rfl)))⟩ (Sat.flat c0)) ?_
 intro _ m0
 refine nilO ⟨dA, ?_⟩
 refine qU [10] <| qU [11] ?_
 have k3 : ((scrV q2.v m2 n2 r2) : Int) = (scrV q2.v m2 n2 r2) := rfl
 refine qFix 56 _ false (bne_eq_false_iff_eq.2 k3) ?_
 refine qU [14] ?_
 refine qRem n2 3 ?_
 refine qU [16] ?_
 refine qF3 ?_ ?_ ?_
 ·refine qO rfl ?_
  refine gY ?_
  refine lA m0 2 0 18 (Tryz.isAgg38 _) (Tryz.sizeOf38 _) ?_
  refine nilO ⟨dA, ?_⟩
  refine qF ?_ ?_
  rotate_left
  ·refine qO rfl ?_
   refine gY ?_
   refine cX Tryz.call28 (tg_within (RdT.flat (ht.up 6 (by rfl))) om (Sat.flat1 m0) 6 6 om om) ?_
   rintro _ _ ⟨z0, rfl, l3, _, m3⟩
   have g1 := Sat.unflat1 m3
   refine nilO ⟨dA, ?_⟩
   refine qO rfl ?_
   refine gY ?_
   refine lA g1 3 0 3 (Tryz.isAgg54 _) (Tryz.sizeOf54 _) ?_
   refine nilO ⟨dA, ?_⟩
   refine qO rfl ?_
   refine gY ?_
   refine cR Tryz.call26 (p20_scratch q2 m2 (n2.tmod 3) z0 ⟨(RdT.flat (hq2.weights.up 1 (by rfl))), (RdT.flat (hq2.row.up 1 (by rfl))), (RdT.flat (hq2.col.up 1 (by rfl))), (RdT.flat (hq2.x.up 1 (by rfl))), (fun z hz => (hq2.xD z hz).of_mem (mem_flat1 1 (by rfl))), (RdT.flat (hq2.y.up 1 (by rfl))), (fun z hz => (hq2.yD z hz).of_mem (mem_flat1 1 (by rfl))), (RdT.flat (hq2.ops.up 1 (by rfl)))⟩ (Sat.flat g1)) ?_
   intro _ n3
   refine nilO ⟨dA, ?_⟩
   refine qU [19] <| qU [20] ?_
   refine qN ?_
   refine thenK_n ?_
   have o3 : ¬ (((scrV q2.v m2 (n2.tmod 3) z0) : Int) < 0) := by have h := scr_nn q2.v m2 (n2.tmod 3) z0; omega
   refine cF _ (decide_eq_false o3) ?_
   refine skipE <| blockK_n <| thenK_n <| regionE <| pu1 ?_
   refine sAdd ((i : Nat) : Int) 1 ?_
   refine pu1 <| nT ?_
   have p3 := (n3.drops [1, 1, 1, 1])
   exact ⟨(i + 1, l3), od, alA, p3, om, om⟩
  refine qO rfl ?_
  refine gY ?_
  refine lA m0 3 0 3 (Tryz.isAgg54 _) (Tryz.sizeOf54 _) ?_
  refine nilO ⟨dA, ?_⟩
  refine qO rfl ?_
  refine gY ?_
  refine cX Tryz.call28 (tg_within (RdT.flat (ht.up 6 (by rfl))) om (Sat.flat1 m0) 6 6 om om) ?_
  rintro _ _ ⟨a1, rfl, q3, _, r3⟩
  have s3 := Sat.unflat1 r3
  refine nilO ⟨dA, ?_⟩
  refine qO rfl ?_
  refine gY ?_
  refine cR Tryz.call26 (p20_scratch q2 m2 (n2.tmod 3) a1 ⟨(RdT.flat (hq2.weights.up 1 (by rfl))), (RdT.flat (hq2.row.up 1 (by rfl))), (RdT.flat (hq2.col.up 1 (by rfl))), (RdT.flat (hq2.x.up 1 (by rfl))), (fun z hz => (hq2.xD z hz).of_mem (mem_flat1 1 (by rfl))), (RdT.flat (hq2.y.up 1 (by rfl))), (fun z hz => (hq2.yD z hz).of_mem (mem_flat1 1 (by rfl))), (RdT.flat (hq2.ops.up 1 (by rfl)))⟩ (Sat.flat s3)) ?_
  intro _ t3
  refine nilO ⟨dA, ?_⟩
  refine qU [19] <| qU [20] ?_
  refine qN ?_
  refine thenK_n ?_
  have u3 : ¬ (((scrV q2.v m2 (n2.tmod 3) a1) : Int) < 0) := by have h := scr_nn q2.v m2 (n2.tmod 3) a1; omega
  refine cF _ (decide_eq_false u3) ?_
  refine skipE <| blockK_n <| thenK_n <| regionE <| pu1 ?_
  refine sAdd ((i : Nat) : Int) 1 ?_
  refine pu1 <| nT ?_
  have v3 := (t3.drops [1, 1, 1, 1])
  exact ⟨(i + 1, q3), od, alA, v3, om, om⟩
 ·refine qO rfl ?_
  refine gY ?_
  refine lA m0 3 0 3 (Tryz.isAgg54 _) (Tryz.sizeOf54 _) ?_
  refine nilO ⟨dA, ?_⟩
  refine qF ?_ ?_
  rotate_left
  ·refine qO rfl ?_
   refine gY ?_
   refine cX Tryz.call28 (tg_within (RdT.flat (ht.up 6 (by rfl))) om (Sat.flat1 m0) 6 6 om om) ?_
   rintro _ _ ⟨b1, rfl, w3, _, x3⟩
   have h1 := Sat.unflat1 x3
   refine nilO ⟨dA, ?_⟩
   refine qO rfl ?_
   refine gY ?_
   refine lA h1 2 0 18 (Tryz.isAgg38 _) (Tryz.sizeOf38 _) ?_
   refine nilO ⟨dA, ?_⟩
   refine qO rfl ?_
   refine gY ?_
   refine cR Tryz.call26 (p20_scratch q2 m2 (n2.tmod 3) b1 ⟨(RdT.flat (hq2.weights.up 1 (by rfl))), (RdT.flat (hq2.row.up 1 (by rfl))), (RdT.flat (hq2.col.up 1 (by rfl))), (RdT.flat (hq2.x.up 1 (by rfl))), (fun z hz => (hq2.xD z hz).of_mem (mem_flat1 1 (by rfl))), (RdT.flat (hq2.y.up 1 (by rfl))), (fun z hz => (hq2.yD z hz).of_mem (mem_flat1 1 (by rfl))), (RdT.flat (hq2.ops.up 1 (by rfl)))⟩ (Sat.flat h1)) ?_
   intro _ y3
   refine nilO ⟨dA, ?_⟩
   refine qU [19] <| qU [20] ?_
   refine qN ?_
   refine thenK_n ?_
   have z3 : ¬ (((scrV q2.v m2 (n2.tmod 3) b1) : Int) < 0) := by have h := scr_nn q2.v m2 (n2.tmod 3) b1; omega
   refine cF _ (decide_eq_false z3) ?_
   refine skipE <| blockK_n <| thenK_n <| regionE <| pu1 ?_
   refine sAdd ((i : Nat) : Int) 1 ?_
   refine pu1 <| nT ?_
   have a4 := (y3.drops [1, 1, 1, 1])
   exact ⟨(i + 1, w3), od, alA, a4, om, om⟩
  refine qO rfl ?_
  refine gY ?_
  refine lA m0 2 0 18 (Tryz.isAgg38 _) (Tryz.sizeOf38 _) ?_
  refine nilO ⟨dA, ?_⟩
  refine qO rfl ?_
  refine gY ?_
  refine cX Tryz.call28 (tg_within (RdT.flat (ht.up 6 (by rfl))) om (Sat.flat1 m0) 6 6 om om) ?_
  rintro _ _ ⟨c1, rfl, b4, _, c4⟩
  have d4 := Sat.unflat1 c4
  refine nilO ⟨dA, ?_⟩
  refine qO rfl ?_
  refine gY ?_
  refine cR Tryz.call26 (p20_scratch q2 m2 (n2.tmod 3) c1 ⟨(RdT.flat (hq2.weights.up 1 (by rfl))), (RdT.flat (hq2.row.up 1 (by rfl))), (RdT.flat (hq2.col.up 1 (by rfl))), (RdT.flat (hq2.x.up 1 (by rfl))), (fun z hz => (hq2.xD z hz).of_mem (mem_flat1 1 (by rfl))), (RdT.flat (hq2.y.up 1 (by rfl))), (fun z hz => (hq2.yD z hz).of_mem (mem_flat1 1 (by rfl))), (RdT.flat (hq2.ops.up 1 (by rfl)))⟩ (Sat.flat d4)) ?_
  intro _ e4
  refine nilO ⟨dA, ?_⟩
  refine qU [19] <| qU [20] ?_
  refine qN ?_
  refine thenK_n ?_
  have f4 : ¬ (((scrV q2.v m2 (n2.tmod 3) c1) : Int) < 0) := by have h := scr_nn q2.v m2 (n2.tmod 3) c1; omega
  refine cF _ (decide_eq_false f4) ?_
  refine skipE <| blockK_n <| thenK_n <| regionE <| pu1 ?_
  refine sAdd ((i : Nat) : Int) 1 ?_
  refine pu1 <| nT ?_
  have g4 := (e4.drops [1, 1, 1, 1])
  exact ⟨(i + 1, b4), od, alA, g4, om, om⟩
 refine qO rfl ?_
 refine gY ?_
 refine cX Tryz.call28 (tg_within (RdT.flat (ht.up 6 (by rfl))) om (Sat.flat1 m0) 6 6 om om) ?_
 rintro _ _ ⟨p0, rfl, i1, _, h4⟩
 have q0 := Sat.unflat1 h4
 refine nilO ⟨dA, ?_⟩
 refine qF ?_ ?_
 rotate_left
 ·refine qO rfl ?_
  refine gY ?_
  refine lA q0 3 0 3 (Tryz.isAgg54 _) (Tryz.sizeOf54 _) ?_
  refine nilO ⟨dA, ?_⟩
  refine qO rfl ?_
  refine gY ?_
  refine lA q0 2 0 18 (Tryz.isAgg38 _) (Tryz.sizeOf38 _) ?_
  refine nilO ⟨dA, ?_⟩
  refine qO rfl ?_
  refine gY ?_
  refine cR Tryz.call26 (p20_scratch q2 m2 (n2.tmod 3) p0 ⟨(RdT.flat (hq2.weights.up 1 (by rfl))), (RdT.flat (hq2.row.up 1 (by rfl))), (RdT.flat (hq2.col.up 1 (by rfl))), (RdT.flat (hq2.x.up 1 (by rfl))), (fun z hz => (hq2.xD z hz).of_mem (mem_flat1 1 (by rfl))), (RdT.flat (hq2.y.up 1 (by rfl))), (fun z hz => (hq2.yD z hz).of_mem (mem_flat1 1 (by rfl))), (RdT.flat (hq2.ops.up 1 (by rfl)))⟩ (Sat.flat q0)) ?_
  intro _ i4
  refine nilO ⟨dA, ?_⟩
  refine qU [19] <| qU [20] ?_
  refine qN ?_
  refine thenK_n ?_
  have j4 : ¬ (((scrV q2.v m2 (n2.tmod 3) p0) : Int) < 0) := by have h := scr_nn q2.v m2 (n2.tmod 3) p0; omega
  refine cF _ (decide_eq_false j4) ?_
  refine skipE <| blockK_n <| thenK_n <| regionE <| pu1 ?_
  refine sAdd ((i : Nat) : Int) 1 ?_
  refine pu1 <| nT ?_
  have k4 := (i4.drops [1, 1, 1, 1])
  exact ⟨(i + 1, i1), od, alA, k4, om, om⟩
 refine qO rfl ?_
 refine gY ?_
 refine lA q0 2 0 18 (Tryz.isAgg38 _) (Tryz.sizeOf38 _) ?_
 refine nilO ⟨dA, ?_⟩
 refine qO rfl ?_
 refine gY ?_
 refine lA q0 3 0 3 (Tryz.isAgg54 _) (Tryz.sizeOf54 _) ?_
 refine nilO ⟨dA, ?_⟩
 refine qO rfl ?_
 refine gY ?_
 refine cR Tryz.call26 (p20_scratch q2 m2 (n2.tmod 3) p0 ⟨(RdT.flat (hq2.weights.up 1 (by rfl))), (RdT.flat (hq2.row.up 1 (by rfl))), (RdT.flat (hq2.col.up 1 (by rfl))), (RdT.flat (hq2.x.up 1 (by rfl))), (fun z hz => (hq2.xD z hz).of_mem (mem_flat1 1 (by rfl))), (RdT.flat (hq2.y.up 1 (by rfl))), (fun z hz => (hq2.yD z hz).of_mem (mem_flat1 1 (by rfl))), (RdT.flat (hq2.ops.up 1 (by rfl)))⟩ (Sat.flat q0)) ?_
 intro _ l4
 refine nilO ⟨dA, ?_⟩
 refine qU [19] <| qU [20] ?_
 refine qN ?_
 refine thenK_n ?_
 have m4 : ¬ (((scrV q2.v m2 (n2.tmod 3) p0) : Int) < 0) := by have h := scr_nn q2.v m2 (n2.tmod 3) p0; omega
 refine cF _ (decide_eq_false m4) ?_
 refine skipE <| blockK_n <| thenK_n <| regionE <| pu1 ?_
 refine sAdd ((i : Nat) : Int) 1 ?_
 refine pu1 <| nT ?_
 have n4 := (l4.drops [1, 1, 1, 1])
 exact ⟨(i + 1, i1), od, alA, n4, om, om⟩
end Go.Proofs.YtdingplbadblpaaGreat
