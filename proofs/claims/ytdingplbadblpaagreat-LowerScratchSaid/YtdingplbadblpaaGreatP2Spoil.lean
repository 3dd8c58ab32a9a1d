import Derived.Test.YtdingplbadblpaaGreatP2TJob
namespace Go.Proofs.YtdingplbadblpaaGreat
open Go Go.E
set_option linter.unusedVariables false
set_option linter.unusedSimpArgs false
set_option linter.unnecessarySimpa false
set_option maxRecDepth 100000
set_option maxHeartbeats 2000000
variable {W w : World} {H : Chunk} {F : List Chunk}

-- squeezed
theorem base_any {α : Type} {P : α → Prop} {l : List α} (h : ∀ z ∈ l, P z) : ∀ z ∈ ([] : List α) ++ l, P z := by
  intro z hz
  rw [List.nil_append] at hz
  exact h z hz
theorem tg_spoilStage {J : Chunk} {p : Nat} {a : Option Addr} {n k : Nat} {i : Int} {xs : List Int} (hR : RdT Go.E.encI 1 [H] a n k xs) (hi : 0 ≤ i ∧ i ≤ n) (hS : Sat W w ([(p, .cells #[.slice a n k, I i] 85 (0, 0))] :: J :: H :: F)) (s0 : Stage) (hs0 : Stage.Ok [J] s0) (kk : Nat) (hkk : kk ≤ 100) (hsB : stageB kk s0) :
  Calls Tryz.prog 25 #[Pt p 0, .agg (encStage s0).toArray] w fun e w' => ∃ (q : Stage) (G : Chunk), e = .returned (.agg (encStage q).toArray) ∧ (Stage.Ok [G ++ J] q) ∧ (stageB (kk + 1) q) ∧ ∃ i' : Int, (0 ≤ i' ∧ i' ≤ n) ∧ Sat W w' ([(p, .cells #[.slice a n k, I i'] 85 (0, 0))] :: G :: J :: H :: F) := by
 have hl_s0_weights := hs0.weights.le; have hn_s0_weights := hs0.weights.len
 have hl_s0_row := hs0.row.le; have hn_s0_row := hs0.row.len
 have hl_s0_col := hs0.col.le; have hn_s0_col := hs0.col.len
 have hl_s0_x := hs0.x.le; have hn_s0_x := hs0.x.len
 have hl_s0_y := hs0.y.le; have hn_s0_y := hs0.y.len
 have hl_s0_ops := hs0.ops.le; have hn_s0_ops := hs0.ops.len
 have hle := hR.le
 obtain ⟨hi0, hi1, hi2, hi3, hi4, hi5, hi6, hi7, hi8, hi9, hi10⟩ := hsB.1; unfold numB at hi0 hi1 hi2 hi3 hi4 hi5 hi6 hi7 hi8 hi9 hi10; have hb_weights := hsB.2.1.1; have hb_row := hsB.2.2.1.1; have hb_col := hsB.2.2.2.1.1; have hb_x := hsB.2.2.2.2.1.1; have hb_y := hsB.2.2.2.2.2.1.1; have hb_ops := hsB.2.2.2.2.2.2.1
 refine callsA 137 Tryz.func25 rfl ?_
 refine sR ?_
 refine sBox hS (.agg (encStage s0).toArray) (encStage s0).toArray ?_
 intro a0 _ e3
 refine sAlloc e3 Tryz.zeroValue38 ?_
 intro b0 _ f3
 refine nT ?_
 refine cutA (γ := Stage × Chunk × Int) (fun ⟨q, G1, itc⟩ => [(3, Pt a0 0), (4, Pt b0 0)]) (fun ⟨q, G1, itc⟩ w => Sat W w ([(p, .cells #[.slice a n k, I itc] 85 (0, 0))] :: [(a0, .cells (encStage q).toArray 38 (0, 0))] :: [(b0, .cells #[I 0, I 0, I 0, .bool false, I 0, I 0, I 0, I 0, .slice none 0 0, .slice none 0 0, .slice none 0 0, I 0, I 0, .slice none 0 0, .slice none 0 0, I 0, .slice none 0 0, I 0] 38 (0, 0))] :: G1 :: J :: H :: F) ∧ (0 ≤ itc ∧ itc ≤ n) ∧ Stage.Ok [G1 ++ J] q ∧ stageB (kk + 1) q) ?_ ?_
 rotate_left
 ·rintro ⟨q, G1, itc⟩ ρ _ ⟨u2, hitc, hqok, hqS⟩
  refine sR ?_
  refine lA u2 1 0 18 (Tryz.isAgg38 _) (Tryz.sizeOf38 _) ?_
  refine sT u2 2 0 (.agg (encStage q).toArray) (encStage q) (encStage q).toArray Tryz.sizeOf38 ?_
  intro _ v2
  refine nT <| retE <| retN (vs := [.agg (encStage q).toArray]) rfl (.cons (.cell _ _ _ _ kr (lvA v2 2 0 (encStage q) (Tryz.isAgg38 _) (Tryz.sizeOf38 _) rfl rfl rfl)) .nil) ?_
  have g3 := (v2.drops [1, 1])
  exact ⟨q, G1, rfl, hqok, hqS, _, om, g3⟩
 refine sR <| pu1 ?_
 have h3 := (f3.pick 2 rfl)
 refine cX Tryz.call13 (tape_next (RdT.flat (hR.up 3 (by rfl))) om (Sat.flat1 h3) 14 om) ?_
 rintro _ _ ⟨f0, rfl, _, t0, _, i3⟩
 have e0 := Sat.unflat1 i3
 refine nT <| blockE <| sR <| pu2 <| nT ?_
 refine cE f0 0 (fun j3 => ?_) (fun j3 => ?_)
 ·refine regionE <| pu1 ?_
  refine cX Tryz.call13 (tape_next (RdT.flat (hR.up 3 (by rfl))) om (Sat.flat1 e0) 8 om) ?_
  rintro _ _ ⟨a1, rfl, _, r1, _, k3⟩
  have l3 := Sat.unflat1 k3
  refine pu1 ?_
  refine tW l3 2 0 (I a1) Tryz.sizeOf3 ?_
  intro _ m3
  refine nB ?_
  have n3 := (m3.picks [2, 1])
  have o3 : Sat W _ ([(p, .cells #[.slice a n k, I r1] 85 (0, 0))] :: [(a0, .cells #[I a1, I s0.a, I s0.b, .bool s0.barrier, I s0.edgePolicy, I s0.edgeFill, I s0.kW, I s0.kH, .slice s0.weights.a s0.weights.n s0.weights.k, .slice s0.row.a s0.row.n s0.row.k, .slice s0.col.a s0.col.n s0.col.k, I s0.shift, I s0.shift2, .slice s0.x.a s0.x.n s0.x.k, .slice s0.y.a s0.y.n s0.y.k, I s0.bins, .slice s0.ops.a s0.ops.n s0.ops.k, I s0.max_] 38 (0, 0))] :: [(b0, .cells #[I 0, I 0, I 0, .bool false, I 0, I 0, I 0, I 0, .slice none 0 0, .slice none 0 0, .slice none 0 0, I 0, I 0, .slice none 0 0, .slice none 0 0, I 0, .slice none 0 0, I 0] 38 (0, 0))] :: [] :: J :: H :: F) := Sat.perm (show Sat W _ ([(p, .cells #[.slice a n k, I r1] 85 (0, 0))] :: [(a0, .cells #[I a1, I s0.a, I s0.b, .bool s0.barrier, I s0.edgePolicy, I s0.edgeFill, I s0.kW, I s0.kH, .slice s0.weights.a s0.weights.n s0.weights.k, .slice s0.row.a s0.row.n s0.row.k, .slice s0.col.a s0.col.n s0.col.k, I s0.shift, I s0.shift2, .slice s0.x.a s0.x.n s0.x.k, .slice s0.y.a s0.y.n s0.y.k, I s0.bins, .slice s0.ops.a s0.ops.n s0.ops.k, I s0.max_] 38 (0, 0))] :: [(b0, .cells #[I 0, I 0, I 0, .bool false, I 0, I 0, I 0, I 0, .slice none 0 0, .slice none 0 0, .slice none 0 0, I 0, I 0, .slice none 0 0, .slice none 0 0, I 0, .slice none 0 0, I 0] 38 (0, 0))] :: J :: H :: F) from n3) (by simp [Value.cells])
  exact ⟨((⟨a1, s0.a, s0.b, s0.barrier, s0.edgePolicy, s0.edgeFill, s0.kW, s0.kH, s0.weights, s0.row, s0.col, s0.shift, s0.shift2, s0.x, s0.y, s0.bins, s0.ops, s0.max_⟩ : Stage), [], r1), alA, o3, om, ⟨hs0.weights.of_mem mS, hs0.row.of_mem mS, hs0.col.of_mem mS, hs0.x.of_mem mS, (fun z hz => (hs0.xD z hz).of_mem mS), hs0.y.of_mem mS, (fun z hz => (hs0.yD z hz).of_mem mS), hs0.ops.of_mem mS⟩, ⟨⟨nb, nb, nb, nb, nb, nb, nb, nb, nb, nb, nb⟩, ⟨by have h := hsB.2.1.1; dsimp only; omega, hsB.2.1.2⟩, ⟨by have h := hsB.2.2.1.1; dsimp only; omega, hsB.2.2.1.2⟩, ⟨by have h := hsB.2.2.2.1.1; dsimp only; omega, hsB.2.2.2.1.2⟩, ⟨by have h := hsB.2.2.2.2.1.1; dsimp only; omega, hsB.2.2.2.2.1.2⟩, ⟨by have h := hsB.2.2.2.2.2.1.1; dsimp only; omega, hsB.2.2.2.2.2.1.2⟩, ⟨by have h := hsB.2.2.2.2.2.2.1; dsimp only; omega, hsB.2.2.2.2.2.2.2⟩⟩⟩
 refine sR <| pu2 <| nT ?_
 refine cE f0 1 (fun p3 => ?_) (fun p3 => ?_)
 ·refine regionE <| pu1 ?_
  refine sBS e0 #[I (-1), I 0, I 1, I 2, I 15, I 16] Tryz.runUnderlying22 Tryz.sizeOf3 Tryz.zeroValue3 ?_
  intro _ _ q3
  have r3 := (q3.pick 1 rfl)
  refine cX Tryz.call38 (tape_pick (RdT.flat (hR.up 4 (by rfl))) om (Sat.flat1 r3) (RdT.flat (RdT.blk (enc := Go.E.encI) (sz := 1) (xs := [-1, 0, 1, 2, 15, 16]) (fun _ => (by rfl)) 6 0 rfl rfl rfl om)) om om) ?_
  rintro _ _ ⟨g0, rfl, s3, s1, _, u3⟩
  have v3 := Sat.unflat1 u3
  have va : (g0 : Int) = (-1) ∨ (g0 : Int) = 0 ∨ (g0 : Int) = 1 ∨ (g0 : Int) = 2 ∨ (g0 : Int) = 15 ∨ (g0 : Int) = 16 := by simpa using s3
  refine pu1 ?_
  refine tW v3 3 1 (I g0) Tryz.sizeOf3 ?_
  intro _ w3
  refine nB ?_
  have x3 := ((w3.picks [3, 1]).dropAt 2 rfl)
  have y3 : Sat W _ ([(p, .cells #[.slice a n k, I s1] 85 (0, 0))] :: [(a0, .cells #[I s0.kind, I g0, I s0.b, .bool s0.barrier, I s0.edgePolicy, I s0.edgeFill, I s0.kW, I s0.kH, .slice s0.weights.a s0.weights.n s0.weights.k, .slice s0.row.a s0.row.n s0.row.k, .slice s0.col.a s0.col.n s0.col.k, I s0.shift, I s0.shift2, .slice s0.x.a s0.x.n s0.x.k, .slice s0.y.a s0.y.n s0.y.k, I s0.bins, .slice s0.ops.a s0.ops.n s0.ops.k, I s0.max_] 38 (0, 0))] :: [(b0, .cells #[I 0, I 0, I 0, .bool false, I 0, I 0, I 0, I 0, .slice none 0 0, .slice none 0 0, .slice none 0 0, I 0, I 0, .slice none 0 0, .slice none 0 0, I 0, .slice none 0 0, I 0] 38 (0, 0))] :: [] :: J :: H :: F) := Sat.perm (show Sat W _ ([(p, .cells #[.slice a n k, I s1] 85 (0, 0))] :: [(a0, .cells #[I s0.kind, I g0, I s0.b, .bool s0.barrier, I s0.edgePolicy, I s0.edgeFill, I s0.kW, I s0.kH, .slice s0.weights.a s0.weights.n s0.weights.k, .slice s0.row.a s0.row.n s0.row.k, .slice s0.col.a s0.col.n s0.col.k, I s0.shift, I s0.shift2, .slice s0.x.a s0.x.n s0.x.k, .slice s0.y.a s0.y.n s0.y.k, I s0.bins, .slice s0.ops.a s0.ops.n s0.ops.k, I s0.max_] 38 (0, 0))] :: [(b0, .cells #[I 0, I 0, I 0, .bool false, I 0, I 0, I 0, I 0, .slice none 0 0, .slice none 0 0, .slice none 0 0, I 0, I 0, .slice none 0 0, .slice none 0 0, I 0, .slice none 0 0, I 0] 38 (0, 0))] :: J :: H :: F) from x3) (by simp [Value.cells])
  exact ⟨((⟨s0.kind, g0, s0.b, s0.barrier, s0.edgePolicy, s0.edgeFill, s0.kW, s0.kH, s0.weights, s0.row, s0.col, s0.shift, s0.shift2, s0.x, s0.y, s0.bins, s0.ops, s0.max_⟩ : Stage), [], s1), alA, y3, om, ⟨hs0.weights.of_mem mS, hs0.row.of_mem mS, hs0.col.of_mem mS, hs0.x.of_mem mS, (fun z hz => (hs0.xD z hz).of_mem mS), hs0.y.of_mem mS, (fun z hz => (hs0.yD z hz).of_mem mS), hs0.ops.of_mem mS⟩, ⟨⟨nb, nb, nb, nb, nb, nb, nb, nb, nb, nb, nb⟩, ⟨by have h := hsB.2.1.1; dsimp only; omega, hsB.2.1.2⟩, ⟨by have h := hsB.2.2.1.1; dsimp only; omega, hsB.2.2.1.2⟩, ⟨by have h := hsB.2.2.2.1.1; dsimp only; omega, hsB.2.2.2.1.2⟩, ⟨by have h := hsB.2.2.2.2.1.1; dsimp only; omega, hsB.2.2.2.2.1.2⟩, ⟨by have h := hsB.2.2.2.2.2.1.1; dsimp only; omega, hsB.2.2.2.2.2.1.2⟩, ⟨by have h := hsB.2.2.2.2.2.2.1; dsimp only; omega, hsB.2.2.2.2.2.2.2⟩⟩⟩
 refine sR <| pu2 <| nT ?_
 refine cE f0 2 (fun z3 => ?_) (fun z3 => ?_)
 ·refine regionE <| pu1 ?_
  refine sBS e0 #[I (-2), I (-1), I 0, I 1, I 16] Tryz.runUnderlying22 Tryz.sizeOf3 Tryz.zeroValue3 ?_
  intro _ _ a4
  have b4 := (a4.pick 1 rfl)
  refine cX Tryz.call38 (tape_pick (RdT.flat (hR.up 4 (by rfl))) om (Sat.flat1 b4) (RdT.flat (RdT.blk (enc := Go.E.encI) (sz := 1) (xs := [-2, -1, 0, 1, 16]) (fun _ => (by rfl)) 5 0 rfl rfl rfl om)) om om) ?_
  rintro _ _ ⟨h0, rfl, c4, t1, _, d4⟩
  have e4 := Sat.unflat1 d4
  have bb : (h0 : Int) = (-2) ∨ (h0 : Int) = (-1) ∨ (h0 : Int) = 0 ∨ (h0 : Int) = 1 ∨ (h0 : Int) = 16 := by simpa using c4
  refine pu1 ?_
  refine tW e4 3 2 (I h0) Tryz.sizeOf3 ?_
  intro _ f4
  refine nB ?_
  have g4 := ((f4.picks [3, 1]).dropAt 2 rfl)
  have h4 : Sat W _ ([(p, .cells #[.slice a n k, I t1] 85 (0, 0))] :: [(a0, .cells #[I s0.kind, I s0.a, I h0, .bool s0.barrier, I s0.edgePolicy, I s0.edgeFill, I s0.kW, I s0.kH, .slice s0.weights.a s0.weights.n s0.weights.k, .slice s0.row.a s0.row.n s0.row.k, .slice s0.col.a s0.col.n s0.col.k, I s0.shift, I s0.shift2, .slice s0.x.a s0.x.n s0.x.k, .slice s0.y.a s0.y.n s0.y.k, I s0.bins, .slice s0.ops.a s0.ops.n s0.ops.k, I s0.max_] 38 (0, 0))] :: [(b0, .cells #[I 0, I 0, I 0, .bool false, I 0, I 0, I 0, I 0, .slice none 0 0, .slice none 0 0, .slice none 0 0, I 0, I 0, .slice none 0 0, .slice none 0 0, I 0, .slice none 0 0, I 0] 38 (0, 0))] :: [] :: J :: H :: F) := Sat.perm (show Sat W _ ([(p, .cells #[.slice a n k, I t1] 85 (0, 0))] :: [(a0, .cells #[I s0.kind, I s0.a, I h0, .bool s0.barrier, I s0.edgePolicy, I s0.edgeFill, I s0.kW, I s0.kH, .slice s0.weights.a s0.weights.n s0.weights.k, .slice s0.row.a s0.row.n s0.row.k, .slice s0.col.a s0.col.n s0.col.k, I s0.shift, I s0.shift2, .slice s0.x.a s0.x.n s0.x.k, .slice s0.y.a s0.y.n s0.y.k, I s0.bins, .slice s0.ops.a s0.ops.n s0.ops.k, I s0.max_] 38 (0, 0))] :: [(b0, .cells #[I 0, I 0, I 0, .bool false, I 0, I 0, I 0, I 0, .slice none 0 0, .slice none 0 0, .slice none 0 0, I 0, I 0, .slice none 0 0, .slice none 0 0, I 0, .slice none 0 0, I 0] 38 (0, 0))] :: J :: H :: F) from g4) (by simp [Value.cells])
  exact ⟨((⟨s0.kind, s0.a, h0, s0.barrier, s0.edgePolicy, s0.edgeFill, s0.kW, s0.kH, s0.weights, s0.row, s0.col, s0.shift, s0.shift2, s0.x, s0.y, s0.bins, s0.ops, s0.max_⟩ : Stage), [], t1), alA, h4, om, ⟨hs0.weights.of_mem mS, hs0.row.of_mem mS, hs0.col.of_mem mS, hs0.x.of_mem mS, (fun z hz => (hs0.xD z hz).of_mem mS), hs0.y.of_mem mS, (fun z hz => (hs0.yD z hz).of_mem mS), hs0.ops.of_mem mS⟩, ⟨⟨nb, nb, nb, nb, nb, nb, nb, nb, nb, nb, nb⟩, ⟨by have h := hsB.2.1.1; dsimp only; omega, hsB.2.1.2⟩, ⟨by have h := hsB.2.2.1.1; dsimp only; omega, hsB.2.2.1.2⟩, ⟨by have h := hsB.2.2.2.1.1; dsimp only; omega, hsB.2.2.2.1.2⟩, ⟨by have h := hsB.2.2.2.2.1.1; dsimp only; omega, hsB.2.2.2.2.1.2⟩, ⟨by have h := hsB.2.2.2.2.2.1.1; dsimp only; omega, hsB.2.2.2.2.2.1.2⟩, ⟨by have h := hsB.2.2.2.2.2.2.1; dsimp only; omega, hsB.2.2.2.2.2.2.2⟩⟩⟩
 refine sR <| pu2 <| nT ?_
 refine cE f0 3 (fun i4 => ?_) (fun i4 => ?_)
 ·refine regionE <| pu1 ?_
  refine cX Tryz.call13 (tape_next (RdT.flat (hR.up 3 (by rfl))) om (Sat.flat1 e0) 6 om) ?_
  rintro _ _ ⟨u0, rfl, _, _, _, j4⟩
  have k4 := Sat.unflat1 j4
  refine sSub u0 1 ?_
  refine pu1 ?_
  refine sBS k4 #[I 0, I 5, I (-1), I 70000] Tryz.runUnderlying22 Tryz.sizeOf3 Tryz.zeroValue3 ?_
  intro _ _ l4
  have m4 := (l4.pick 1 rfl)
  refine cX Tryz.call38 (tape_pick (RdT.flat (hR.up 4 (by rfl))) om (Sat.flat1 m4) (RdT.flat (RdT.blk (enc := Go.E.encI) (sz := 1) (xs := [0, 5, -1, 70000]) (fun _ => (by rfl)) 4 0 rfl rfl rfl om)) om om) ?_
  rintro _ _ ⟨j0, rfl, n4, u1, _, o4⟩
  have p4 := Sat.unflat1 o4
  have lb : (j0 : Int) = 0 ∨ (j0 : Int) = 5 ∨ (j0 : Int) = (-1) ∨ (j0 : Int) = 70000 := by simpa using n4
  refine pu2 ?_
  refine tW p4 3 4 (.agg #[I (u0 - 1), I j0]) Tryz.sizeOf34 ?_
  intro _ q4
  refine nB ?_
  have r4 := ((q4.picks [3, 1]).dropAt 2 rfl)
  have s4 : Sat W _ ([(p, .cells #[.slice a n k, I u1] 85 (0, 0))] :: [(a0, .cells #[I s0.kind, I s0.a, I s0.b, .bool s0.barrier, I (u0 - 1), I j0, I s0.kW, I s0.kH, .slice s0.weights.a s0.weights.n s0.weights.k, .slice s0.row.a s0.row.n s0.row.k, .slice s0.col.a s0.col.n s0.col.k, I s0.shift, I s0.shift2, .slice s0.x.a s0.x.n s0.x.k, .slice s0.y.a s0.y.n s0.y.k, I s0.bins, .slice s0.ops.a s0.ops.n s0.ops.k, I s0.max_] 38 (0, 0))] :: [(b0, .cells #[I 0, I 0, I 0, .bool false, I 0, I 0, I 0, I 0, .slice none 0 0, .slice none 0 0, .slice none 0 0, I 0, I 0, .slice none 0 0, .slice none 0 0, I 0, .slice none 0 0, I 0] 38 (0, 0))] :: [] :: J :: H :: F) := Sat.perm (show Sat W _ ([(p, .cells #[.slice a n k, I u1] 85 (0, 0))] :: [(a0, .cells #[I s0.kind, I s0.a, I s0.b, .bool s0.barrier, I (u0 - 1), I j0, I s0.kW, I s0.kH, .slice s0.weights.a s0.weights.n s0.weights.k, .slice s0.row.a s0.row.n s0.row.k, .slice s0.col.a s0.col.n s0.col.k, I s0.shift, I s0.shift2, .slice s0.x.a s0.x.n s0.x.k, .slice s0.y.a s0.y.n s0.y.k, I s0.bins, .slice s0.ops.a s0.ops.n s0.ops.k, I s0.max_] 38 (0, 0))] :: [(b0, .cells #[I 0, I 0, I 0, .bool false, I 0, I 0, I 0, I 0, .slice none 0 0, .slice none 0 0, .slice none 0 0, I 0, I 0, .slice none 0 0, .slice none 0 0, I 0, .slice none 0 0, I 0] 38 (0, 0))] :: J :: H :: F) from r4) (by simp [Value.cells])
  exact ⟨((⟨s0.kind, s0.a, s0.b, s0.barrier, (u0 - 1), j0, s0.kW, s0.kH, s0.weights, s0.row, s0.col, s0.shift, s0.shift2, s0.x, s0.y, s0.bins, s0.ops, s0.max_⟩ : Stage), [], u1), alA, s4, om, ⟨hs0.weights.of_mem mS, hs0.row.of_mem mS, hs0.col.of_mem mS, hs0.x.of_mem mS, (fun z hz => (hs0.xD z hz).of_mem mS), hs0.y.of_mem mS, (fun z hz => (hs0.yD z hz).of_mem mS), hs0.ops.of_mem mS⟩, ⟨⟨nb, nb, nb, nb, nb, nb, nb, nb, nb, nb, nb⟩, ⟨by have h := hsB.2.1.1; dsimp only; omega, hsB.2.1.2⟩, ⟨by have h := hsB.2.2.1.1; dsimp only; omega, hsB.2.2.1.2⟩, ⟨by have h := hsB.2.2.2.1.1; dsimp only; omega, hsB.2.2.2.1.2⟩, ⟨by have h := hsB.2.2.2.2.1.1; dsimp only; omega, hsB.2.2.2.2.1.2⟩, ⟨by have h := hsB.2.2.2.2.2.1.1; dsimp only; omega, hsB.2.2.2.2.2.1.2⟩, ⟨by have h := hsB.2.2.2.2.2.2.1; dsimp only; omega, hsB.2.2.2.2.2.2.2⟩⟩⟩
 refine sR <| pu2 <| nT ?_
 refine cE f0 4 (fun t4 => ?_) (fun t4 => ?_)
 ·refine regionE <| pu1 ?_
  refine sBS e0 #[I 0, I 1, I 3, I 10, I 4611686018427387904] Tryz.runUnderlying22 Tryz.sizeOf3 Tryz.zeroValue3 ?_
  intro _ _ u4
  have v4 := (u4.pick 1 rfl)
  refine cX Tryz.call38 (tape_pick (RdT.flat (hR.up 4 (by rfl))) om (Sat.flat1 v4) (RdT.flat (RdT.blk (enc := Go.E.encI) (sz := 1) (xs := [0, 1, 3, 10, 4611686018427387904]) (fun _ => (by rfl)) 5 0 rfl rfl rfl om)) om om) ?_
  rintro _ _ ⟨i0, rfl, w4, v1, _, x4⟩
  have y4 := Sat.unflat1 x4
  have sb : (i0 : Int) = 0 ∨ (i0 : Int) = 1 ∨ (i0 : Int) = 3 ∨ (i0 : Int) = 10 ∨ (i0 : Int) = 4611686018427387904 := by simpa using w4
  refine pu1 ?_
  refine tW y4 3 6 (I i0) Tryz.sizeOf3 ?_
  intro _ z4
  refine nB ?_
  have a5 := ((z4.picks [3, 1]).dropAt 2 rfl)
  have b5 : Sat W _ ([(p, .cells #[.slice a n k, I v1] 85 (0, 0))] :: [(a0, .cells #[I s0.kind, I s0.a, I s0.b, .bool s0.barrier, I s0.edgePolicy, I s0.edgeFill, I i0, I s0.kH, .slice s0.weights.a s0.weights.n s0.weights.k, .slice s0.row.a s0.row.n s0.row.k, .slice s0.col.a s0.col.n s0.col.k, I s0.shift, I s0.shift2, .slice s0.x.a s0.x.n s0.x.k, .slice s0.y.a s0.y.n s0.y.k, I s0.bins, .slice s0.ops.a s0.ops.n s0.ops.k, I s0.max_] 38 (0, 0))] :: [(b0, .cells #[I 0, I 0, I 0, .bool false, I 0, I 0, I 0, I 0, .slice none 0 0, .slice none 0 0, .slice none 0 0, I 0, I 0, .slice none 0 0, .slice none 0 0, I 0, .slice none 0 0, I 0] 38 (0, 0))] :: [] :: J :: H :: F) := Sat.perm (show Sat W _ ([(p, .cells #[.slice a n k, I v1] 85 (0, 0))] :: [(a0, .cells #[I s0.kind, I s0.a, I s0.b, .bool s0.barrier, I s0.edgePolicy, I s0.edgeFill, I i0, I s0.kH, .slice s0.weights.a s0.weights.n s0.weights.k, .slice s0.row.a s0.row.n s0.row.k, .slice s0.col.a s0.col.n s0.col.k, I s0.shift, I s0.shift2, .slice s0.x.a s0.x.n s0.x.k, .slice s0.y.a s0.y.n s0.y.k, I s0.bins, .slice s0.ops.a s0.ops.n s0.ops.k, I s0.max_] 38 (0, 0))] :: [(b0, .cells #[I 0, I 0, I 0, .bool false, I 0, I 0, I 0, I 0, .slice none 0 0, .slice none 0 0, .slice none 0 0, I 0, I 0, .slice none 0 0, .slice none 0 0, I 0, .slice none 0 0, I 0] 38 (0, 0))] :: J :: H :: F) from a5) (by simp [Value.cells])
  exact ⟨((⟨s0.kind, s0.a, s0.b, s0.barrier, s0.edgePolicy, s0.edgeFill, i0, s0.kH, s0.weights, s0.row, s0.col, s0.shift, s0.shift2, s0.x, s0.y, s0.bins, s0.ops, s0.max_⟩ : Stage), [], v1), alA, b5, om, ⟨hs0.weights.of_mem mS, hs0.row.of_mem mS, hs0.col.of_mem mS, hs0.x.of_mem mS, (fun z hz => (hs0.xD z hz).of_mem mS), hs0.y.of_mem mS, (fun z hz => (hs0.yD z hz).of_mem mS), hs0.ops.of_mem mS⟩, ⟨⟨nb, nb, nb, nb, nb, nb, nb, nb, nb, nb, nb⟩, ⟨by have h := hsB.2.1.1; dsimp only; omega, hsB.2.1.2⟩, ⟨by have h := hsB.2.2.1.1; dsimp only; omega, hsB.2.2.1.2⟩, ⟨by have h := hsB.2.2.2.1.1; dsimp only; omega, hsB.2.2.2.1.2⟩, ⟨by have h := hsB.2.2.2.2.1.1; dsimp only; omega, hsB.2.2.2.2.1.2⟩, ⟨by have h := hsB.2.2.2.2.2.1.1; dsimp only; omega, hsB.2.2.2.2.2.1.2⟩, ⟨by have h := hsB.2.2.2.2.2.2.1; dsimp only; omega, hsB.2.2.2.2.2.2.2⟩⟩⟩
 refine sR <| pu2 <| nT ?_
 refine cE f0 5 (fun c5 => ?_) (fun c5 => ?_)
 ·refine regionE <| pu2 ?_
  refine cX Tryz.call13 (tape_next (RdT.flat (hR.up 3 (by rfl))) om (Sat.flat1 e0) 10 om) ?_
  rintro _ _ ⟨d5, rfl, _, _, _, e5⟩
  have f5 := Sat.unflat1 e5
  refine cX Tryz.call62 (tg_weights (RdT.flat (hR.up 3 (by rfl))) om (Sat.flat1 f5) d5 om) ?_
  rintro _ _ ⟨b1, c1, d1, g5, w1, rfl, x1, w2, y1, _, h5⟩
  have i5 := Sat.unflat2 h5
  have hn_zs_115 := x1.len; have hl_zs_115 := x1.le
  refine pu1 ?_
  refine tW i5 3 8 (.slice b1 c1 d1) Tryz.sizeOf22 ?_
  intro _ j5
  refine nB ?_
  have k5 := (j5.picks [2, 3, 2])
  have l5 : Sat W _ ([(p, .cells #[.slice a n k, I y1] 85 (0, 0))] :: [(a0, .cells #[I s0.kind, I s0.a, I s0.b, .bool s0.barrier, I s0.edgePolicy, I s0.edgeFill, I s0.kW, I s0.kH, .slice b1 c1 d1, .slice s0.row.a s0.row.n s0.row.k, .slice s0.col.a s0.col.n s0.col.k, I s0.shift, I s0.shift2, .slice s0.x.a s0.x.n s0.x.k, .slice s0.y.a s0.y.n s0.y.k, I s0.bins, .slice s0.ops.a s0.ops.n s0.ops.k, I s0.max_] 38 (0, 0))] :: [(b0, .cells #[I 0, I 0, I 0, .bool false, I 0, I 0, I 0, I 0, .slice none 0 0, .slice none 0 0, .slice none 0 0, I 0, I 0, .slice none 0 0, .slice none 0 0, I 0, .slice none 0 0, I 0] 38 (0, 0))] :: (w1) :: J :: H :: F) := Sat.perm (show Sat W _ ([(p, .cells #[.slice a n k, I y1] 85 (0, 0))] :: [(a0, .cells #[I s0.kind, I s0.a, I s0.b, .bool s0.barrier, I s0.edgePolicy, I s0.edgeFill, I s0.kW, I s0.kH, .slice b1 c1 d1, .slice s0.row.a s0.row.n s0.row.k, .slice s0.col.a s0.col.n s0.col.k, I s0.shift, I s0.shift2, .slice s0.x.a s0.x.n s0.x.k, .slice s0.y.a s0.y.n s0.y.k, I s0.bins, .slice s0.ops.a s0.ops.n s0.ops.k, I s0.max_] 38 (0, 0))] :: [(b0, .cells #[I 0, I 0, I 0, .bool false, I 0, I 0, I 0, I 0, .slice none 0 0, .slice none 0 0, .slice none 0 0, I 0, I 0, .slice none 0 0, .slice none 0 0, I 0, .slice none 0 0, I 0] 38 (0, 0))] :: w1 :: J :: H :: F) from k5) (by simp [Value.cells])
  exact ⟨((⟨s0.kind, s0.a, s0.b, s0.barrier, s0.edgePolicy, s0.edgeFill, s0.kW, s0.kH, ⟨b1, c1, d1, g5⟩, s0.row, s0.col, s0.shift, s0.shift2, s0.x, s0.y, s0.bins, s0.ops, s0.max_⟩ : Stage), (w1), y1), alA, l5, om, ⟨x1.of_mem mS, hs0.row.of_mem mS, hs0.col.of_mem mS, hs0.x.of_mem mS, (fun z hz => (hs0.xD z hz).of_mem mS), hs0.y.of_mem mS, (fun z hz => (hs0.yD z hz).of_mem mS), hs0.ops.of_mem mS⟩, ⟨⟨nb, nb, nb, nb, nb, nb, nb, nb, nb, nb, nb⟩, ⟨by have h := w2.1; dsimp only; omega, w2.2⟩, ⟨by have h := hsB.2.2.1.1; dsimp only; omega, hsB.2.2.1.2⟩, ⟨by have h := hsB.2.2.2.1.1; dsimp only; omega, hsB.2.2.2.1.2⟩, ⟨by have h := hsB.2.2.2.2.1.1; dsimp only; omega, hsB.2.2.2.2.1.2⟩, ⟨by have h := hsB.2.2.2.2.2.1.1; dsimp only; omega, hsB.2.2.2.2.2.1.2⟩, ⟨by have h := hsB.2.2.2.2.2.2.1; dsimp only; omega, hsB.2.2.2.2.2.2.2⟩⟩⟩
 refine sR <| pu2 <| nT ?_
 refine cE f0 6 (fun m5 => ?_) (fun m5 => ?_)
 ·refine regionE <| pu2 ?_
  refine cX Tryz.call13 (tape_next (RdT.flat (hR.up 3 (by rfl))) om (Sat.flat1 e0) 11 om) ?_
  rintro _ _ ⟨n5, rfl, _, _, _, o5⟩
  have p5 := Sat.unflat1 o5
  refine cX Tryz.call62 (tg_weights (RdT.flat (hR.up 3 (by rfl))) om (Sat.flat1 p5) n5 om) ?_
  rintro _ _ ⟨e1, f1, g1, q5, z1, rfl, a2, x2, b2, _, r5⟩
  have s5 := Sat.unflat2 r5
  have hn_zs_139 := a2.len; have hl_zs_139 := a2.le
  refine pu1 ?_
  refine tW s5 3 9 (.slice e1 f1 g1) Tryz.sizeOf22 ?_
  intro _ t5
  refine nB ?_
  have u5 := (t5.picks [2, 3, 2])
  have v5 : Sat W _ ([(p, .cells #[.slice a n k, I b2] 85 (0, 0))] :: [(a0, .cells #[I s0.kind, I s0.a, I s0.b, .bool s0.barrier, I s0.edgePolicy, I s0.edgeFill, I s0.kW, I s0.kH, .slice s0.weights.a s0.weights.n s0.weights.k, .slice e1 f1 g1, .slice s0.col.a s0.col.n s0.col.k, I s0.shift, I s0.shift2, .slice s0.x.a s0.x.n s0.x.k, .slice s0.y.a s0.y.n s0.y.k, I s0.bins, .slice s0.ops.a s0.ops.n s0.ops.k, I s0.max_] 38 (0, 0))] :: [(b0, .cells #[I 0, I 0, I 0, .bool false, I 0, I 0, I 0, I 0, .slice none 0 0, .slice none 0 0, .slice none 0 0, I 0, I 0, .slice none 0 0, .slice none 0 0, I 0, .slice none 0 0, I 0] 38 (0, 0))] :: (z1) :: J :: H :: F) := Sat.perm (show Sat W _ ([(p, .cells #[.slice a n k, I b2] 85 (0, 0))] :: [(a0, .cells #[I s0.kind, I s0.a, I s0.b, .bool s0.barrier, I s0.edgePolicy, I s0.edgeFill, I s0.kW, I s0.kH, .slice s0.weights.a s0.weights.n s0.weights.k, .slice e1 f1 g1, .slice s0.col.a s0.col.n s0.col.k, I s0.shift, I s0.shift2, .slice s0.x.a s0.x.n s0.x.k, .slice s0.y.a s0.y.n s0.y.k, I s0.bins, .slice s0.ops.a s0.ops.n s0.ops.k, I s0.max_] 38 (0, 0))] :: [(b0, .cells #[I 0, I 0, I 0, .bool false, I 0, I 0, I 0, I 0, .slice none 0 0, .slice none 0 0, .slice none 0 0, I 0, I 0, .slice none 0 0, .slice none 0 0, I 0, .slice none 0 0, I 0] 38 (0, 0))] :: z1 :: J :: H :: F) from u5) (by simp [Value.cells])
  exact ⟨((⟨s0.kind, s0.a, s0.b, s0.barrier, s0.edgePolicy, s0.edgeFill, s0.kW, s0.kH, s0.weights, ⟨e1, f1, g1, q5⟩, s0.col, s0.shift, s0.shift2, s0.x, s0.y, s0.bins, s0.ops, s0.max_⟩ : Stage), (z1), b2), alA, v5, om, ⟨hs0.weights.of_mem mS, a2.of_mem mS, hs0.col.of_mem mS, hs0.x.of_mem mS, (fun z hz => (hs0.xD z hz).of_mem mS), hs0.y.of_mem mS, (fun z hz => (hs0.yD z hz).of_mem mS), hs0.ops.of_mem mS⟩, ⟨⟨nb, nb, nb, nb, nb, nb, nb, nb, nb, nb, nb⟩, ⟨by have h := hsB.2.1.1; dsimp only; omega, hsB.2.1.2⟩, ⟨by have h := x2.1; dsimp only; omega, x2.2⟩, ⟨by have h := hsB.2.2.2.1.1; dsimp only; omega, hsB.2.2.2.1.2⟩, ⟨by have h := hsB.2.2.2.2.1.1; dsimp only; omega, hsB.2.2.2.2.1.2⟩, ⟨by have h := hsB.2.2.2.2.2.1.1; dsimp only; omega, hsB.2.2.2.2.2.1.2⟩, ⟨by have h := hsB.2.2.2.2.2.2.1; dsimp only; omega, hsB.2.2.2.2.2.2.2⟩⟩⟩
 refine sR <| pu2 <| nT ?_
 refine cE f0 7 (fun w5 => ?_) (fun w5 => ?_)
 ·refine regionE <| pu1 ?_
  refine sBS e0 #[I 0, I (-1), I 25, I 24] Tryz.runUnderlying22 Tryz.sizeOf3 Tryz.zeroValue3 ?_
  intro _ _ x5
  have y5 := (x5.pick 1 rfl)
  refine cX Tryz.call38 (tape_pick (RdT.flat (hR.up 4 (by rfl))) om (Sat.flat1 y5) (RdT.flat (RdT.blk (enc := Go.E.encI) (sz := 1) (xs := [0, -1, 25, 24]) (fun _ => (by rfl)) 4 0 rfl rfl rfl om)) om om) ?_
  rintro _ _ ⟨k0, rfl, z5, _, _, a6⟩
  have b6 := Sat.unflat1 a6
  have nc : (k0 : Int) = 0 ∨ (k0 : Int) = (-1) ∨ (k0 : Int) = 25 ∨ (k0 : Int) = 24 := by simpa using z5
  refine pu1 ?_
  refine sBS b6 #[I 0, I 25, I 3] Tryz.runUnderlying22 Tryz.sizeOf3 Tryz.zeroValue3 ?_
  intro _ _ c6
  have d6 := (c6.pick 1 rfl)
  refine cX Tryz.call38 (tape_pick (RdT.flat (hR.up 5 (by rfl))) om (Sat.flat1 d6) (RdT.flat (RdT.blk (enc := Go.E.encI) (sz := 1) (xs := [0, 25, 3]) (fun _ => (by rfl)) 3 0 rfl rfl rfl om)) om om) ?_
  rintro _ _ ⟨n0, rfl, e6, c2, _, f6⟩
  have g6 := Sat.unflat1 f6
  have sc : (n0 : Int) = 0 ∨ (n0 : Int) = 25 ∨ (n0 : Int) = 3 := by simpa using e6
  refine pu1 ?_
  refine tW g6 4 11 (I k0) Tryz.sizeOf3 ?_
  intro _ h6
  refine pu1 ?_
  refine tW h6 4 12 (I n0) Tryz.sizeOf3 ?_
  intro _ i6
  refine nB ?_
  have j6 := ((i6.picks [4, 1]).drops [2, 2])
  have k6 : Sat W _ ([(p, .cells #[.slice a n k, I c2] 85 (0, 0))] :: [(a0, .cells #[I s0.kind, I s0.a, I s0.b, .bool s0.barrier, I s0.edgePolicy, I s0.edgeFill, I s0.kW, I s0.kH, .slice s0.weights.a s0.weights.n s0.weights.k, .slice s0.row.a s0.row.n s0.row.k, .slice s0.col.a s0.col.n s0.col.k, I k0, I n0, .slice s0.x.a s0.x.n s0.x.k, .slice s0.y.a s0.y.n s0.y.k, I s0.bins, .slice s0.ops.a s0.ops.n s0.ops.k, I s0.max_] 38 (0, 0))] :: [(b0, .cells #[I 0, I 0, I 0, .bool false, I 0, I 0, I 0, I 0, .slice none 0 0, .slice none 0 0, .slice none 0 0, I 0, I 0, .slice none 0 0, .slice none 0 0, I 0, .slice none 0 0, I 0] 38 (0, 0))] :: [] :: J :: H :: F) := Sat.perm (show Sat W _ ([(p, .cells #[.slice a n k, I c2] 85 (0, 0))] :: [(a0, .cells #[I s0.kind, I s0.a, I s0.b, .bool s0.barrier, I s0.edgePolicy, I s0.edgeFill, I s0.kW, I s0.kH, .slice s0.weights.a s0.weights.n s0.weights.k, .slice s0.row.a s0.row.n s0.row.k, .slice s0.col.a s0.col.n s0.col.k, I k0, I n0, .slice s0.x.a s0.x.n s0.x.k, .slice s0.y.a s0.y.n s0.y.k, I s0.bins, .slice s0.ops.a s0.ops.n s0.ops.k, I s0.max_] 38 (0, 0))] :: [(b0, .cells #[I 0, I 0, I 0, .bool false, I 0, I 0, I 0, I 0, .slice none 0 0, .slice none 0 0, .slice none 0 0, I 0, I 0, .slice none 0 0, .slice none 0 0, I 0, .slice none 0 0, I 0] 38 (0, 0))] :: J :: H :: F) from j6) (by simp [Value.cells])
  exact ⟨((⟨s0.kind, s0.a, s0.b, s0.barrier, s0.edgePolicy, s0.edgeFill, s0.kW, s0.kH, s0.weights, s0.row, s0.col, k0, n0, s0.x, s0.y, s0.bins, s0.ops, s0.max_⟩ : Stage), [], c2), alA, k6, om, ⟨hs0.weights.of_mem mS, hs0.row.of_mem mS, hs0.col.of_mem mS, hs0.x.of_mem mS, (fun z hz => (hs0.xD z hz).of_mem mS), hs0.y.of_mem mS, (fun z hz => (hs0.yD z hz).of_mem mS), hs0.ops.of_mem mS⟩, ⟨⟨nb, nb, nb, nb, nb, nb, nb, nb, nb, nb, nb⟩, ⟨by have h := hsB.2.1.1; dsimp only; omega, hsB.2.1.2⟩, ⟨by have h := hsB.2.2.1.1; dsimp only; omega, hsB.2.2.1.2⟩, ⟨by have h := hsB.2.2.2.1.1; dsimp only; omega, hsB.2.2.2.1.2⟩, ⟨by have h := hsB.2.2.2.2.1.1; dsimp only; omega, hsB.2.2.2.2.1.2⟩, ⟨by have h := hsB.2.2.2.2.2.1.1; dsimp only; omega, hsB.2.2.2.2.2.1.2⟩, ⟨by have h := hsB.2.2.2.2.2.2.1; dsimp only; omega, hsB.2.2.2.2.2.2.2⟩⟩⟩
 refine sR <| pu2 <| nT ?_
 refine cE f0 8 (fun l6 => ?_) (fun l6 => ?_)
 ·refine regionE ?_
  refine sBS e0 #[] Tryz.runUnderlying35 Tryz.sizeOf123 Tryz.zeroValue123 ?_
  intro m6 _ y2
  refine pu1 ?_
  refine sL y2 3 13 (.slice s0.x.a s0.x.n s0.x.k) (Tryz.isAgg35 _) ?_
  have n6 := OwnT.blk (enc := encTap) (sz := 2) (b := m6) (c := #[]) (E := 123) (xs := []) fR 0 rfl rfl rfl om
  refine sApp (nb := 32) y2 n6 0 (hs0.x.up 4 rfl) Tryz.underlying35 (i := Tryz.t123) kr fR ?_
  intro _ _ _ _ o6 p6
  refine pu1 ?_
  refine sBS p6 #[I (-129), I 0, I 256, I 257] Tryz.runUnderlying22 Tryz.sizeOf3 Tryz.zeroValue3 ?_
  intro _ _ q6
  have r6 := (q6.pick 2 rfl)
  refine cX Tryz.call38 (tape_pick (RdT.flat (hR.up 5 (by rfl))) om (Sat.flat1 r6) (RdT.flat (RdT.blk (enc := Go.E.encI) (sz := 1) (xs := [-129, 0, 256, 257]) (fun _ => (by rfl)) 4 0 rfl rfl rfl om)) om om) ?_
  rintro _ _ ⟨o0, rfl, s6, _, _, t6⟩
  have u6 := Sat.unflat1 t6
  have fd : (o0 : Int) = (-129) ∨ (o0 : Int) = 0 ∨ (o0 : Int) = 256 ∨ (o0 : Int) = 257 := by simpa using s6
  refine pu2 ?_
  refine sBS u6 #[I 0, I 1, I 8, I 9] Tryz.runUnderlying22 Tryz.sizeOf3 Tryz.zeroValue3 ?_
  intro _ _ v6
  have w6 := (v6.pick 1 rfl)
  refine cX Tryz.call38 (tape_pick (RdT.flat (hR.up 6 (by rfl))) om (Sat.flat1 w6) (RdT.flat (RdT.blk (enc := Go.E.encI) (sz := 1) (xs := [0, 1, 8, 9]) (fun _ => (by rfl)) 4 0 rfl rfl rfl om)) om om) ?_
  rintro _ _ ⟨v0, rfl, x6, _, _, y6⟩
  have z6 := Sat.unflat1 y6
  have md : (v0 : Int) = 0 ∨ (v0 : Int) = 1 ∨ (v0 : Int) = 8 ∨ (v0 : Int) = 9 := by simpa using x6
  refine cX Tryz.call62 (tg_weights (RdT.flat (hR.up 6 (by rfl))) om (Sat.flat1 z6) v0 om) ?_
  rintro _ _ ⟨d2, e2, f2, z2, g2, rfl, h2, a3, i2, _, a7⟩
  have b7 := Sat.unflat2 a7
  have hn_zs_221 := h2.len; have hl_zs_221 := h2.le
  refine pu1 ?_
  refine sBS b7 #[I o0, .slice d2 e2 f2] Tryz.runUnderlying35 Tryz.sizeOf123 Tryz.zeroValue123 ?_
  intro _ _ c7
  refine sApp (nb := 32) c7 o6 5 (RdT.blk (enc := encTap) (sz := 2) (xs := [(⟨o0, ⟨d2, e2, f2, z2⟩⟩ : Tap)]) fR 1 0 rfl rfl rfl om) Tryz.underlying35 (i := Tryz.t123) kr fR ?_
  intro h1 i1 j1 _ d7 e7
  refine pu1 ?_
  refine tW e7 7 13 (.slice h1 ((0 + s0.x.n) + 1) i1) Tryz.sizeOf35 ?_
  intro _ f7
  refine nB ?_
  have g7 := ((f7.picks [5, 6, 7, 4]).drops [4, 5, 5])
  have h7 : Sat W _ ([(p, .cells #[.slice a n k, I i2] 85 (0, 0))] :: [(a0, .cells #[I s0.kind, I s0.a, I s0.b, .bool s0.barrier, I s0.edgePolicy, I s0.edgeFill, I s0.kW, I s0.kH, .slice s0.weights.a s0.weights.n s0.weights.k, .slice s0.row.a s0.row.n s0.row.k, .slice s0.col.a s0.col.n s0.col.k, I s0.shift, I s0.shift2, .slice h1 ((0 + s0.x.n) + 1) i1, .slice s0.y.a s0.y.n s0.y.k, I s0.bins, .slice s0.ops.a s0.ops.n s0.ops.k, I s0.max_] 38 (0, 0))] :: [(b0, .cells #[I 0, I 0, I 0, .bool false, I 0, I 0, I 0, I 0, .slice none 0 0, .slice none 0 0, .slice none 0 0, I 0, I 0, .slice none 0 0, .slice none 0 0, I 0, .slice none 0 0, I 0] 38 (0, 0))] :: (j1 ++ g2) :: J :: H :: F) := Sat.perm (show Sat W _ ([(p, .cells #[.slice a n k, I i2] 85 (0, 0))] :: [(a0, .cells #[I s0.kind, I s0.a, I s0.b, .bool s0.barrier, I s0.edgePolicy, I s0.edgeFill, I s0.kW, I s0.kH, .slice s0.weights.a s0.weights.n s0.weights.k, .slice s0.row.a s0.row.n s0.row.k, .slice s0.col.a s0.col.n s0.col.k, I s0.shift, I s0.shift2, .slice h1 ((0 + s0.x.n) + 1) i1, .slice s0.y.a s0.y.n s0.y.k, I s0.bins, .slice s0.ops.a s0.ops.n s0.ops.k, I s0.max_] 38 (0, 0))] :: [(b0, .cells #[I 0, I 0, I 0, .bool false, I 0, I 0, I 0, I 0, .slice none 0 0, .slice none 0 0, .slice none 0 0, I 0, I 0, .slice none 0 0, .slice none 0 0, I 0, .slice none 0 0, I 0] 38 (0, 0))] :: j1 :: g2 :: J :: H :: F) from g7) (by simp [Value.cells])
  exact ⟨((⟨s0.kind, s0.a, s0.b, s0.barrier, s0.edgePolicy, s0.edgeFill, s0.kW, s0.kH, s0.weights, s0.row, s0.col, s0.shift, s0.shift2, ⟨h1, ((0 + s0.x.n) + 1), i1, (([] ++ s0.x.l) ++ [(⟨o0, ⟨d2, e2, f2, z2⟩⟩ : Tap)])⟩, s0.y, s0.bins, s0.ops, s0.max_⟩ : Stage), (j1 ++ g2), i2), alA, h7, om, ⟨hs0.weights.of_mem mS, hs0.row.of_mem mS, hs0.col.of_mem mS, (d7.rdAt (cs := [j1]) 0 rfl).of_mem mS, (by
    intro z hz
    rcases List.mem_append.1 hz with h | h
    ·rw [List.nil_append] at h; exact (hs0.xD z h).of_mem mS
    ·simp only [List.mem_singleton] at h; rw [h]; exact ⟨h2.of_mem mS⟩), hs0.y.of_mem mS, (fun z hz => (hs0.yD z hz).of_mem mS), hs0.ops.of_mem mS⟩, ⟨⟨nb, nb, nb, nb, nb, nb, nb, nb, nb, nb, nb⟩, ⟨by have h := hsB.2.1.1; dsimp only; omega, hsB.2.1.2⟩, ⟨by have h := hsB.2.2.1.1; dsimp only; omega, hsB.2.2.1.2⟩, ⟨by have h := hsB.2.2.2.1.1; dsimp only; omega, hsB.2.2.2.1.2⟩, ⟨by have h := hsB.2.2.2.2.1.1; simp; omega, mem_snoc (base_any hsB.2.2.2.2.1.2) ⟨nb, by have h := a3.1; dsimp only; omega, a3.2⟩⟩, ⟨by have h := hsB.2.2.2.2.2.1.1; dsimp only; omega, hsB.2.2.2.2.2.1.2⟩, ⟨by have h := hsB.2.2.2.2.2.2.1; dsimp only; omega, hsB.2.2.2.2.2.2.2⟩⟩⟩
 refine sR <| pu2 <| nT ?_
 refine cE f0 9 (fun i7 => ?_) (fun i7 => ?_)
 ·refine regionE <| pu1 ?_
  refine sBS e0 #[I 0, I 1, I 128, I 129] Tryz.runUnderlying22 Tryz.sizeOf3 Tryz.zeroValue3 ?_
  intro _ _ j7
  have k7 := (j7.pick 1 rfl)
  refine cX Tryz.call38 (tape_pick (RdT.flat (hR.up 4 (by rfl))) om (Sat.flat1 k7) (RdT.flat (RdT.blk (enc := Go.E.encI) (sz := 1) (xs := [0, 1, 128, 129]) (fun _ => (by rfl)) 4 0 rfl rfl rfl om)) om om) ?_
  rintro _ _ ⟨l0, rfl, l7, j2, _, m7⟩
  have n7 := Sat.unflat1 m7
  have xd : (l0 : Int) = 0 ∨ (l0 : Int) = 1 ∨ (l0 : Int) = 128 ∨ (l0 : Int) = 129 := by simpa using l7
  refine pu1 ?_
  refine tW n7 3 15 (I l0) Tryz.sizeOf3 ?_
  intro _ o7
  refine nB ?_
  have p7 := ((o7.picks [3, 1]).dropAt 2 rfl)
  have q7 : Sat W _ ([(p, .cells #[.slice a n k, I j2] 85 (0, 0))] :: [(a0, .cells #[I s0.kind, I s0.a, I s0.b, .bool s0.barrier, I s0.edgePolicy, I s0.edgeFill, I s0.kW, I s0.kH, .slice s0.weights.a s0.weights.n s0.weights.k, .slice s0.row.a s0.row.n s0.row.k, .slice s0.col.a s0.col.n s0.col.k, I s0.shift, I s0.shift2, .slice s0.x.a s0.x.n s0.x.k, .slice s0.y.a s0.y.n s0.y.k, I l0, .slice s0.ops.a s0.ops.n s0.ops.k, I s0.max_] 38 (0, 0))] :: [(b0, .cells #[I 0, I 0, I 0, .bool false, I 0, I 0, I 0, I 0, .slice none 0 0, .slice none 0 0, .slice none 0 0, I 0, I 0, .slice none 0 0, .slice none 0 0, I 0, .slice none 0 0, I 0] 38 (0, 0))] :: [] :: J :: H :: F) := Sat.perm (show Sat W _ ([(p, .cells #[.slice a n k, I j2] 85 (0, 0))] :: [(a0, .cells #[I s0.kind, I s0.a, I s0.b, .bool s0.barrier, I s0.edgePolicy, I s0.edgeFill, I s0.kW, I s0.kH, .slice s0.weights.a s0.weights.n s0.weights.k, .slice s0.row.a s0.row.n s0.row.k, .slice s0.col.a s0.col.n s0.col.k, I s0.shift, I s0.shift2, .slice s0.x.a s0.x.n s0.x.k, .slice s0.y.a s0.y.n s0.y.k, I l0, .slice s0.ops.a s0.ops.n s0.ops.k, I s0.max_] 38 (0, 0))] :: [(b0, .cells #[I 0, I 0, I 0, .bool false, I 0, I 0, I 0, I 0, .slice none 0 0, .slice none 0 0, .slice none 0 0, I 0, I 0, .slice none 0 0, .slice none 0 0, I 0, .slice none 0 0, I 0] 38 (0, 0))] :: J :: H :: F) from p7) (by simp [Value.cells])
  exact ⟨((⟨s0.kind, s0.a, s0.b, s0.barrier, s0.edgePolicy, s0.edgeFill, s0.kW, s0.kH, s0.weights, s0.row, s0.col, s0.shift, s0.shift2, s0.x, s0.y, l0, s0.ops, s0.max_⟩ : Stage), [], j2), alA, q7, om, ⟨hs0.weights.of_mem mS, hs0.row.of_mem mS, hs0.col.of_mem mS, hs0.x.of_mem mS, (fun z hz => (hs0.xD z hz).of_mem mS), hs0.y.of_mem mS, (fun z hz => (hs0.yD z hz).of_mem mS), hs0.ops.of_mem mS⟩, ⟨⟨nb, nb, nb, nb, nb, nb, nb, nb, nb, nb, nb⟩, ⟨by have h := hsB.2.1.1; dsimp only; omega, hsB.2.1.2⟩, ⟨by have h := hsB.2.2.1.1; dsimp only; omega, hsB.2.2.1.2⟩, ⟨by have h := hsB.2.2.2.1.1; dsimp only; omega, hsB.2.2.2.1.2⟩, ⟨by have h := hsB.2.2.2.2.1.1; dsimp only; omega, hsB.2.2.2.2.1.2⟩, ⟨by have h := hsB.2.2.2.2.2.1.1; dsimp only; omega, hsB.2.2.2.2.2.1.2⟩, ⟨by have h := hsB.2.2.2.2.2.2.1; dsimp only; omega, hsB.2.2.2.2.2.2.2⟩⟩⟩
 refine sR <| pu2 <| nT ?_
 refine cE f0 10 (fun r7 => ?_) (fun r7 => ?_)
 ·refine regionE ?_
  refine sBS e0 #[] Tryz.runUnderlying36 Tryz.sizeOf92 Tryz.zeroValue92 ?_
  intro s7 _ b3
  refine pu1 ?_
  refine sL b3 3 16 (.slice s0.ops.a s0.ops.n s0.ops.k) (Tryz.isAgg36 _) ?_
  have t7 := OwnT.blk (enc := encPOp) (sz := 2) (b := s7) (c := #[]) (E := 92) (xs := []) fR 0 rfl rfl rfl om
  refine sApp (nb := 16) b3 t7 0 (hs0.ops.up 4 rfl) Tryz.underlying36 (i := Tryz.t92) kr fR ?_
  intro _ _ _ _ u7 v7
  refine pu1 ?_
  have w7 := (v7.pick 1 rfl)
  refine cX Tryz.call13 (tape_next (RdT.flat (hR.up 4 (by rfl))) om (Sat.flat1 w7) 14 om) ?_
  rintro _ _ ⟨k1, rfl, _, _, _, x7⟩
  have y7 := Sat.unflat1 x7
  refine sSub k1 1 ?_
  refine pu1 ?_
  refine sBS y7 #[I 0, I 1, I 25, I (-5)] Tryz.runUnderlying22 Tryz.sizeOf3 Tryz.zeroValue3 ?_
  intro _ _ z7
  have a8 := (z7.pick 1 rfl)
  refine cX Tryz.call38 (tape_pick (RdT.flat (hR.up 5 (by rfl))) om (Sat.flat1 a8) (RdT.flat (RdT.blk (enc := Go.E.encI) (sz := 1) (xs := [0, 1, 25, -5]) (fun _ => (by rfl)) 4 0 rfl rfl rfl om)) om om) ?_
  rintro _ _ ⟨p0, rfl, b8, k2, _, c8⟩
  have d8 := Sat.unflat1 c8
  have ne : (p0 : Int) = 0 ∨ (p0 : Int) = 1 ∨ (p0 : Int) = 25 ∨ (p0 : Int) = (-5) := by simpa using b8
  refine pu1 ?_
  refine sBS d8 #[I (k1 - 1), I p0] Tryz.runUnderlying36 Tryz.sizeOf92 Tryz.zeroValue92 ?_
  intro _ _ e8
  refine sApp (nb := 16) e8 u7 3 (RdT.blk (enc := encPOp) (sz := 2) (xs := [(⟨(k1 - 1), p0⟩ : POp)]) fR 1 0 rfl rfl rfl om) Tryz.underlying36 (i := Tryz.t92) kr fR ?_
  intro l1 m1 n1 _ f8 g8
  refine pu1 ?_
  refine tW g8 5 16 (.slice l1 ((0 + s0.ops.n) + 1) m1) Tryz.sizeOf36 ?_
  intro _ h8
  refine nB ?_
  have i8 := ((h8.picks [4, 5, 3]).drops [3, 3])
  have j8 : Sat W _ ([(p, .cells #[.slice a n k, I k2] 85 (0, 0))] :: [(a0, .cells #[I s0.kind, I s0.a, I s0.b, .bool s0.barrier, I s0.edgePolicy, I s0.edgeFill, I s0.kW, I s0.kH, .slice s0.weights.a s0.weights.n s0.weights.k, .slice s0.row.a s0.row.n s0.row.k, .slice s0.col.a s0.col.n s0.col.k, I s0.shift, I s0.shift2, .slice s0.x.a s0.x.n s0.x.k, .slice s0.y.a s0.y.n s0.y.k, I s0.bins, .slice l1 ((0 + s0.ops.n) + 1) m1, I s0.max_] 38 (0, 0))] :: [(b0, .cells #[I 0, I 0, I 0, .bool false, I 0, I 0, I 0, I 0, .slice none 0 0, .slice none 0 0, .slice none 0 0, I 0, I 0, .slice none 0 0, .slice none 0 0, I 0, .slice none 0 0, I 0] 38 (0, 0))] :: (n1) :: J :: H :: F) := Sat.perm (show Sat W _ ([(p, .cells #[.slice a n k, I k2] 85 (0, 0))] :: [(a0, .cells #[I s0.kind, I s0.a, I s0.b, .bool s0.barrier, I s0.edgePolicy, I s0.edgeFill, I s0.kW, I s0.kH, .slice s0.weights.a s0.weights.n s0.weights.k, .slice s0.row.a s0.row.n s0.row.k, .slice s0.col.a s0.col.n s0.col.k, I s0.shift, I s0.shift2, .slice s0.x.a s0.x.n s0.x.k, .slice s0.y.a s0.y.n s0.y.k, I s0.bins, .slice l1 ((0 + s0.ops.n) + 1) m1, I s0.max_] 38 (0, 0))] :: [(b0, .cells #[I 0, I 0, I 0, .bool false, I 0, I 0, I 0, I 0, .slice none 0 0, .slice none 0 0, .slice none 0 0, I 0, I 0, .slice none 0 0, .slice none 0 0, I 0, .slice none 0 0, I 0] 38 (0, 0))] :: n1 :: J :: H :: F) from i8) (by simp [Value.cells])
  exact ⟨((⟨s0.kind, s0.a, s0.b, s0.barrier, s0.edgePolicy, s0.edgeFill, s0.kW, s0.kH, s0.weights, s0.row, s0.col, s0.shift, s0.shift2, s0.x, s0.y, s0.bins, ⟨l1, ((0 + s0.ops.n) + 1), m1, (([] ++ s0.ops.l) ++ [(⟨(k1 - 1), p0⟩ : POp)])⟩, s0.max_⟩ : Stage), (n1), k2), alA, j8, om, ⟨hs0.weights.of_mem mS, hs0.row.of_mem mS, hs0.col.of_mem mS, hs0.x.of_mem mS, (fun z hz => (hs0.xD z hz).of_mem mS), hs0.y.of_mem mS, (fun z hz => (hs0.yD z hz).of_mem mS), (f8.rdAt (cs := [n1]) 0 rfl).of_mem mS⟩, ⟨⟨nb, nb, nb, nb, nb, nb, nb, nb, nb, nb, nb⟩, ⟨by have h := hsB.2.1.1; dsimp only; omega, hsB.2.1.2⟩, ⟨by have h := hsB.2.2.1.1; dsimp only; omega, hsB.2.2.1.2⟩, ⟨by have h := hsB.2.2.2.1.1; dsimp only; omega, hsB.2.2.2.1.2⟩, ⟨by have h := hsB.2.2.2.2.1.1; dsimp only; omega, hsB.2.2.2.2.1.2⟩, ⟨by have h := hsB.2.2.2.2.2.1.1; dsimp only; omega, hsB.2.2.2.2.2.1.2⟩, ⟨by have h := hsB.2.2.2.2.2.2.1; simp; omega, mem_snoc (base_any hsB.2.2.2.2.2.2.2) ⟨nb, nb⟩⟩⟩⟩
 refine sR <| pu2 <| nT ?_
 refine cE f0 11 (fun k8 => ?_) (fun k8 => ?_)
 ·refine regionE <| pu1 ?_
  refine sBS e0 #[I 0, I 1, I 4294967296, I 4294967297] Tryz.runUnderlying22 Tryz.sizeOf3 Tryz.zeroValue3 ?_
  intro _ _ l8
  have m8 := (l8.pick 1 rfl)
  refine cX Tryz.call38 (tape_pick (RdT.flat (hR.up 4 (by rfl))) om (Sat.flat1 m8) (RdT.flat (RdT.blk (enc := Go.E.encI) (sz := 1) (xs := [0, 1, 4294967296, 4294967297]) (fun _ => (by rfl)) 4 0 rfl rfl rfl om)) om om) ?_
  rintro _ _ ⟨m0, rfl, n8, l2, _, o8⟩
  have p8 := Sat.unflat1 o8
  have we : (m0 : Int) = 0 ∨ (m0 : Int) = 1 ∨ (m0 : Int) = 4294967296 ∨ (m0 : Int) = 4294967297 := by simpa using n8
  refine pu1 ?_
  refine tW p8 3 17 (I m0) Tryz.sizeOf3 ?_
  intro _ q8
  refine nB ?_
  have r8 := ((q8.picks [3, 1]).dropAt 2 rfl)
  have s8 : Sat W _ ([(p, .cells #[.slice a n k, I l2] 85 (0, 0))] :: [(a0, .cells #[I s0.kind, I s0.a, I s0.b, .bool s0.barrier, I s0.edgePolicy, I s0.edgeFill, I s0.kW, I s0.kH, .slice s0.weights.a s0.weights.n s0.weights.k, .slice s0.row.a s0.row.n s0.row.k, .slice s0.col.a s0.col.n s0.col.k, I s0.shift, I s0.shift2, .slice s0.x.a s0.x.n s0.x.k, .slice s0.y.a s0.y.n s0.y.k, I s0.bins, .slice s0.ops.a s0.ops.n s0.ops.k, I m0] 38 (0, 0))] :: [(b0, .cells #[I 0, I 0, I 0, .bool false, I 0, I 0, I 0, I 0, .slice none 0 0, .slice none 0 0, .slice none 0 0, I 0, I 0, .slice none 0 0, .slice none 0 0, I 0, .slice none 0 0, I 0] 38 (0, 0))] :: [] :: J :: H :: F) := Sat.perm (show Sat W _ ([(p, .cells #[.slice a n k, I l2] 85 (0, 0))] :: [(a0, .cells #[I s0.kind, I s0.a, I s0.b, .bool s0.barrier, I s0.edgePolicy, I s0.edgeFill, I s0.kW, I s0.kH, .slice s0.weights.a s0.weights.n s0.weights.k, .slice s0.row.a s0.row.n s0.row.k, .slice s0.col.a s0.col.n s0.col.k, I s0.shift, I s0.shift2, .slice s0.x.a s0.x.n s0.x.k, .slice s0.y.a s0.y.n s0.y.k, I s0.bins, .slice s0.ops.a s0.ops.n s0.ops.k, I m0] 38 (0, 0))] :: [(b0, .cells #[I 0, I 0, I 0, .bool false, I 0, I 0, I 0, I 0, .slice none 0 0, .slice none 0 0, .slice none 0 0, I 0, I 0, .slice none 0 0, .slice none 0 0, I 0, .slice none 0 0, I 0] 38 (0, 0))] :: J :: H :: F) from r8) (by simp [Value.cells])
  exact ⟨((⟨s0.kind, s0.a, s0.b, s0.barrier, s0.edgePolicy, s0.edgeFill, s0.kW, s0.kH, s0.weights, s0.row, s0.col, s0.shift, s0.shift2, s0.x, s0.y, s0.bins, s0.ops, m0⟩ : Stage), [], l2), alA, s8, om, ⟨hs0.weights.of_mem mS, hs0.row.of_mem mS, hs0.col.of_mem mS, hs0.x.of_mem mS, (fun z hz => (hs0.xD z hz).of_mem mS), hs0.y.of_mem mS, (fun z hz => (hs0.yD z hz).of_mem mS), hs0.ops.of_mem mS⟩, ⟨⟨nb, nb, nb, nb, nb, nb, nb, nb, nb, nb, nb⟩, ⟨by have h := hsB.2.1.1; dsimp only; omega, hsB.2.1.2⟩, ⟨by have h := hsB.2.2.1.1; dsimp only; omega, hsB.2.2.1.2⟩, ⟨by have h := hsB.2.2.2.1.1; dsimp only; omega, hsB.2.2.2.1.2⟩, ⟨by have h := hsB.2.2.2.2.1.1; dsimp only; omega, hsB.2.2.2.2.1.2⟩, ⟨by have h := hsB.2.2.2.2.2.1.1; dsimp only; omega, hsB.2.2.2.2.2.1.2⟩, ⟨by have h := hsB.2.2.2.2.2.2.1; dsimp only; omega, hsB.2.2.2.2.2.2.2⟩⟩⟩
 refine sR <| pu2 <| nT ?_
 refine cE f0 12 (fun t8 => ?_) (fun t8 => ?_)
 rotate_left
 ·refine regionE <| pu1 ?_
  refine sL e0 2 3 (.bool s0.barrier) (Tryz.isAgg4 _) ?_
  refine pu2 ?_
  refine tW e0 2 3 (.bool (!s0.barrier)) Tryz.sizeOf4 ?_
  intro _ u8
  refine nB ?_
  have v8 := (u8.picks [2, 1])
  have w8 : Sat W _ ([(p, .cells #[.slice a n k, I t0] 85 (0, 0))] :: [(a0, .cells #[I s0.kind, I s0.a, I s0.b, .bool (!s0.barrier), I s0.edgePolicy, I s0.edgeFill, I s0.kW, I s0.kH, .slice s0.weights.a s0.weights.n s0.weights.k, .slice s0.row.a s0.row.n s0.row.k, .slice s0.col.a s0.col.n s0.col.k, I s0.shift, I s0.shift2, .slice s0.x.a s0.x.n s0.x.k, .slice s0.y.a s0.y.n s0.y.k, I s0.bins, .slice s0.ops.a s0.ops.n s0.ops.k, I s0.max_] 38 (0, 0))] :: [(b0, .cells #[I 0, I 0, I 0, .bool false, I 0, I 0, I 0, I 0, .slice none 0 0, .slice none 0 0, .slice none 0 0, I 0, I 0, .slice none 0 0, .slice none 0 0, I 0, .slice none 0 0, I 0] 38 (0, 0))] :: [] :: J :: H :: F) := Sat.perm (show Sat W _ ([(p, .cells #[.slice a n k, I t0] 85 (0, 0))] :: [(a0, .cells #[I s0.kind, I s0.a, I s0.b, .bool (!s0.barrier), I s0.edgePolicy, I s0.edgeFill, I s0.kW, I s0.kH, .slice s0.weights.a s0.weights.n s0.weights.k, .slice s0.row.a s0.row.n s0.row.k, .slice s0.col.a s0.col.n s0.col.k, I s0.shift, I s0.shift2, .slice s0.x.a s0.x.n s0.x.k, .slice s0.y.a s0.y.n s0.y.k, I s0.bins, .slice s0.ops.a s0.ops.n s0.ops.k, I s0.max_] 38 (0, 0))] :: [(b0, .cells #[I 0, I 0, I 0, .bool false, I 0, I 0, I 0, I 0, .slice none 0 0, .slice none 0 0, .slice none 0 0, I 0, I 0, .slice none 0 0, .slice none 0 0, I 0, .slice none 0 0, I 0] 38 (0, 0))] :: J :: H :: F) from v8) (by simp [Value.cells])
  exact ⟨((⟨s0.kind, s0.a, s0.b, (!s0.barrier), s0.edgePolicy, s0.edgeFill, s0.kW, s0.kH, s0.weights, s0.row, s0.col, s0.shift, s0.shift2, s0.x, s0.y, s0.bins, s0.ops, s0.max_⟩ : Stage), [], t0), alA, w8, om, ⟨hs0.weights.of_mem mS, hs0.row.of_mem mS, hs0.col.of_mem mS, hs0.x.of_mem mS, (fun z hz => (hs0.xD z hz).of_mem mS), hs0.y.of_mem mS, (fun z hz => (hs0.yD z hz).of_mem mS), hs0.ops.of_mem mS⟩, ⟨⟨nb, nb, nb, nb, nb, nb, nb, nb, nb, nb, nb⟩, ⟨by have h := hsB.2.1.1; dsimp only; omega, hsB.2.1.2⟩, ⟨by have h := hsB.2.2.1.1; dsimp only; omega, hsB.2.2.1.2⟩, ⟨by have h := hsB.2.2.2.1.1; dsimp only; omega, hsB.2.2.2.1.2⟩, ⟨by have h := hsB.2.2.2.2.1.1; dsimp only; omega, hsB.2.2.2.2.1.2⟩, ⟨by have h := hsB.2.2.2.2.2.1.1; dsimp only; omega, hsB.2.2.2.2.2.1.2⟩, ⟨by have h := hsB.2.2.2.2.2.2.1; dsimp only; omega, hsB.2.2.2.2.2.2.2⟩⟩⟩
 refine sR ?_
 refine sBS e0 #[] Tryz.runUnderlying22 Tryz.sizeOf3 Tryz.zeroValue3 ?_
 intro x8 _ c3
 refine pu1 ?_
 refine sL c3 3 8 (.slice s0.weights.a s0.weights.n s0.weights.k) (Tryz.isAgg22 _) ?_
 have y8 := OwnT.blk (enc := Go.E.encI) (sz := 1) (b := x8) (c := #[]) (E := 3) (xs := []) fR 0 rfl rfl rfl om
 refine sApp (nb := 8) c3 y8 0 (hs0.weights.up 4 rfl) Tryz.underlying22 (i := Tryz.t3) kr fR ?_
 intro c0 d0 o1 _ w0 z8
 refine pu1 ?_
 refine tW z8 3 8 (.slice c0 (0 + s0.weights.n) d0) Tryz.sizeOf22 ?_
 intro _ x0
 refine nT <| sR <| pu1 ?_
 refine sL x0 3 8 (.slice c0 (0 + s0.weights.n) d0) (Tryz.isAgg22 _) ?_
 refine pu2 <| nT ?_
 refine cD ((((0 + s0.weights.n) : Nat) : Int) > 0) (fun a9 => ?_) (fun a9 => ?_)
 rotate_left
 ·refine skipE <| blockK_n <| thenK_n ?_
  have b9 := (x0.picks [2, 3, 3])
  have c9 : Sat W _ ([(p, .cells #[.slice a n k, I t0] 85 (0, 0))] :: [(a0, .cells #[I s0.kind, I s0.a, I s0.b, .bool s0.barrier, I s0.edgePolicy, I s0.edgeFill, I s0.kW, I s0.kH, .slice c0 (0 + s0.weights.n) d0, .slice s0.row.a s0.row.n s0.row.k, .slice s0.col.a s0.col.n s0.col.k, I s0.shift, I s0.shift2, .slice s0.x.a s0.x.n s0.x.k, .slice s0.y.a s0.y.n s0.y.k, I s0.bins, .slice s0.ops.a s0.ops.n s0.ops.k, I s0.max_] 38 (0, 0))] :: [(b0, .cells #[I 0, I 0, I 0, .bool false, I 0, I 0, I 0, I 0, .slice none 0 0, .slice none 0 0, .slice none 0 0, I 0, I 0, .slice none 0 0, .slice none 0 0, I 0, .slice none 0 0, I 0] 38 (0, 0))] :: (o1) :: J :: H :: F) := Sat.perm (show Sat W _ ([(p, .cells #[.slice a n k, I t0] 85 (0, 0))] :: [(a0, .cells #[I s0.kind, I s0.a, I s0.b, .bool s0.barrier, I s0.edgePolicy, I s0.edgeFill, I s0.kW, I s0.kH, .slice c0 (0 + s0.weights.n) d0, .slice s0.row.a s0.row.n s0.row.k, .slice s0.col.a s0.col.n s0.col.k, I s0.shift, I s0.shift2, .slice s0.x.a s0.x.n s0.x.k, .slice s0.y.a s0.y.n s0.y.k, I s0.bins, .slice s0.ops.a s0.ops.n s0.ops.k, I s0.max_] 38 (0, 0))] :: [(b0, .cells #[I 0, I 0, I 0, .bool false, I 0, I 0, I 0, I 0, .slice none 0 0, .slice none 0 0, .slice none 0 0, I 0, I 0, .slice none 0 0, .slice none 0 0, I 0, .slice none 0 0, I 0] 38 (0, 0))] :: o1 :: J :: H :: F) from b9) (by simp [Value.cells])
  exact ⟨((⟨s0.kind, s0.a, s0.b, s0.barrier, s0.edgePolicy, s0.edgeFill, s0.kW, s0.kH, ⟨c0, (0 + s0.weights.n), d0, ([] ++ s0.weights.l)⟩, s0.row, s0.col, s0.shift, s0.shift2, s0.x, s0.y, s0.bins, s0.ops, s0.max_⟩ : Stage), (o1), t0), alA, c9, om, ⟨(w0.rdAt (cs := [o1]) 0 rfl).of_mem mS, hs0.row.of_mem mS, hs0.col.of_mem mS, hs0.x.of_mem mS, (fun z hz => (hs0.xD z hz).of_mem mS), hs0.y.of_mem mS, (fun z hz => (hs0.yD z hz).of_mem mS), hs0.ops.of_mem mS⟩, ⟨⟨nb, nb, nb, nb, nb, nb, nb, nb, nb, nb, nb⟩, ⟨by have h := hsB.2.1.1; simp; omega, base_any hsB.2.1.2⟩, ⟨by have h := hsB.2.2.1.1; dsimp only; omega, hsB.2.2.1.2⟩, ⟨by have h := hsB.2.2.2.1.1; dsimp only; omega, hsB.2.2.2.1.2⟩, ⟨by have h := hsB.2.2.2.2.1.1; dsimp only; omega, hsB.2.2.2.2.1.2⟩, ⟨by have h := hsB.2.2.2.2.2.1.1; dsimp only; omega, hsB.2.2.2.2.2.1.2⟩, ⟨by have h := hsB.2.2.2.2.2.2.1; dsimp only; omega, hsB.2.2.2.2.2.2.2⟩⟩⟩
 refine drawP [6, 8, 9, 11] [(1, ⟨a0, 8, none⟩, .slice c0 (0 + s0.weights.n) d0), (4, ⟨a0, 8, none⟩, .slice c0 (0 + s0.weights.n) d0)] (Plan.sts [0, 2, 3, 7] <| Plan.sts [1] <| Plan.sts [4] <| Plan.sts [5] <| .fk 6 8 (.ef 8 <| .ef 9 <| Plan.sts [10] <| .ef 11 <| .fin) (.ef 6 <| .ef 9 <| Plan.sts [10] <| .ef 11 <| .fin)) rfl kr ⟨.inr (x0.cell 3 rfl rfl), .inr (x0.cell 3 rfl rfl), trivial⟩ ?_
 have d3 := x0.drew
 refine qU [0, 2, 3, 7] ?_
 refine qLd (.slice c0 (0 + s0.weights.n) d0) 0 Tryz.isAgg22 ?_
 refine qLd (.slice c0 (0 + s0.weights.n) d0) 1 Tryz.isAgg22 ?_
 refine qU [5] ?_
 refine qF ?_ ?_
 rotate_left
 ·refine qO rfl ?_
  refine sBS d3 #[I 32767, I (-32768), I 0] Tryz.runUnderlying22 Tryz.sizeOf3 Tryz.zeroValue3 ?_
  intro _ _ m2
  refine nilO ⟨⟨.inr (m2.cell 4 rfl rfl), .inr (m2.cell 4 rfl rfl), trivial⟩, ?_⟩
  refine qO rfl ?_
  have d9 := (m2.pick 2 rfl)
  refine cX Tryz.call13 (tape_next (RdT.flat (hR.up 5 (by rfl))) om (Sat.flat1 d9) (((0 + s0.weights.n) : Nat) : Int) om) ?_
  rintro _ _ ⟨y0, rfl, _, _, _, e9⟩
  have n2 := Sat.unflat1 e9
  refine nilO ⟨⟨.inr (n2.cell 4 rfl rfl), .inr (n2.cell 4 rfl rfl), trivial⟩, ?_⟩
  refine qO rfl ?_
  refine cX Tryz.call38 (tape_pick (RdT.flat (hR.up 5 (by rfl))) om (Sat.flat1 n2) (RdT.flat (RdT.blk (enc := Go.E.encI) (sz := 1) (xs := [32767, -32768, 0]) (fun _ => (by rfl)) 3 0 rfl rfl rfl om)) om om) ?_
  rintro _ _ ⟨q0, rfl, f9, o2, _, g9⟩
  have p2 := Sat.unflat1 g9
  have mf : (q0 : Int) = 32767 ∨ (q0 : Int) = (-32768) ∨ (q0 : Int) = 0 := by simpa using f9
  refine nilO ⟨⟨.inr (p2.cell 4 rfl rfl), .inr (p2.cell 4 rfl rfl), trivial⟩, ?_⟩
  obtain ⟨h9, i9, j9, k9, nf, l9, m9⟩ := OwnT.elem w0 y0
  refine qY (.pointer (some ⟨i9, j9 + (y0).toNat * 1, none⟩)) rfl (fun w _ => Y_idx (a := c0) (i := y0) (len := (0 + s0.weights.n)) (cap := d0) rfl Tryz.runUnderlying22 Tryz.sizeOf3 kr kr l9) ?_
  refine qO rfl ?_
  refine sStF p2 w0 m9 2 (y0).toNat 0 h9 q0 k9 (I q0) [I q0] Tryz.sizeOf3 ?_
  intro _ p1 n9 o9
  refine nilO ⟨dA, ?_⟩
  refine qN ?_
  refine blockK_n <| thenK_n ?_
  have p9 := ((o9.picks [3, 4, 2]).dropAt 3 rfl)
  have q9 : Sat W _ ([(p, .cells #[.slice a n k, I o2] 85 (0, 0))] :: [(a0, .cells #[I s0.kind, I s0.a, I s0.b, .bool s0.barrier, I s0.edgePolicy, I s0.edgeFill, I s0.kW, I s0.kH, .slice c0 (0 + s0.weights.n) d0, .slice s0.row.a s0.row.n s0.row.k, .slice s0.col.a s0.col.n s0.col.k, I s0.shift, I s0.shift2, .slice s0.x.a s0.x.n s0.x.k, .slice s0.y.a s0.y.n s0.y.k, I s0.bins, .slice s0.ops.a s0.ops.n s0.ops.k, I s0.max_] 38 (0, 0))] :: [(b0, .cells #[I 0, I 0, I 0, .bool false, I 0, I 0, I 0, I 0, .slice none 0 0, .slice none 0 0, .slice none 0 0, I 0, I 0, .slice none 0 0, .slice none 0 0, I 0, .slice none 0 0, I 0] 38 (0, 0))] :: (p1) :: J :: H :: F) := Sat.perm (show Sat W _ ([(p, .cells #[.slice a n k, I o2] 85 (0, 0))] :: [(a0, .cells #[I s0.kind, I s0.a, I s0.b, .bool s0.barrier, I s0.edgePolicy, I s0.edgeFill, I s0.kW, I s0.kH, .slice c0 (0 + s0.weights.n) d0, .slice s0.row.a s0.row.n s0.row.k, .slice s0.col.a s0.col.n s0.col.k, I s0.shift, I s0.shift2, .slice s0.x.a s0.x.n s0.x.k, .slice s0.y.a s0.y.n s0.y.k, I s0.bins, .slice s0.ops.a s0.ops.n s0.ops.k, I s0.max_] 38 (0, 0))] :: [(b0, .cells #[I 0, I 0, I 0, .bool false, I 0, I 0, I 0, I 0, .slice none 0 0, .slice none 0 0, .slice none 0 0, I 0, I 0, .slice none 0 0, .slice none 0 0, I 0, .slice none 0 0, I 0] 38 (0, 0))] :: p1 :: J :: H :: F) from p9) (by simp [Value.cells])
  exact ⟨((⟨s0.kind, s0.a, s0.b, s0.barrier, s0.edgePolicy, s0.edgeFill, s0.kW, s0.kH, ⟨c0, (0 + s0.weights.n), d0, (([] ++ s0.weights.l).set ((y0).toNat) q0)⟩, s0.row, s0.col, s0.shift, s0.shift2, s0.x, s0.y, s0.bins, s0.ops, s0.max_⟩ : Stage), (p1), o2), alA, q9, om, ⟨(n9.rdAt (cs := [p1]) 0 rfl).of_mem mS, hs0.row.of_mem mS, hs0.col.of_mem mS, hs0.x.of_mem mS, (fun z hz => (hs0.xD z hz).of_mem mS), hs0.y.of_mem mS, (fun z hz => (hs0.yD z hz).of_mem mS), hs0.ops.of_mem mS⟩, ⟨⟨nb, nb, nb, nb, nb, nb, nb, nb, nb, nb, nb⟩, ⟨by have h := hsB.2.1.1; simp; omega, mem_set (base_any hsB.2.1.2) nb⟩, ⟨by have h := hsB.2.2.1.1; dsimp only; omega, hsB.2.2.1.2⟩, ⟨by have h := hsB.2.2.2.1.1; dsimp only; omega, hsB.2.2.2.1.2⟩, ⟨by have h := hsB.2.2.2.2.1.1; dsimp only; omega, hsB.2.2.2.2.1.2⟩, ⟨by have h := hsB.2.2.2.2.2.1.1; dsimp only; omega, hsB.2.2.2.2.2.1.2⟩, ⟨by have h := hsB.2.2.2.2.2.2.1; dsimp only; omega, hsB.2.2.2.2.2.2.2⟩⟩⟩
 refine qO rfl ?_
 have r9 := (d3.pick 1 rfl)
 refine cX Tryz.call13 (tape_next (RdT.flat (hR.up 4 (by rfl))) om (Sat.flat1 r9) (((0 + s0.weights.n) : Nat) : Int) om) ?_
 rintro _ _ ⟨z0, rfl, _, _, _, s9⟩
 have q2 := Sat.unflat1 s9
 refine nilO ⟨⟨.inr (q2.cell 3 rfl rfl), .inr (q2.cell 3 rfl rfl), trivial⟩, ?_⟩
 refine qO rfl ?_
 refine sBS q2 #[I 32767, I (-32768), I 0] Tryz.runUnderlying22 Tryz.sizeOf3 Tryz.zeroValue3 ?_
 intro _ _ r2
 refine nilO ⟨⟨.inr (r2.cell 4 rfl rfl), .inr (r2.cell 4 rfl rfl), trivial⟩, ?_⟩
 refine qO rfl ?_
 have t9 := (r2.pick 1 rfl)
 refine cX Tryz.call38 (tape_pick (RdT.flat (hR.up 5 (by rfl))) om (Sat.flat1 t9) (RdT.flat (RdT.blk (enc := Go.E.encI) (sz := 1) (xs := [32767, -32768, 0]) (fun _ => (by rfl)) 3 0 rfl rfl rfl om)) om om) ?_
 rintro _ _ ⟨r0, rfl, u9, s2, _, v9⟩
 have t2 := Sat.unflat1 v9
 have yf : (r0 : Int) = 32767 ∨ (r0 : Int) = (-32768) ∨ (r0 : Int) = 0 := by simpa using u9
 refine nilO ⟨⟨.inr (t2.cell 4 rfl rfl), .inr (t2.cell 4 rfl rfl), trivial⟩, ?_⟩
 obtain ⟨w9, x9, y9, z9, zf, aa, ba⟩ := OwnT.elem w0 z0
 refine qY (.pointer (some ⟨x9, y9 + (z0).toNat * 1, none⟩)) rfl (fun w _ => Y_idx (a := c0) (i := z0) (len := (0 + s0.weights.n)) (cap := d0) rfl Tryz.runUnderlying22 Tryz.sizeOf3 kr kr aa) ?_
 refine qO rfl ?_
 refine sStF t2 w0 ba 2 (z0).toNat 0 w9 r0 z9 (I r0) [I r0] Tryz.sizeOf3 ?_
 intro _ q1 ca da
 refine nilO ⟨dA, ?_⟩
 refine qN ?_
 refine blockK_n <| thenK_n ?_
 have ea := ((da.picks [3, 4, 2]).dropAt 3 rfl)
 have fa : Sat W _ ([(p, .cells #[.slice a n k, I s2] 85 (0, 0))] :: [(a0, .cells #[I s0.kind, I s0.a, I s0.b, .bool s0.barrier, I s0.edgePolicy, I s0.edgeFill, I s0.kW, I s0.kH, .slice c0 (0 + s0.weights.n) d0, .slice s0.row.a s0.row.n s0.row.k, .slice s0.col.a s0.col.n s0.col.k, I s0.shift, I s0.shift2, .slice s0.x.a s0.x.n s0.x.k, .slice s0.y.a s0.y.n s0.y.k, I s0.bins, .slice s0.ops.a s0.ops.n s0.ops.k, I s0.max_] 38 (0, 0))] :: [(b0, .cells #[I 0, I 0, I 0, .bool false, I 0, I 0, I 0, I 0, .slice none 0 0, .slice none 0 0, .slice none 0 0, I 0, I 0, .slice none 0 0, .slice none 0 0, I 0, .slice none 0 0, I 0] 38 (0, 0))] :: (q1) :: J :: H :: F) := Sat.perm (show Sat W _ ([(p, .cells #[.slice a n k, I s2] 85 (0, 0))] :: [(a0, .cells #[I s0.kind, I s0.a, I s0.b, .bool s0.barrier, I s0.edgePolicy, I s0.edgeFill, I s0.kW, I s0.kH, .slice c0 (0 + s0.weights.n) d0, .slice s0.row.a s0.row.n s0.row.k, .slice s0.col.a s0.col.n s0.col.k, I s0.shift, I s0.shift2, .slice s0.x.a s0.x.n s0.x.k, .slice s0.y.a s0.y.n s0.y.k, I s0.bins, .slice s0.ops.a s0.ops.n s0.ops.k, I s0.max_] 38 (0, 0))] :: [(b0, .cells #[I 0, I 0, I 0, .bool false, I 0, I 0, I 0, I 0, .slice none 0 0, .slice none 0 0, .slice none 0 0, I 0, I 0, .slice none 0 0, .slice none 0 0, I 0, .slice none 0 0, I 0] 38 (0, 0))] :: q1 :: J :: H :: F) from ea) (by simp [Value.cells])
 exact ⟨((⟨s0.kind, s0.a, s0.b, s0.barrier, s0.edgePolicy, s0.edgeFill, s0.kW, s0.kH, ⟨c0, (0 + s0.weights.n), d0, (([] ++ s0.weights.l).set ((z0).toNat) r0)⟩, s0.row, s0.col, s0.shift, s0.shift2, s0.x, s0.y, s0.bins, s0.ops, s0.max_⟩ : Stage), (q1), s2), alA, fa, om, ⟨(ca.rdAt (cs := [q1]) 0 rfl).of_mem mS, hs0.row.of_mem mS, hs0.col.of_mem mS, hs0.x.of_mem mS, (fun z hz => (hs0.xD z hz).of_mem mS), hs0.y.of_mem mS, (fun z hz => (hs0.yD z hz).of_mem mS), hs0.ops.of_mem mS⟩, ⟨⟨nb, nb, nb, nb, nb, nb, nb, nb, nb, nb, nb⟩, ⟨by have h := hsB.2.1.1; simp; omega, mem_set (base_any hsB.2.1.2) nb⟩, ⟨by have h := hsB.2.2.1.1; dsimp only; omega, hsB.2.2.1.2⟩, ⟨by have h := hsB.2.2.2.1.1; dsimp only; omega, hsB.2.2.2.1.2⟩, ⟨by have h := hsB.2.2.2.2.1.1; dsimp only; omega, hsB.2.2.2.2.1.2⟩, ⟨by have h := hsB.2.2.2.2.2.1.1; dsimp only; omega, hsB.2.2.2.2.2.1.2⟩, ⟨by have h := hsB.2.2.2.2.2.2.1; dsimp only; omega, hsB.2.2.2.2.2.2.2⟩⟩⟩
end Go.Proofs.YtdingplbadblpaaGreat

namespace Go.Proofs.YtdingplbadblpaaGreat
open Go Go.E
set_option linter.unusedVariables false
set_option linter.unusedSimpArgs false
set_option linter.unnecessarySimpa false
set_option maxRecDepth 100000
set_option maxHeartbeats 2000000
variable {W w : World} {H : Chunk} {F : List Chunk}
end Go.Proofs.YtdingplbadblpaaGreat
