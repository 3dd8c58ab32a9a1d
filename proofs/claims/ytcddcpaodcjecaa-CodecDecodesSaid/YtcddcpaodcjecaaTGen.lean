import Derived.Test.YtcddcpaodcjecaaTab
import Derived.Test.YtcddcpaodcjecaaGood
namespace Go.Proofs.Ytcddcpaodcjecaa
open Go Go.E
set_option linter.unusedVariables false
set_option linter.unusedSimpArgs false
set_option linter.unnecessarySimpa false
set_option maxRecDepth 100000
set_option maxHeartbeats 2000000

-- squeezed
def planeB (q : Plane) : Prop := q.pix.l.length ≤ 64 ∧ ∀ z ∈ q.pix.l, numB z
theorem num_at {l : List Int} {x : Int} (hx : x ∈ l) (h : ∀ z ∈ l, -1000000000000000000 ≤ z ∧ z ≤ 1000000000000000000) : numB x := by have := h x hx; unfold numB; omega
theorem tg_weights (W w : World) (p : Nat) (a : Option Addr) (n k : Nat) (i : Int) (xs : List Int) (H : Chunk) (F : List Chunk) (hR : RdT encI 1 [H] a n k xs) (hi : 0 ≤ i ∧ i ≤ n) (hS : Sat W w ([(p, .cells #[.slice a n k, I i] 46 (0, 0))] :: H :: F)) (m0 : Int) (hm : m0 ≤ 64) :
  Calls Try.prog 43 #[Pt p 0, I m0] w fun e w' => ∃ (az : Option Addr) (nz : Nat) (kz : Nat) (zs : List Int) (G : Chunk), e = .returned (.slice az nz kz) ∧ (RdT encI 1 [G] az nz kz zs) ∧ ((zs.length : Int) = max m0 0 ∧ ∀ z ∈ zs, numB z) ∧ ∃ i' : Int, (0 ≤ i' ∧ i' ≤ n) ∧ Sat W w' ([(p, .cells #[.slice a n k, I i'] 46 (0, 0))] :: G :: H :: F) := by
 have hle := hR.le
 refine callsE (n := 22) Try.func43 rfl rfl (Nat.le_of_ble_eq_true rfl) ?_
 refine sR <| pu1 <| nT <| sR <| pu1 <| nT <| seqE <| sR <| pu1 <| nT <| blockE ?_
 have c0 := Sat.nilc hS
 have s0 := OwnT.nil (enc := encI) (E := 3) (sz := 1) fR
 change Sat _ _ ([] :: [(p, .cells #[.slice a n k, I i] 46 (0, 0))] :: H :: F) at c0
 refine loopE (γ := Nat × Int × (List Int) × (Option Addr) × Nat × Nat × Chunk) (fun ⟨i, iti, zs, azs, nzs, kzs, czs⟩ ρ w => AllAt ρ [(0, Pt p 0), (1, I m0), (4, .slice none 0 0), (6, I ((i : Nat) : Int)), (5, .slice azs nzs kzs)] ∧ Sat W w (czs :: [(p, .cells #[.slice a n k, I iti] 46 (0, 0))] :: H :: F) ∧ i ≤ m0.toNat ∧ (∀ z ∈ zs, numB z) ∧ (zs.length = i) ∧ (0 ≤ iti ∧ iti ≤ n) ∧ OwnT encI 3 1 azs nzs kzs zs czs) (fun ⟨i, iti, zs, azs, nzs, kzs, czs⟩ => m0.toNat - i) (0, i, [], none, 0, 0, []) ⟨alA, c0, om, (by intro z hz; cases hz), by rfl, om, s0⟩ ?_
 skip
 rintro ⟨i, iti, zs, azs, nzs, kzs, czs⟩ ρ _ ⟨hA, d0, hi, hB, hzl, hiti, hOzs⟩
 refine cAnchor hA (fun ρ => ?_)
 clear hA
 have hn_zs := hOzs.len; have hl_zs := hOzs.le
 refine seqE <| sR <| pu3 <| nT ?_
 by_cases e0 : (((i : Nat) : Int) : Int) < m0
 rotate_left
 ·refine cF _ (decide_eq_false e0) ?_
  refine exitE (xB <| ?_)
  refine thenK_n <| sR <| pu2 <| nT <| retE <| retT [.slice azs nzs kzs] ?_
  have f0 := (((d0.pick 2 rfl).pick 1 rfl).pick 2 rfl)
  change Sat _ _ ([(p, .cells #[.slice a n k, I iti] 46 (0, 0))] :: czs :: H :: F) at f0
  exact ⟨_, _, _, zs, czs, rfl, (hOzs.rdAt (cs := [czs]) 0 rfl), ⟨om, hB⟩, _, om, f0⟩
 refine cT _ (decide_eq_true e0) ?_
 refine kT <| seqE <| blockE <| regionE <| pu3 ?_
 have g0 := (d0.pick 1 rfl)
 change Sat _ _ ([(p, .cells #[.slice a n k, I iti] 46 (0, 0))] :: czs :: H :: F) at g0
 refine sF #[Pt p 0, I 41] Try.call19 (Calls.mono (tape_next W _ _ _ _ _ iti _ _ [] (RdT.flat (hR.up 1 (by rfl))) om (Sat.flat1 g0) 41 om) ?_)
 rintro _ _ ⟨b0, rfl, _, h0, _, i0⟩
 refine ⟨_, rfl, ?_⟩
 have j0 := Sat.unflat1 i0; clear i0
 change Sat _ _ ([(p, .cells #[.slice a n k, I h0] 46 (0, 0))] :: czs :: H :: F) at j0
 refine sSub b0 20 ?_
 refine sBS j0 #[I 1, I 2, I (-1), I 0, I (b0 - 20), I 5] Try.runUnderlying22 Try.sizeOf3 Try.zeroValue3 ?_
 intro t0 _ u0
 have k0 := (u0.pick 1 rfl)
 try dsimp only [List.set, List.eraseIdx, Value.cells] at k0
 refine sF #[Pt p 0, .slice (At t0 0) 6 6] Try.call26 (Calls.mono (tape_pick W _ _ _ _ _ h0 _ _ [] (RdT.flat (hR.up 2 (by rfl))) om (Sat.flat1 k0) _ _ _ [1, 2, -1, 0, (b0 - 20), 5] (RdT.flat (RdT.blk (enc := encI) (sz := 1) (xs := [1, 2, -1, 0, (b0 - 20), 5]) (fun _ => (by rfl)) 6 0 rfl rfl rfl om)) om om) ?_)
 rintro _ _ ⟨a0, rfl, v0, l0, _, n0⟩
 refine ⟨_, rfl, ?_⟩
 have o0 := Sat.unflat1 n0; clear n0
 try dsimp only [List.set, List.eraseIdx, Value.cells] at o0
 have h1 : (a0 : Int) = 1 ∨ (a0 : Int) = 2 ∨ (a0 : Int) = (-1) ∨ (a0 : Int) = 0 ∨ (a0 : Int) = (b0 - 20) ∨ (a0 : Int) = 5 := by simpa using v0
 refine sBS o0 #[I a0] Try.runUnderlying22 Try.sizeOf3 Try.zeroValue3 ?_
 intro _ _ w0
 refine sApp (nb := 8) w0 hOzs 3 (RdT.blk (enc := encI) (sz := 1) (xs := [a0]) fR 1 0 rfl rfl rfl om) Try.underlying22 (i := Try.t3) kr fR ?_
 intro x0 y0 p0 _ z0 q0
 try dsimp only [List.set, List.eraseIdx, Value.cells] at q0
 refine pu1 <| nB <| regionE <| pu1 ?_
 refine sAdd ((i : Nat) : Int) 1 ?_
 refine pu1 <| nT ?_
 have r0 := (((((q0.pick 4 rfl).pick 2 rfl).pick 4 rfl).dropAt 3 rfl).dropAt 3 rfl)
 change Sat _ _ (p0 :: [(p, .cells #[.slice a n k, I l0] 46 (0, 0))] :: H :: F) at r0
 exact ⟨(i + 1, l0, (zs ++ [a0]), x0, (nzs + 1), y0, p0), od, alA, r0, om, mem_snoc hB (by unfold numB; omega), by simp; omega, om, z0⟩
theorem tg_edge (W w : World) (p : Nat) (a : Option Addr) (n k : Nat) (i : Int) (xs : List Int) (H : Chunk) (F : List Chunk) (hR : RdT encI 1 [H] a n k xs) (hi : 0 ≤ i ∧ i ≤ n) (hS : Sat W w ([(p, .cells #[.slice a n k, I i] 46 (0, 0))] :: H :: F)) (mx : Int) (hmx : 0 ≤ mx ∧ mx ≤ 4294967296) :
  Calls Try.prog 42 #[Pt p 0, I mx] w fun e w' => ∃ (ep : Int) (ef : Int), e = .returned (.agg #[I ep, I ef]) ∧ (numB ep ∧ numB ef) ∧ ∃ i' : Int, (0 ≤ i' ∧ i' ≤ n) ∧ Sat W w' ([(p, .cells #[.slice a n k, I i'] 46 (0, 0))] :: H :: F) := by
 have hle := hR.le
 refine callsE (n := 20) Try.func42 rfl rfl (Nat.le_of_ble_eq_true rfl) ?_
 refine sR ?_
 refine sAlloc hS Try.zeroValue57 ?_
 intro _ _ q0
 refine nT <| sR <| pu1 ?_
 have g0 := (q0.pick 1 rfl)
 try dsimp only [List.set, List.eraseIdx, Value.cells] at g0
 refine sF #[Pt p 0, I 4] Try.call19 (Calls.mono (tape_next W _ _ _ _ _ i _ _ [] (RdT.flat (hR.up 1 (by rfl))) om (Sat.flat1 g0) 4 om) ?_)
 rintro _ _ ⟨a0, rfl, _, h0, _, i0⟩
 refine ⟨_, rfl, ?_⟩
 have j0 := Sat.unflat1 i0; clear i0
 try dsimp only [List.set, List.eraseIdx, Value.cells] at j0
 refine pu1 ?_
 refine sAlloc j0 Try.zeroValue57 ?_
 intro _ _ r0
 refine sTw r0 0 [I a0, I 0] Try.sizeOf57 ?_
 intro _ c0
 try dsimp only [List.set, List.eraseIdx, Value.cells] at c0
 refine nT <| seqE <| sR <| pu1 ?_
 refine sL c0 0 0 (I a0) (Try.isAgg3 _) ?_
 refine pu1 <| nT ?_
 by_cases k0 : (a0 : Int) = 3
 rotate_left
 ·refine cF _ (beq_eq_false_iff_ne.2 k0) ?_
  refine kT <| sR ?_
  refine sLA c0 0 0 [I a0, I 0] (Try.isAgg57 _) (Try.sizeOf57 _) ?_
  refine sTw c0 2 [I a0, I 0] Try.sizeOf57 ?_
  intro _ d0
  try dsimp only [List.set, List.eraseIdx, Value.cells] at d0
  refine nT <| retE <| retN (vs := [.agg #[I a0, I 0]]) rfl (.cons (.cell _ _ _ _ kr (lvA d0 2 0 [I a0, I 0] (Try.isAgg57 _) (Try.sizeOf57 _) rfl rfl rfl)) .nil) ?_
  have l0 := ((((d0.pick 3 rfl).pick 2 rfl).dropAt 2 rfl).dropAt 2 rfl)
  change Sat _ _ ([(p, .cells #[.slice a n k, I h0] 46 (0, 0))] :: H :: F) at l0
  exact ⟨a0, 0, rfl, by unfold numB; omega, _, om, l0⟩
 refine cT _ (beq_iff_eq.2 k0) ?_
 have hd := tdiv_bd (a := mx) (b := 2) (A := 4294967296) om om
 refine regionE <| pu3 ?_
 refine sQuo mx 2 ?_
 refine sBS c0 #[I 0, I mx, I (mx.tdiv 2)] Try.runUnderlying22 Try.sizeOf3 Try.zeroValue3 ?_
 intro s0 _ t0
 have m0 := (t0.pick 2 rfl)
 try dsimp only [List.set, List.eraseIdx, Value.cells] at m0
 refine sF #[Pt p 0, .slice (At s0 0) 3 3] Try.call26 (Calls.mono (tape_pick W _ _ _ _ _ h0 _ _ [] (RdT.flat (hR.up 3 (by rfl))) om (Sat.flat1 m0) _ _ _ [0, mx, (mx.tdiv 2)] (RdT.flat (RdT.blk (enc := encI) (sz := 1) (xs := [0, mx, (mx.tdiv 2)]) (fun _ => (by rfl)) 3 0 rfl rfl rfl om)) om om) ?_)
 rintro _ _ ⟨b0, rfl, u0, v0, _, n0⟩
 refine ⟨_, rfl, ?_⟩
 have o0 := Sat.unflat1 n0; clear n0
 try dsimp only [List.set, List.eraseIdx, Value.cells] at o0
 have i1 : (b0 : Int) = 0 ∨ (b0 : Int) = mx ∨ (b0 : Int) = (mx.tdiv 2) := by simpa using u0
 refine pu1 ?_
 refine sT1 o0 2 1 (I b0) #[I a0, I b0] Try.sizeOf3 ?_
 intro _ e0
 try dsimp only [List.set, List.eraseIdx, Value.cells] at e0
 refine nT <| sR ?_
 refine sLA e0 2 0 [I a0, I b0] (Try.isAgg57 _) (Try.sizeOf57 _) ?_
 refine sTw e0 3 [I a0, I b0] Try.sizeOf57 ?_
 intro _ f0
 try dsimp only [List.set, List.eraseIdx, Value.cells] at f0
 refine nT <| retE <| retN (vs := [.agg #[I a0, I b0]]) rfl (.cons (.cell _ _ _ _ kr (lvA f0 3 0 [I a0, I b0] (Try.isAgg57 _) (Try.sizeOf57 _) rfl rfl rfl)) .nil) ?_
 have p0 := (((((f0.pick 4 rfl).pick 1 rfl).dropAt 2 rfl).dropAt 2 rfl).dropAt 2 rfl)
 change Sat _ _ ([(p, .cells #[.slice a n k, I v0] 46 (0, 0))] :: H :: F) at p0
 exact ⟨a0, b0, rfl, by unfold numB; omega, _, om, p0⟩
theorem tg_sized (W w : World) (p : Nat) (a : Option Addr) (n k : Nat) (i : Int) (xs : List Int) (H : Chunk) (F : List Chunk) (hR : RdT encI 1 [H] a n k xs) (hi : 0 ≤ i ∧ i ≤ n) (hS : Sat W w ([(p, .cells #[.slice a n k, I i] 46 (0, 0))] :: H :: F)) (w0 : Int) (h0 : Int) (hwh : (1 ≤ w0 ∧ w0 ≤ 8) ∧ 1 ≤ h0 ∧ h0 ≤ 8) :
  Calls Try.prog 21 #[Pt p 0, I w0, I h0] w fun e w' => ∃ (q : Plane) (G : Chunk), e = .returned (.agg (encPlane q).toArray) ∧ (Plane.Ok [G] q) ∧ (q.w = w0 ∧ q.h = h0 ∧ planeOK q.v = true ∧ planeB q) ∧ ∃ i' : Int, (0 ≤ i' ∧ i' ≤ n) ∧ Sat W w' ([(p, .cells #[.slice a n k, I i'] 46 (0, 0))] :: G :: H :: F) := by
 have hle := hR.le
 have hwh2 := mul_bd (a := w0) (b := h0) (A := 8) (B := 8) om om
 refine callsE (n := 46) Try.func21 rfl rfl (Nat.le_of_ble_eq_true rfl) ?_
 refine sR ?_
 refine sAlloc hS Try.zeroValue49 ?_
 intro t0 _ a5
 refine nT ?_
 refine cutE (fun ρ w => ∃ (b7 : Nat) (mx : Int) (a1 : Option Addr) (c1 : Chunk) (itc : Int), AllAt ρ [(0, Pt p 0), (6, Pt t0 0), (7, Pt b7 0)] ∧ Sat W w ([(p, .cells #[.slice a n k, I itc] 46 (0, 0))] :: [(b7, .cells #[I w0, I h0, I mx, .slice a1 (((w0 * h0)).toNat) (((w0 * h0)).toNat)] 49 (0, 0))] :: c1 :: [(t0, .cells #[I 0, I 0, I 0, .slice none 0 0] 49 (0, 0))] :: H :: F) ∧ (0 ≤ itc ∧ itc ≤ n) ∧ (1 ≤ mx ∧ mx ≤ 65535) ∧ OwnT encI 3 1 a1 (((w0 * h0)).toNat) (((w0 * h0)).toNat) (List.replicate (((w0 * h0)).toNat) 0) c1) ?_ ?_
 rotate_left
 ·rintro ρ _ ⟨b7, mx, a1, c1, itc, hA, b5, hitc, hmx, hO1⟩
  refine cAnchor hA (fun ρ => ?_)
  clear hA
  refine seqE <| sR <| pu1 <| nT <| blockE ?_
  have k1 := (b5.pick 2 rfl)
  try dsimp only [List.set, List.eraseIdx, Value.cells] at k1
  refine loopE (γ := Nat × Int × (List Int) × (Option Addr) × Nat × Nat × Chunk) (fun ⟨i, iti, zs, azs, nzs, kzs, czs⟩ ρ w => AllAt ρ [(0, Pt p 0), (6, Pt t0 0), (7, Pt b7 0), (8, I ((i : Nat) : Int))] ∧ Sat W w (czs :: [(p, .cells #[.slice a n k, I iti] 46 (0, 0))] :: [(b7, .cells #[I w0, I h0, I mx, .slice azs nzs kzs] 49 (0, 0))] :: [(t0, .cells #[I 0, I 0, I 0, .slice none 0 0] 49 (0, 0))] :: H :: F) ∧ i ≤ ((w0 * h0)).toNat ∧ (∀ z ∈ zs, 0 ≤ z ∧ z ≤ mx) ∧ (zs.length = ((w0 * h0)).toNat) ∧ (0 ≤ iti ∧ iti ≤ n) ∧ OwnT encI 3 1 azs nzs kzs zs czs) (fun ⟨i, iti, zs, azs, nzs, kzs, czs⟩ => (((w0 * h0)).toNat) - i) (0, itc, (List.replicate (((w0 * h0)).toNat) 0), a1, ((w0 * h0)).toNat, ((w0 * h0)).toNat, c1) ⟨alA, k1, om, (by intro z hz; have := List.eq_of_mem_replicate hz; omega), by simp, om, hO1⟩ ?_
  skip
  rintro ⟨i, iti, zs, azs, nzs, kzs, czs⟩ ρ _ ⟨hA, b0, hi, hB, hzl, hiti, hOzs⟩
  refine cAnchor hA (fun ρ => ?_)
  clear hA
  have hn_zs := hOzs.len; have hl_zs := hOzs.le
  refine seqE <| sR <| pu2 ?_
  refine sL b0 2 3 (.slice azs nzs kzs) (Try.isAgg22 _) ?_
  refine pu2 <| nT ?_
  by_cases l1 : (((i : Nat) : Int) : Int) < ((nzs : Nat) : Int)
  rotate_left
  ·refine cF _ (decide_eq_false l1) ?_
   refine exitE (xB <| ?_)
   refine thenK_n <| sR ?_
   refine sLA b0 2 0 [I w0, I h0, I mx, .slice azs nzs kzs] (Try.isAgg49 _) (Try.sizeOf49 _) ?_
   refine sTw b0 3 [I w0, I h0, I mx, .slice azs nzs kzs] Try.sizeOf49 ?_
   intro _ z0
   try dsimp only [List.set, List.eraseIdx, Value.cells] at z0
   refine nT <| retE <| retN (vs := [.agg #[I w0, I h0, I mx, .slice azs nzs kzs]]) rfl (.cons (.cell _ _ _ _ kr (lvA z0 3 0 [I w0, I h0, I mx, .slice azs nzs kzs] (Try.isAgg49 _) (Try.sizeOf49 _) rfl rfl rfl)) .nil) ?_
   have hpok : planeOK ⟨w0, h0, mx, zs⟩ = true := planeOK_t (p := ⟨w0, h0, mx, zs⟩) ⟨by unfold sizeP; dsimp only; omega, by dsimp only; omega⟩ (List.all_eq_true.2 (fun z hz => decide_eq_true (hB z hz)))
   have m1 := (((((z0.pick 4 rfl).pick 1 rfl).pick 2 rfl).dropAt 3 rfl).dropAt 3 rfl)
   change Sat _ _ ([(p, .cells #[.slice a n k, I iti] 46 (0, 0))] :: czs :: H :: F) at m1
   exact ⟨(⟨w0, h0, mx, ⟨azs, nzs, kzs, zs⟩⟩ : Plane), czs, rfl, ⟨(hOzs.rdAt (cs := [czs]) 0 rfl)⟩, ⟨rfl, rfl, hpok, by dsimp only; omega, fun z hz => by have := hB z hz; unfold numB; omega⟩, _, om, m1⟩
  refine cT _ (decide_eq_true l1) ?_
  refine kT <| seqE <| blockE ?_
  obtain ⟨c5, d5, e5, n1, f5, o1, g5⟩ := OwnT.elem hOzs ((i : Nat) : Int)
  rw [Int.toNat_natCast] at n1 f5 o1
  refine drawE [8, 13, 16, 17, 19] [(1, ⟨b7, 3, none⟩, .slice azs nzs kzs), (6, ⟨b7, 2, none⟩, I mx), (11, ⟨b7, 2, none⟩, I mx), (15, ⟨b7, 2, none⟩, I mx)] [(true, [0, 2, 3, 4, 5, 9, 10, 14]), (true, [1]), (true, [6]), (true, [7]), (true, [11]), (true, [12]), (true, [15]), (false, [8]), (false, [13]), (false, [16]), (false, [17]), (true, [18]), (false, [19])] rfl kr ⟨.inr (b0.cell 2 rfl rfl), .inr (b0.cell 2 rfl rfl), .inr (b0.cell 2 rfl rfl), .inr (b0.cell 2 rfl rfl), trivial⟩ ?_
  have h5 := b0.drew
  refine wU [0, 2, 3, 4, 5, 9, 10, 14] ?_
  refine wS (.slice azs nzs kzs) rfl rfl rfl (fun w hF => Y_load rfl (Try.isAgg22 w) kr (hF 0 _ _ rfl)) ?_
  refine wS (I mx) rfl rfl rfl (fun w hF => Y_load rfl (Try.isAgg3 w) kr (hF 1 _ _ rfl)) ?_
  refine wS (I (mx + 1)) rfl rfl rfl (fun w _ => Y_add (a := mx) (b := 1) rfl kr kr om) ?_
  refine wS (I mx) rfl rfl rfl (fun w hF => Y_load rfl (Try.isAgg3 w) kr (hF 2 _ _ rfl)) ?_
  refine wS (I (mx + 1)) rfl rfl rfl (fun w _ => Y_add (a := mx) (b := 1) rfl kr kr om) ?_
  refine wS (I mx) rfl rfl rfl (fun w hF => Y_load rfl (Try.isAgg3 w) kr (hF 3 _ _ rfl)) ?_
  refine wO rfl ?_
  have p1 := (h5.pick 1 rfl)
  try dsimp only [List.set, List.eraseIdx, Value.cells] at p1
  refine sF #[Pt p 0, I (mx + 1)] Try.call19 (Calls.mono (tape_next W _ _ _ _ _ iti _ _ [] (RdT.flat (hR.up 3 (by rfl))) om (Sat.flat1 p1) (mx + 1) om) ?_)
  rintro _ _ ⟨u0, rfl, _, i5, _, q1⟩
  refine ⟨_, rfl, ?_⟩
  have d0 := Sat.unflat1 q1; clear q1
  try dsimp only [List.set, List.eraseIdx, Value.cells] at d0
  refine nilO ⟨⟨.inr (d0.cell 2 rfl rfl), .inr (d0.cell 2 rfl rfl), .inr (d0.cell 2 rfl rfl), .inr (d0.cell 2 rfl rfl), trivial⟩, ?_⟩
  refine wO rfl ?_
  try dsimp only [List.set, List.eraseIdx, Value.cells] at d0
  refine sF #[Pt p 0, I (mx + 1)] Try.call19 (Calls.mono (tape_next W _ _ _ _ _ i5 _ _ [] (RdT.flat (hR.up 3 (by rfl))) om (Sat.flat1 d0) (mx + 1) om) ?_)
  rintro _ _ ⟨v0, rfl, _, j5, _, r1⟩
  refine ⟨_, rfl, ?_⟩
  have p0 := Sat.unflat1 r1; clear r1
  try dsimp only [List.set, List.eraseIdx, Value.cells] at p0
  refine nilO ⟨⟨.inr (p0.cell 2 rfl rfl), .inr (p0.cell 2 rfl rfl), .inr (p0.cell 2 rfl rfl), .inr (p0.cell 2 rfl rfl), trivial⟩, ?_⟩
  refine wO rfl ?_
  refine sBS p0 #[I u0, I v0, I mx, I 0] Try.runUnderlying22 Try.sizeOf3 Try.zeroValue3 ?_
  intro k5 _ x0
  refine nilO ⟨⟨.inr (x0.cell 3 rfl rfl), .inr (x0.cell 3 rfl rfl), .inr (x0.cell 3 rfl rfl), dI, trivial⟩, ?_⟩
  refine wO rfl ?_
  have s1 := (x0.pick 1 rfl)
  try dsimp only [List.set, List.eraseIdx, Value.cells] at s1
  refine sF #[Pt p 0, .slice (At k5 0) 4 4] Try.call26 (Calls.mono (tape_pick W _ _ _ _ _ j5 _ _ [] (RdT.flat (hR.up 4 (by rfl))) om (Sat.flat1 s1) _ _ _ [u0, v0, mx, 0] (RdT.flat (RdT.blk (enc := encI) (sz := 1) (xs := [u0, v0, mx, 0]) (fun _ => (by rfl)) 4 0 rfl rfl rfl om)) om om) ?_)
  rintro _ _ ⟨c0, rfl, l5, m5, _, t1⟩
  refine ⟨_, rfl, ?_⟩
  have r0 := Sat.unflat1 t1; clear t1
  try dsimp only [List.set, List.eraseIdx, Value.cells] at r0
  have e8 : (c0 : Int) = u0 ∨ (c0 : Int) = v0 ∨ (c0 : Int) = mx ∨ (c0 : Int) = 0 := by simpa using l5
  refine nilO ⟨⟨.inr (r0.cell 3 rfl rfl), .inr (r0.cell 3 rfl rfl), .inr (r0.cell 3 rfl rfl), dI, trivial⟩, ?_⟩
  refine wS (.pointer (some ⟨d5, e5 + i * 1, none⟩)) rfl rfl rfl (fun w _ => Y_idx (a := azs) (i := ((i : Nat) : Int)) (len := nzs) (cap := kzs) rfl Try.runUnderlying22 Try.sizeOf3 kr kr o1) ?_
  refine wO rfl ?_
  refine sStF r0 hOzs g5 2 i 0 c5 c0 n1 (I c0) [I c0] Try.sizeOf3 ?_
  intro _ n5 o5 u1
  try dsimp only [List.set, List.eraseIdx, Value.cells] at u1
  refine nilO ⟨dA, ?_⟩
  refine wN ?_
  refine blockK_n <| thenK_n <| regionE <| pu1 ?_
  refine sAdd ((i : Nat) : Int) 1 ?_
  refine pu1 <| nT ?_
  have v1 := ((((((u1.pick 5 rfl).pick 5 rfl).pick 5 rfl).pick 3 rfl).pick 5 rfl).dropAt 5 rfl)
  try dsimp only [List.set, List.eraseIdx, Value.cells] at v1
  exact ⟨(i + 1, m5, (zs.set i c0), azs, nzs, kzs, n5), od, alA, v1, om, mem_set hB om, by simp; omega, om, o5⟩
 refine drawP [3, 4, 8, 10, 11] [] (Plan.sts [0, 1, 2, 5, 6] <| Plan.sts [7] <| .f3 3 8 10 (.f3 4 8 10 (.fk 8 10 (Plan.sts [9] <| .ef 10 <| .ef 11 <| .fin) (.ef 8 <| Plan.sts [9] <| .ef 11 <| .fin)) (.fk 4 10 (Plan.sts [9] <| .ef 10 <| .ef 11 <| .fin) (.ef 4 <| Plan.sts [9] <| .ef 11 <| .fin)) (.fk 4 8 (.ef 8 <| Plan.sts [9] <| .ef 11 <| .fin) (.ef 4 <| Plan.sts [9] <| .ef 11 <| .fin))) (.fk 3 10 (.fk 4 10 (Plan.sts [9] <| .ef 10 <| .ef 11 <| .fin) (.ef 4 <| Plan.sts [9] <| .ef 11 <| .fin)) (.ef 3 <| .ef 4 <| Plan.sts [9] <| .ef 11 <| .fin)) (.fk 3 8 (.fk 4 8 (.ef 8 <| Plan.sts [9] <| .ef 11 <| .fin) (.ef 4 <| Plan.sts [9] <| .ef 11 <| .fin)) (.ef 3 <| .ef 4 <| Plan.sts [9] <| .ef 11 <| .fin))) rfl kr trivial ?_
 have b1 := a5.drew
 refine qU [0, 1, 2, 5, 6] ?_
 refine qS (I (w0 * h0)) rfl rfl rfl (fun w _ => Y_mul (a := w0) (b := h0) rfl kr kr om) ?_
 refine qF3 ?_ ?_ ?_
 ·refine qO rfl ?_
  refine sBS b1 #[I 255, I 255, I 65535, I 1, I 7] Try.runUnderlying22 Try.sizeOf3 Try.zeroValue3 ?_
  intro s0 _ d1
  refine nilO ⟨trivial, ?_⟩
  refine qF3 ?_ ?_ ?_
  ·refine qO rfl ?_
   have w1 := (d1.pick 2 rfl)
   try dsimp only [List.set, List.eraseIdx, Value.cells] at w1
   refine sF #[Pt p 0, .slice (At s0 0) 5 5] Try.call26 (Calls.mono (tape_pick W _ _ _ _ _ i _ _ [] (RdT.flat (hR.up 2 (by rfl))) om (Sat.flat1 w1) _ _ _ [255, 255, 65535, 1, 7] (RdT.flat (RdT.blk (enc := encI) (sz := 1) (xs := [255, 255, 65535, 1, 7]) (fun _ => (by rfl)) 5 0 rfl rfl rfl om)) om om) ?_)
   rintro _ _ ⟨a0, rfl, p5, x1, _, y1⟩
   refine ⟨_, rfl, ?_⟩
   have e1 := Sat.unflat1 y1; clear y1
   try dsimp only [List.set, List.eraseIdx, Value.cells] at e1
   have j8 : (a0 : Int) = 255 ∨ (a0 : Int) = 255 ∨ (a0 : Int) = 65535 ∨ (a0 : Int) = 1 ∨ (a0 : Int) = 7 := by simpa using p5
   refine nilO ⟨trivial, ?_⟩
   refine qF ?_ ?_
   rotate_left
   ·refine qO rfl ?_
    refine sAlloc e1 Try.zeroValue49 ?_
    intro q5 _ r5
    refine nilO ⟨trivial, ?_⟩
    refine qO rfl ?_
    refine sMake (kl := .i64) (kc := .i64) (enc := encI) (sz := 1) (nb := 8) r5 0 ((w0 * h0)).toNat (w0 * h0) (om : (w0 * h0) = ((((w0 * h0)).toNat : Nat) : Int)) Try.underlying22 (i := Try.t3) kr fR ?_
    intro z1 s5 _ t5 a2
    try dsimp only [List.set, List.eraseIdx, Value.cells] at a2
    refine nilO ⟨trivial, ?_⟩
    refine qU [9] ?_
    refine qO rfl ?_
    refine sTw a2 1 [I w0, I h0, I a0, .slice (At z1 0) (((w0 * h0)).toNat) (((w0 * h0)).toNat)] Try.sizeOf49 ?_
    intro _ b2
    try dsimp only [List.set, List.eraseIdx, Value.cells] at b2
    refine nilO ⟨trivial, ?_⟩
    refine qN ?_
    refine thenK_n ?_
    have c2 := ((((((b2.pick 5 rfl).pick 5 rfl).pick 2 rfl).pick 3 rfl).pick 4 rfl).dropAt 5 rfl)
    try dsimp only [List.set, List.eraseIdx, Value.cells] at c2
    exact ⟨q5, a0, (At z1 0), s5, x1, alA, c2, om, om, t5⟩
   refine qO rfl ?_
   refine sMake (kl := .i64) (kc := .i64) (enc := encI) (sz := 1) (nb := 8) e1 0 ((w0 * h0)).toNat (w0 * h0) (om : (w0 * h0) = ((((w0 * h0)).toNat : Nat) : Int)) Try.underlying22 (i := Try.t3) kr fR ?_
   intro d2 u5 _ v5 e2
   try dsimp only [List.set, List.eraseIdx, Value.cells] at e2
   refine nilO ⟨trivial, ?_⟩
   refine qU [9] ?_
   refine qO rfl ?_
   refine sAlloc e2 Try.zeroValue49 ?_
   intro w5 _ x5
   refine nilO ⟨trivial, ?_⟩
   refine qO rfl ?_
   refine sTw x5 0 [I w0, I h0, I a0, .slice (At d2 0) (((w0 * h0)).toNat) (((w0 * h0)).toNat)] Try.sizeOf49 ?_
   intro _ f2
   try dsimp only [List.set, List.eraseIdx, Value.cells] at f2
   refine nilO ⟨trivial, ?_⟩
   refine qN ?_
   refine thenK_n ?_
   have g2 := ((((((f2.pick 5 rfl).pick 5 rfl).pick 3 rfl).pick 3 rfl).pick 4 rfl).dropAt 5 rfl)
   try dsimp only [List.set, List.eraseIdx, Value.cells] at g2
   exact ⟨w5, a0, (At d2 0), u5, x1, alA, g2, om, om, v5⟩
  ·refine qO rfl ?_
   refine sMake (kl := .i64) (kc := .i64) (enc := encI) (sz := 1) (nb := 8) d1 0 ((w0 * h0)).toNat (w0 * h0) (om : (w0 * h0) = ((((w0 * h0)).toNat : Nat) : Int)) Try.underlying22 (i := Try.t3) kr fR ?_
   intro y0 h2 _ i2 f1
   try dsimp only [List.set, List.eraseIdx, Value.cells] at f1
   refine nilO ⟨trivial, ?_⟩
   refine qF ?_ ?_
   rotate_left
   ·refine qO rfl ?_
    refine sAlloc f1 Try.zeroValue49 ?_
    intro y5 _ z5
    refine nilO ⟨trivial, ?_⟩
    refine qO rfl ?_
    have j2 := (z5.pick 4 rfl)
    try dsimp only [List.set, List.eraseIdx, Value.cells] at j2
    refine sF #[Pt p 0, .slice (At s0 0) 5 5] Try.call26 (Calls.mono (tape_pick W _ _ _ _ _ i _ _ [] (RdT.flat (hR.up 4 (by rfl))) om (Sat.flat1 j2) _ _ _ [255, 255, 65535, 1, 7] (RdT.flat (RdT.blk (enc := encI) (sz := 1) (xs := [255, 255, 65535, 1, 7]) (fun _ => (by rfl)) 5 2 rfl rfl rfl om)) om om) ?_)
    rintro _ _ ⟨e0, rfl, a6, b6, _, k2⟩
    refine ⟨_, rfl, ?_⟩
    have l2 := Sat.unflat1 k2; clear k2
    try dsimp only [List.set, List.eraseIdx, Value.cells] at l2
    have u8 : (e0 : Int) = 255 ∨ (e0 : Int) = 255 ∨ (e0 : Int) = 65535 ∨ (e0 : Int) = 1 ∨ (e0 : Int) = 7 := by simpa using a6
    refine nilO ⟨trivial, ?_⟩
    refine qU [9] ?_
    refine qO rfl ?_
    refine sTw l2 1 [I w0, I h0, I e0, .slice (At y0 0) (((w0 * h0)).toNat) (((w0 * h0)).toNat)] Try.sizeOf49 ?_
    intro _ m2
    try dsimp only [List.set, List.eraseIdx, Value.cells] at m2
    refine nilO ⟨trivial, ?_⟩
    refine qN ?_
    refine thenK_n ?_
    have n2 := ((((((m2.pick 5 rfl).pick 5 rfl).pick 4 rfl).pick 4 rfl).pick 4 rfl).dropAt 5 rfl)
    try dsimp only [List.set, List.eraseIdx, Value.cells] at n2
    exact ⟨y5, e0, (At y0 0), h2, b6, alA, n2, om, om, i2⟩
   refine qO rfl ?_
   have o2 := (f1.pick 3 rfl)
   try dsimp only [List.set, List.eraseIdx, Value.cells] at o2
   refine sF #[Pt p 0, .slice (At s0 0) 5 5] Try.call26 (Calls.mono (tape_pick W _ _ _ _ _ i _ _ [] (RdT.flat (hR.up 3 (by rfl))) om (Sat.flat1 o2) _ _ _ [255, 255, 65535, 1, 7] (RdT.flat (RdT.blk (enc := encI) (sz := 1) (xs := [255, 255, 65535, 1, 7]) (fun _ => (by rfl)) 5 1 rfl rfl rfl om)) om om) ?_)
   rintro _ _ ⟨f0, rfl, c6, d6, _, p2⟩
   refine ⟨_, rfl, ?_⟩
   have q2 := Sat.unflat1 p2; clear p2
   try dsimp only [List.set, List.eraseIdx, Value.cells] at q2
   have y8 : (f0 : Int) = 255 ∨ (f0 : Int) = 255 ∨ (f0 : Int) = 65535 ∨ (f0 : Int) = 1 ∨ (f0 : Int) = 7 := by simpa using c6
   refine nilO ⟨trivial, ?_⟩
   refine qU [9] ?_
   refine qO rfl ?_
   refine sAlloc q2 Try.zeroValue49 ?_
   intro e6 _ f6
   refine nilO ⟨trivial, ?_⟩
   refine qO rfl ?_
   refine sTw f6 0 [I w0, I h0, I f0, .slice (At y0 0) (((w0 * h0)).toNat) (((w0 * h0)).toNat)] Try.sizeOf49 ?_
   intro _ r2
   try dsimp only [List.set, List.eraseIdx, Value.cells] at r2
   refine nilO ⟨trivial, ?_⟩
   refine qN ?_
   refine thenK_n ?_
   have s2 := ((((((r2.pick 5 rfl).pick 5 rfl).pick 4 rfl).pick 3 rfl).pick 4 rfl).dropAt 5 rfl)
   try dsimp only [List.set, List.eraseIdx, Value.cells] at s2
   exact ⟨e6, f0, (At y0 0), h2, d6, alA, s2, om, om, i2⟩
  refine qO rfl ?_
  refine sAlloc d1 Try.zeroValue49 ?_
  intro t2 _ u2
  refine nilO ⟨trivial, ?_⟩
  refine qF ?_ ?_
  ·refine qO rfl ?_
   have v2 := (u2.pick 3 rfl)
   try dsimp only [List.set, List.eraseIdx, Value.cells] at v2
   refine sF #[Pt p 0, .slice (At s0 0) 5 5] Try.call26 (Calls.mono (tape_pick W _ _ _ _ _ i _ _ [] (RdT.flat (hR.up 3 (by rfl))) om (Sat.flat1 v2) _ _ _ [255, 255, 65535, 1, 7] (RdT.flat (RdT.blk (enc := encI) (sz := 1) (xs := [255, 255, 65535, 1, 7]) (fun _ => (by rfl)) 5 1 rfl rfl rfl om)) om om) ?_)
   rintro _ _ ⟨g0, rfl, g6, h6, _, w2⟩
   refine ⟨_, rfl, ?_⟩
   have x2 := Sat.unflat1 w2; clear w2
   try dsimp only [List.set, List.eraseIdx, Value.cells] at x2
   have e9 : (g0 : Int) = 255 ∨ (g0 : Int) = 255 ∨ (g0 : Int) = 65535 ∨ (g0 : Int) = 1 ∨ (g0 : Int) = 7 := by simpa using g6
   refine nilO ⟨trivial, ?_⟩
   refine qO rfl ?_
   refine sMake (kl := .i64) (kc := .i64) (enc := encI) (sz := 1) (nb := 8) x2 0 ((w0 * h0)).toNat (w0 * h0) (om : (w0 * h0) = ((((w0 * h0)).toNat : Nat) : Int)) Try.underlying22 (i := Try.t3) kr fR ?_
   intro y2 i6 _ j6 z2
   try dsimp only [List.set, List.eraseIdx, Value.cells] at z2
   refine nilO ⟨trivial, ?_⟩
   refine qU [9] ?_
   refine qO rfl ?_
   refine sTw z2 2 [I w0, I h0, I g0, .slice (At y2 0) (((w0 * h0)).toNat) (((w0 * h0)).toNat)] Try.sizeOf49 ?_
   intro _ a3
   try dsimp only [List.set, List.eraseIdx, Value.cells] at a3
   refine nilO ⟨trivial, ?_⟩
   refine qN ?_
   refine thenK_n ?_
   have b3 := ((((((a3.pick 5 rfl).pick 5 rfl).pick 2 rfl).pick 4 rfl).pick 4 rfl).dropAt 5 rfl)
   try dsimp only [List.set, List.eraseIdx, Value.cells] at b3
   exact ⟨t2, g0, (At y2 0), i6, h6, alA, b3, om, om, j6⟩
  refine qO rfl ?_
  refine sMake (kl := .i64) (kc := .i64) (enc := encI) (sz := 1) (nb := 8) u2 0 ((w0 * h0)).toNat (w0 * h0) (om : (w0 * h0) = ((((w0 * h0)).toNat : Nat) : Int)) Try.underlying22 (i := Try.t3) kr fR ?_
  intro c3 k6 _ l6 d3
  try dsimp only [List.set, List.eraseIdx, Value.cells] at d3
  refine nilO ⟨trivial, ?_⟩
  refine qO rfl ?_
  have e3 := (d3.pick 4 rfl)
  try dsimp only [List.set, List.eraseIdx, Value.cells] at e3
  refine sF #[Pt p 0, .slice (At s0 0) 5 5] Try.call26 (Calls.mono (tape_pick W _ _ _ _ _ i _ _ [] (RdT.flat (hR.up 4 (by rfl))) om (Sat.flat1 e3) _ _ _ [255, 255, 65535, 1, 7] (RdT.flat (RdT.blk (enc := encI) (sz := 1) (xs := [255, 255, 65535, 1, 7]) (fun _ => (by rfl)) 5 2 rfl rfl rfl om)) om om) ?_)
  rintro _ _ ⟨i0, rfl, m6, n6, _, g3⟩
  refine ⟨_, rfl, ?_⟩
  have h3 := Sat.unflat1 g3; clear g3
  try dsimp only [List.set, List.eraseIdx, Value.cells] at h3
  have k9 : (i0 : Int) = 255 ∨ (i0 : Int) = 255 ∨ (i0 : Int) = 65535 ∨ (i0 : Int) = 1 ∨ (i0 : Int) = 7 := by simpa using m6
  refine nilO ⟨trivial, ?_⟩
  refine qU [9] ?_
  refine qO rfl ?_
  refine sTw h3 2 [I w0, I h0, I i0, .slice (At c3 0) (((w0 * h0)).toNat) (((w0 * h0)).toNat)] Try.sizeOf49 ?_
  intro _ i3
  try dsimp only [List.set, List.eraseIdx, Value.cells] at i3
  refine nilO ⟨trivial, ?_⟩
  refine qN ?_
  refine thenK_n ?_
  have j3 := ((((((i3.pick 5 rfl).pick 5 rfl).pick 3 rfl).pick 4 rfl).pick 4 rfl).dropAt 5 rfl)
  try dsimp only [List.set, List.eraseIdx, Value.cells] at j3
  exact ⟨t2, i0, (At c3 0), k6, n6, alA, j3, om, om, l6⟩
 ·refine qO rfl ?_
  refine sMake (kl := .i64) (kc := .i64) (enc := encI) (sz := 1) (nb := 8) b1 0 ((w0 * h0)).toNat (w0 * h0) (om : (w0 * h0) = ((((w0 * h0)).toNat : Nat) : Int)) Try.underlying22 (i := Try.t3) kr fR ?_
  intro q0 g1 _ h1 i1
  try dsimp only [List.set, List.eraseIdx, Value.cells] at i1
  refine nilO ⟨trivial, ?_⟩
  refine qF ?_ ?_
  rotate_left
  ·refine qO rfl ?_
   refine sAlloc i1 Try.zeroValue49 ?_
   intro o6 _ p6
   refine nilO ⟨trivial, ?_⟩
   refine qO rfl ?_
   refine sBS p6 #[I 255, I 255, I 65535, I 1, I 7] Try.runUnderlying22 Try.sizeOf3 Try.zeroValue3 ?_
   intro q6 _ r6
   refine nilO ⟨trivial, ?_⟩
   refine qO rfl ?_
   have k3 := (r6.pick 4 rfl)
   try dsimp only [List.set, List.eraseIdx, Value.cells] at k3
   refine sF #[Pt p 0, .slice (At q6 0) 5 5] Try.call26 (Calls.mono (tape_pick W _ _ _ _ _ i _ _ [] (RdT.flat (hR.up 4 (by rfl))) om (Sat.flat1 k3) _ _ _ [255, 255, 65535, 1, 7] (RdT.flat (RdT.blk (enc := encI) (sz := 1) (xs := [255, 255, 65535, 1, 7]) (fun _ => (by rfl)) 5 0 rfl rfl rfl om)) om om) ?_)
   rintro _ _ ⟨j0, rfl, s6, t6, _, l3⟩
   refine ⟨_, rfl, ?_⟩
   have m3 := Sat.unflat1 l3; clear l3
   try dsimp only [List.set, List.eraseIdx, Value.cells] at m3
   have r9 : (j0 : Int) = 255 ∨ (j0 : Int) = 255 ∨ (j0 : Int) = 65535 ∨ (j0 : Int) = 1 ∨ (j0 : Int) = 7 := by simpa using s6
   refine nilO ⟨trivial, ?_⟩
   refine qU [9] ?_
   refine qO rfl ?_
   refine sTw m3 2 [I w0, I h0, I j0, .slice (At q0 0) (((w0 * h0)).toNat) (((w0 * h0)).toNat)] Try.sizeOf49 ?_
   intro _ n3
   try dsimp only [List.set, List.eraseIdx, Value.cells] at n3
   refine nilO ⟨trivial, ?_⟩
   refine qN ?_
   refine thenK_n ?_
   have o3 := ((((((n3.pick 5 rfl).pick 5 rfl).pick 5 rfl).pick 5 rfl).pick 4 rfl).dropAt 5 rfl)
   try dsimp only [List.set, List.eraseIdx, Value.cells] at o3
   exact ⟨o6, j0, (At q0 0), g1, t6, alA, o3, om, om, h1⟩
  refine qO rfl ?_
  refine sBS i1 #[I 255, I 255, I 65535, I 1, I 7] Try.runUnderlying22 Try.sizeOf3 Try.zeroValue3 ?_
  intro p3 _ q3
  refine nilO ⟨trivial, ?_⟩
  refine qF ?_ ?_
  rotate_left
  ·refine qO rfl ?_
   refine sAlloc q3 Try.zeroValue49 ?_
   intro u6 _ v6
   refine nilO ⟨trivial, ?_⟩
   refine qO rfl ?_
   have r3 := (v6.pick 4 rfl)
   try dsimp only [List.set, List.eraseIdx, Value.cells] at r3
   refine sF #[Pt p 0, .slice (At p3 0) 5 5] Try.call26 (Calls.mono (tape_pick W _ _ _ _ _ i _ _ [] (RdT.flat (hR.up 4 (by rfl))) om (Sat.flat1 r3) _ _ _ [255, 255, 65535, 1, 7] (RdT.flat (RdT.blk (enc := encI) (sz := 1) (xs := [255, 255, 65535, 1, 7]) (fun _ => (by rfl)) 5 1 rfl rfl rfl om)) om om) ?_)
   rintro _ _ ⟨k0, rfl, w6, x6, _, s3⟩
   refine ⟨_, rfl, ?_⟩
   have u3 := Sat.unflat1 s3; clear s3
   try dsimp only [List.set, List.eraseIdx, Value.cells] at u3
   have x9 : (k0 : Int) = 255 ∨ (k0 : Int) = 255 ∨ (k0 : Int) = 65535 ∨ (k0 : Int) = 1 ∨ (k0 : Int) = 7 := by simpa using w6
   refine nilO ⟨trivial, ?_⟩
   refine qU [9] ?_
   refine qO rfl ?_
   refine sTw u3 1 [I w0, I h0, I k0, .slice (At q0 0) (((w0 * h0)).toNat) (((w0 * h0)).toNat)] Try.sizeOf49 ?_
   intro _ v3
   try dsimp only [List.set, List.eraseIdx, Value.cells] at v3
   refine nilO ⟨trivial, ?_⟩
   refine qN ?_
   refine thenK_n ?_
   have w3 := ((((((v3.pick 5 rfl).pick 5 rfl).pick 5 rfl).pick 4 rfl).pick 4 rfl).dropAt 5 rfl)
   try dsimp only [List.set, List.eraseIdx, Value.cells] at w3
   exact ⟨u6, k0, (At q0 0), g1, x6, alA, w3, om, om, h1⟩
  refine qO rfl ?_
  have x3 := (q3.pick 3 rfl)
  try dsimp only [List.set, List.eraseIdx, Value.cells] at x3
  refine sF #[Pt p 0, .slice (At p3 0) 5 5] Try.call26 (Calls.mono (tape_pick W _ _ _ _ _ i _ _ [] (RdT.flat (hR.up 3 (by rfl))) om (Sat.flat1 x3) _ _ _ [255, 255, 65535, 1, 7] (RdT.flat (RdT.blk (enc := encI) (sz := 1) (xs := [255, 255, 65535, 1, 7]) (fun _ => (by rfl)) 5 0 rfl rfl rfl om)) om om) ?_)
  rintro _ _ ⟨l0, rfl, y6, z6, _, y3⟩
  refine ⟨_, rfl, ?_⟩
  have z3 := Sat.unflat1 y3; clear y3
  try dsimp only [List.set, List.eraseIdx, Value.cells] at z3
  have ba : (l0 : Int) = 255 ∨ (l0 : Int) = 255 ∨ (l0 : Int) = 65535 ∨ (l0 : Int) = 1 ∨ (l0 : Int) = 7 := by simpa using y6
  refine nilO ⟨trivial, ?_⟩
  refine qU [9] ?_
  refine qO rfl ?_
  refine sAlloc z3 Try.zeroValue49 ?_
  intro a7 _ c7
  refine nilO ⟨trivial, ?_⟩
  refine qO rfl ?_
  refine sTw c7 0 [I w0, I h0, I l0, .slice (At q0 0) (((w0 * h0)).toNat) (((w0 * h0)).toNat)] Try.sizeOf49 ?_
  intro _ a4
  try dsimp only [List.set, List.eraseIdx, Value.cells] at a4
  refine nilO ⟨trivial, ?_⟩
  refine qN ?_
  refine thenK_n ?_
  have b4 := ((((((a4.pick 5 rfl).pick 5 rfl).pick 5 rfl).pick 3 rfl).pick 4 rfl).dropAt 5 rfl)
  try dsimp only [List.set, List.eraseIdx, Value.cells] at b4
  exact ⟨a7, l0, (At q0 0), g1, z6, alA, b4, om, om, h1⟩
 refine qO rfl ?_
 refine sAlloc b1 Try.zeroValue49 ?_
 intro j1 _ c4
 refine nilO ⟨trivial, ?_⟩
 refine qF ?_ ?_
 rotate_left
 ·refine qO rfl ?_
  refine sMake (kl := .i64) (kc := .i64) (enc := encI) (sz := 1) (nb := 8) c4 0 ((w0 * h0)).toNat (w0 * h0) (om : (w0 * h0) = ((((w0 * h0)).toNat : Nat) : Int)) Try.underlying22 (i := Try.t3) kr fR ?_
  intro d4 d7 _ e7 e4
  try dsimp only [List.set, List.eraseIdx, Value.cells] at e4
  refine nilO ⟨trivial, ?_⟩
  refine qO rfl ?_
  refine sBS e4 #[I 255, I 255, I 65535, I 1, I 7] Try.runUnderlying22 Try.sizeOf3 Try.zeroValue3 ?_
  intro f7 _ g7
  refine nilO ⟨trivial, ?_⟩
  refine qO rfl ?_
  have f4 := (g7.pick 4 rfl)
  try dsimp only [List.set, List.eraseIdx, Value.cells] at f4
  refine sF #[Pt p 0, .slice (At f7 0) 5 5] Try.call26 (Calls.mono (tape_pick W _ _ _ _ _ i _ _ [] (RdT.flat (hR.up 4 (by rfl))) om (Sat.flat1 f4) _ _ _ [255, 255, 65535, 1, 7] (RdT.flat (RdT.blk (enc := encI) (sz := 1) (xs := [255, 255, 65535, 1, 7]) (fun _ => (by rfl)) 5 0 rfl rfl rfl om)) om om) ?_)
  rintro _ _ ⟨m0, rfl, h7, i7, _, g4⟩
  refine ⟨_, rfl, ?_⟩
  have h4 := Sat.unflat1 g4; clear g4
  try dsimp only [List.set, List.eraseIdx, Value.cells] at h4
  have ja : (m0 : Int) = 255 ∨ (m0 : Int) = 255 ∨ (m0 : Int) = 65535 ∨ (m0 : Int) = 1 ∨ (m0 : Int) = 7 := by simpa using h7
  refine nilO ⟨trivial, ?_⟩
  refine qU [9] ?_
  refine qO rfl ?_
  refine sTw h4 3 [I w0, I h0, I m0, .slice (At d4 0) (((w0 * h0)).toNat) (((w0 * h0)).toNat)] Try.sizeOf49 ?_
  intro _ i4
  try dsimp only [List.set, List.eraseIdx, Value.cells] at i4
  refine nilO ⟨trivial, ?_⟩
  refine qN ?_
  refine thenK_n ?_
  have j4 := ((((((i4.pick 5 rfl).pick 5 rfl).pick 4 rfl).pick 5 rfl).pick 4 rfl).dropAt 5 rfl)
  try dsimp only [List.set, List.eraseIdx, Value.cells] at j4
  exact ⟨j1, m0, (At d4 0), d7, i7, alA, j4, om, om, e7⟩
 refine qO rfl ?_
 refine sBS c4 #[I 255, I 255, I 65535, I 1, I 7] Try.runUnderlying22 Try.sizeOf3 Try.zeroValue3 ?_
 intro k4 _ l4
 refine nilO ⟨trivial, ?_⟩
 refine qF ?_ ?_
 rotate_left
 ·refine qO rfl ?_
  refine sMake (kl := .i64) (kc := .i64) (enc := encI) (sz := 1) (nb := 8) l4 0 ((w0 * h0)).toNat (w0 * h0) (om : (w0 * h0) = ((((w0 * h0)).toNat : Nat) : Int)) Try.underlying22 (i := Try.t3) kr fR ?_
  intro m4 j7 _ k7 n4
  try dsimp only [List.set, List.eraseIdx, Value.cells] at n4
  refine nilO ⟨trivial, ?_⟩
  refine qO rfl ?_
  have o4 := (n4.pick 4 rfl)
  try dsimp only [List.set, List.eraseIdx, Value.cells] at o4
  refine sF #[Pt p 0, .slice (At k4 0) 5 5] Try.call26 (Calls.mono (tape_pick W _ _ _ _ _ i _ _ [] (RdT.flat (hR.up 4 (by rfl))) om (Sat.flat1 o4) _ _ _ [255, 255, 65535, 1, 7] (RdT.flat (RdT.blk (enc := encI) (sz := 1) (xs := [255, 255, 65535, 1, 7]) (fun _ => (by rfl)) 5 1 rfl rfl rfl om)) om om) ?_)
  rintro _ _ ⟨n0, rfl, l7, m7, _, p4⟩
  refine ⟨_, rfl, ?_⟩
  have q4 := Sat.unflat1 p4; clear p4
  try dsimp only [List.set, List.eraseIdx, Value.cells] at q4
  have pa : (n0 : Int) = 255 ∨ (n0 : Int) = 255 ∨ (n0 : Int) = 65535 ∨ (n0 : Int) = 1 ∨ (n0 : Int) = 7 := by simpa using l7
  refine nilO ⟨trivial, ?_⟩
  refine qU [9] ?_
  refine qO rfl ?_
  refine sTw q4 3 [I w0, I h0, I n0, .slice (At m4 0) (((w0 * h0)).toNat) (((w0 * h0)).toNat)] Try.sizeOf49 ?_
  intro _ r4
  try dsimp only [List.set, List.eraseIdx, Value.cells] at r4
  refine nilO ⟨trivial, ?_⟩
  refine qN ?_
  refine thenK_n ?_
  have s4 := ((((((r4.pick 5 rfl).pick 5 rfl).pick 3 rfl).pick 5 rfl).pick 4 rfl).dropAt 5 rfl)
  try dsimp only [List.set, List.eraseIdx, Value.cells] at s4
  exact ⟨j1, n0, (At m4 0), j7, m7, alA, s4, om, om, k7⟩
 refine qO rfl ?_
 have t4 := (l4.pick 3 rfl)
 try dsimp only [List.set, List.eraseIdx, Value.cells] at t4
 refine sF #[Pt p 0, .slice (At k4 0) 5 5] Try.call26 (Calls.mono (tape_pick W _ _ _ _ _ i _ _ [] (RdT.flat (hR.up 3 (by rfl))) om (Sat.flat1 t4) _ _ _ [255, 255, 65535, 1, 7] (RdT.flat (RdT.blk (enc := encI) (sz := 1) (xs := [255, 255, 65535, 1, 7]) (fun _ => (by rfl)) 5 0 rfl rfl rfl om)) om om) ?_)
 rintro _ _ ⟨o0, rfl, n7, o7, _, u4⟩
 refine ⟨_, rfl, ?_⟩
 have v4 := Sat.unflat1 u4; clear u4
 try dsimp only [List.set, List.eraseIdx, Value.cells] at v4
 have ta : (o0 : Int) = 255 ∨ (o0 : Int) = 255 ∨ (o0 : Int) = 65535 ∨ (o0 : Int) = 1 ∨ (o0 : Int) = 7 := by simpa using n7
 refine nilO ⟨trivial, ?_⟩
 refine qO rfl ?_
 refine sMake (kl := .i64) (kc := .i64) (enc := encI) (sz := 1) (nb := 8) v4 0 ((w0 * h0)).toNat (w0 * h0) (om : (w0 * h0) = ((((w0 * h0)).toNat : Nat) : Int)) Try.underlying22 (i := Try.t3) kr fR ?_
 intro w4 p7 _ q7 x4
 try dsimp only [List.set, List.eraseIdx, Value.cells] at x4
 refine nilO ⟨trivial, ?_⟩
 refine qU [9] ?_
 refine qO rfl ?_
 refine sTw x4 3 [I w0, I h0, I o0, .slice (At w4 0) (((w0 * h0)).toNat) (((w0 * h0)).toNat)] Try.sizeOf49 ?_
 intro _ y4
 try dsimp only [List.set, List.eraseIdx, Value.cells] at y4
 refine nilO ⟨trivial, ?_⟩
 refine qN ?_
 refine thenK_n ?_
 have z4 := ((((((y4.pick 5 rfl).pick 5 rfl).pick 2 rfl).pick 5 rfl).pick 4 rfl).dropAt 5 rfl)
 try dsimp only [List.set, List.eraseIdx, Value.cells] at z4
 exact ⟨j1, o0, (At w4 0), p7, o7, alA, z4, om, om, q7⟩
theorem tg_plane (W w : World) (p : Nat) (a : Option Addr) (n k : Nat) (i : Int) (xs : List Int) (H : Chunk) (F : List Chunk) (hR : RdT encI 1 [H] a n k xs) (hi : 0 ≤ i ∧ i ≤ n) (hS : Sat W w ([(p, .cells #[.slice a n k, I i] 46 (0, 0))] :: H :: F))  :
  Calls Try.prog 20 #[Pt p 0] w fun e w' => ∃ (q : Plane) (G : Chunk), e = .returned (.agg (encPlane q).toArray) ∧ (Plane.Ok [G] q) ∧ ((1 ≤ q.w ∧ q.w ≤ 6) ∧ (1 ≤ q.h ∧ q.h ≤ 5) ∧ planeOK q.v = true ∧ planeB q) ∧ ∃ i' : Int, (0 ≤ i' ∧ i' ≤ n) ∧ Sat W w' ([(p, .cells #[.slice a n k, I i'] 46 (0, 0))] :: G :: H :: F) := by
 have hle := hR.le
 refine callsE (n := 11) Try.func20 rfl rfl (Nat.le_of_ble_eq_true rfl) ?_
 refine sR ?_
 refine sAlloc hS Try.zeroValue49 ?_
 intro _ _ o0
 refine nT <| sR <| pu2 ?_
 have g0 := (o0.pick 1 rfl)
 try dsimp only [List.set, List.eraseIdx, Value.cells] at g0
 refine sF #[Pt p 0, I 6] Try.call19 (Calls.mono (tape_next W _ _ _ _ _ i _ _ [] (RdT.flat (hR.up 1 (by rfl))) om (Sat.flat1 g0) 6 om) ?_)
 rintro _ _ ⟨b0, rfl, _, p0, _, h0⟩
 refine ⟨_, rfl, ?_⟩
 have c0 := Sat.unflat1 h0; clear h0
 try dsimp only [List.set, List.eraseIdx, Value.cells] at c0
 refine sAdd 1 b0 ?_
 refine pu1 ?_
 try dsimp only [List.set, List.eraseIdx, Value.cells] at c0
 refine sF #[Pt p 0, I 5] Try.call19 (Calls.mono (tape_next W _ _ _ _ _ p0 _ _ [] (RdT.flat (hR.up 1 (by rfl))) om (Sat.flat1 c0) 5 om) ?_)
 rintro _ _ ⟨d0, rfl, _, q0, _, i0⟩
 refine ⟨_, rfl, ?_⟩
 have e0 := Sat.unflat1 i0; clear i0
 try dsimp only [List.set, List.eraseIdx, Value.cells] at e0
 refine sAdd 1 d0 ?_
 try dsimp only [List.set, List.eraseIdx, Value.cells] at e0
 refine sF #[Pt p 0, I (1 + b0), I (1 + d0)] Try.call21 (Calls.mono (tg_sized W _ _ _ _ _ q0 _ _ [] (RdT.flat (hR.up 1 (by rfl))) om (Sat.flat1 e0) (1 + b0) (1 + d0) om) ?_)
 rintro _ _ ⟨a0, j0, rfl, r0, f0, s0, _, k0⟩
 refine ⟨_, rfl, ?_⟩
 have l0 := Sat.unflat2 k0; clear k0
 try dsimp only [List.set, List.eraseIdx, Value.cells] at l0
 refine sT l0 2 0 (.agg (encPlane a0).toArray) (encPlane a0) (encPlane a0).toArray Try.sizeOf49 ?_
 intro _ m0
 refine nT <| retE <| retN (vs := [.agg (encPlane a0).toArray]) rfl (.cons (.cell _ _ _ _ kr (lvA m0 2 0 (encPlane a0) (Try.isAgg49 _) (Try.sizeOf49 _) rfl rfl rfl)) .nil) ?_
 have n0 := ((((m0.pick 3 rfl).pick 2 rfl).pick 2 rfl).dropAt 3 rfl)
 change Sat _ _ ([(p, .cells #[.slice a n k, I s0] 46 (0, 0))] :: j0 :: H :: F) at n0
 exact ⟨a0, j0, rfl, r0, ⟨by have h := f0.1; omega, by have h := f0.2.1; omega, f0.2.2⟩, _, om, n0⟩
theorem tg_table (W w : World) (p : Nat) (a : Option Addr) (n k : Nat) (i : Int) (xs : List Int) (H : Chunk) (F : List Chunk) (hR : RdT encI 1 [H] a n k xs) (hi : 0 ≤ i ∧ i ≤ n) (hS : Sat W w ([(p, .cells #[.slice a n k, I i] 46 (0, 0))] :: H :: F)) (n0 : Int) (hn0 : 1 ≤ n0 ∧ n0 ≤ 128) :
  Calls Try.prog 44 #[Pt p 0, I n0] w fun e w' => ∃ (az : Option Addr) (nz : Nat) (kz : Nat) (zs : List Tap) (G : Chunk), e = .returned (.slice az nz kz) ∧ (RdT encTap 2 [G] az nz kz zs) ∧ (∀ z ∈ zs, Tap.Ok [G] z) ∧ (zs.length ≤ 6 ∧ ∀ z ∈ zs, tapB z) ∧ ∃ i' : Int, (0 ≤ i' ∧ i' ≤ n) ∧ Sat W w' ([(p, .cells #[.slice a n k, I i'] 46 (0, 0))] :: G :: H :: F) := by
 have hle := hR.le
 refine callsE (n := 57) Try.func44 rfl rfl (Nat.le_of_ble_eq_true rfl) ?_
 refine sR <| pu1 <| nT <| sR <| pu1 ?_
 change Sat _ _ ([(p, .cells #[.slice a n k, I i] 46 (0, 0))] :: H :: F) at hS
 refine sF #[Pt p 0, I 6] Try.call19 (Calls.mono (tape_next W _ _ _ _ _ i _ _ [] (RdT.flat (hR.up 0 (by rfl))) om (Sat.flat1 hS) 6 om) ?_)
 rintro _ _ ⟨d0, rfl, _, j0, _, e1⟩
 refine ⟨_, rfl, ?_⟩
 have f1 := Sat.unflat1 e1; clear e1
 change Sat _ _ ([(p, .cells #[.slice a n k, I j0] 46 (0, 0))] :: H :: F) at f1
 refine sAdd 1 d0 ?_
 refine pu1 <| nT <| sR <| pu2 ?_
 refine sF #[I n0, I (1 + d0), I 8] Try.call62 (Calls.mono (r8_linear W _ _ [] n0 (1 + d0) 8 (Sat.flat f1)) ?_)
 rintro _ _ ⟨f0, e0, g0, g1, t0, a0, b0, rfl, k0, h1, l0, i1⟩
 refine ⟨_, rfl, ?_⟩
 have j1 := Sat.unflat2 i1; clear i1
 have hn_zs_14 := k0.len; have hl_zs_14 := k0.le
 change Sat _ _ (b0 :: a0 :: [(p, .cells #[.slice a n k, I j0] 46 (0, 0))] :: H :: F) at j1
 refine pu5 <| nT <| seqE <| sR <| pu1 ?_
 have k1 := (j1.pick 2 rfl)
 change Sat _ _ ([(p, .cells #[.slice a n k, I j0] 46 (0, 0))] :: b0 :: a0 :: H :: F) at k1
 refine sF #[Pt p 0, I 2] Try.call19 (Calls.mono (tape_next W _ _ _ _ _ j0 _ _ [] (RdT.flat (hR.up 2 (by rfl))) om (Sat.flat1 k1) 2 om) ?_)
 rintro _ _ ⟨u0, rfl, _, c0, _, l1⟩
 refine ⟨_, rfl, ?_⟩
 have v0 := Sat.unflat1 l1; clear l1
 change Sat _ _ ([(p, .cells #[.slice a n k, I c0] 46 (0, 0))] :: b0 :: a0 :: H :: F) at v0
 refine pu1 <| nT ?_
 by_cases m1 : (u0 : Int) = 0
 ·refine cT _ (beq_iff_eq.2 m1) ?_
  refine seqE <| sR <| pu2 ?_
  refine sF #[I n0, I (1 + d0), I 8] Try.call63 (Calls.mono (r8_box W _ _ [] n0 (1 + d0) 8 (Sat.flat v0)) ?_)
  rintro _ _ ⟨p2, q2, r2, s2, t2, m0, o0, rfl, w0, u2, n1, o1⟩
  refine ⟨_, rfl, ?_⟩
  have x0 := Sat.unflat2 o1; clear o1
  have hn_zs_36 := w0.len; have hl_zs_36 := w0.le
  try dsimp only [List.set, List.eraseIdx, Value.cells] at x0
  refine pu5 <| nT <| sR <| pu2 <| nT ?_
  by_cases p1 : (t2 : Int) = 0
  ·refine cT _ (beq_iff_eq.2 p1) ?_
   refine sR <| pu2 <| nT ?_
   refine retE (thenK_r <| thenK_r <| ?_)
   refine retT [.slice p2 q2 r2] ?_
   have q1 := ((((((x0.pick 5 rfl).pick 2 rfl).pick 2 rfl).pick 3 rfl).dropAt 4 rfl).dropAt 4 rfl)
   change Sat _ _ ([(p, .cells #[.slice a n k, I c0] 46 (0, 0))] :: o0 :: m0 :: H :: F) at q1
   have v2 : Sat W _ ([(p, .cells #[.slice a n k, I c0] 46 (0, 0))] :: (o0 ++ m0) :: H :: F) := Sat.perm q1 (by simp)
   have r1 := (((v2.pick 2 rfl).pick 2 rfl).pick 2 rfl)
   change Sat _ _ ([(p, .cells #[.slice a n k, I c0] 46 (0, 0))] :: (o0 ++ m0) :: H :: F) at r1
   exact ⟨_, _, _, s2, (o0 ++ m0), rfl, (w0.rd (fun p hp => by simp [hp])), (fun z hz => (u2 z hz).of_mem mS), ⟨by have h := n1.1; omega, n1.2⟩, _, om, r1⟩
  refine cF _ (beq_eq_false_iff_ne.2 p1) ?_
  refine kT <| sR <| pu2 <| nT ?_
  refine retE (thenK_r <| ?_)
  refine retT [.slice f0 e0 g0] ?_
  have s1 := ((((((x0.pick 5 rfl).pick 5 rfl).pick 5 rfl).pick 5 rfl).dropAt 4 rfl).dropAt 4 rfl)
  change Sat _ _ ([(p, .cells #[.slice a n k, I c0] 46 (0, 0))] :: b0 :: a0 :: H :: F) at s1
  have w2 : Sat W _ ([(p, .cells #[.slice a n k, I c0] 46 (0, 0))] :: (b0 ++ a0) :: H :: F) := Sat.perm s1 (by simp)
  have t1 := (((w2.pick 2 rfl).pick 2 rfl).pick 2 rfl)
  change Sat _ _ ([(p, .cells #[.slice a n k, I c0] 46 (0, 0))] :: (b0 ++ a0) :: H :: F) at t1
  exact ⟨_, _, _, g1, (b0 ++ a0), rfl, (k0.rd (fun p hp => by simp [hp])), (fun z hz => (h1 z hz).of_mem mS), ⟨by have h := l0.1; omega, l0.2⟩, _, om, t1⟩
 refine cF _ (beq_eq_false_iff_ne.2 m1) ?_
 refine kT <| seqE <| sR <| pu1 <| nT <| blockE ?_
 have u1 := (v0.pick 2 rfl)
 change Sat _ _ (a0 :: [(p, .cells #[.slice a n k, I c0] 46 (0, 0))] :: b0 :: H :: F) at u1
 have v1 := (u1.pick 2 rfl)
 change Sat _ _ (b0 :: a0 :: [(p, .cells #[.slice a n k, I c0] 46 (0, 0))] :: H :: F) at v1
 refine loopE (γ := Nat × Int × (List Tap) × (Option Addr) × Nat × Nat × Chunk × Chunk) (fun ⟨i, iti, zs, azs, nzs, kzs, czs, Gzs⟩ ρ w => AllAt ρ [(0, Pt p 0), (1, I n0), (4, .slice none 0 0), (11, Pt p 0), (12, I d0), (13, I (1 + d0)), (5, I (1 + d0)), (15, I n0), (16, I (1 + d0)), (17, .tuple #[.slice f0 e0 g0, I t0]), (14, .tuple #[.slice f0 e0 g0, I t0]), (18, .slice f0 e0 g0), (19, I t0), (20, Pt p 0), (21, I u0), (22, .bool ((u0 : Int) == 0)), (10, I ((i : Nat) : Int)), (6, .slice azs nzs kzs)] ∧ Sat W w (Gzs :: czs :: [(p, .cells #[.slice a n k, I iti] 46 (0, 0))] :: H :: F) ∧ i ≤ e0 ∧ (∀ z ∈ zs, tapB z) ∧ (zs.length = e0) ∧ (zs.length ≤ 6) ∧ (0 ≤ iti ∧ iti ≤ n) ∧ OwnT encTap 94 2 azs nzs kzs zs czs ∧ (∀ z ∈ zs, Tap.Ok [Gzs] z)) (fun ⟨i, iti, zs, azs, nzs, kzs, czs, Gzs⟩ => e0 - i) (0, c0, g1, f0, e0, g0, a0, b0) ⟨alA, v1, om, l0.2, om, by have h := l0.1; omega, om, k0, h1⟩ ?_
 skip
 rintro ⟨i, iti, zs, azs, nzs, kzs, czs, Gzs⟩ ρ _ ⟨hA, w1, hi, hB, hzl, hz6, hiti, hOzs, hDzs⟩
 refine cAnchor hA (fun ρ => ?_)
 clear hA
 have hn_zs := hOzs.len; have hl_zs := hOzs.le
 refine seqE <| sR <| pu4 <| nT ?_
 by_cases x1 : (((i : Nat) : Int) : Int) < ((nzs : Nat) : Int)
 rotate_left
 ·refine cF _ (decide_eq_false x1) ?_
  refine exitE (xB <| ?_)
  refine thenK_n <| sR <| pu2 <| nT <| retE <| retT [.slice azs nzs kzs] ?_
  have y1 := ((((w1.pick 3 rfl).pick 2 rfl).pick 2 rfl).pick 3 rfl)
  change Sat _ _ ([(p, .cells #[.slice a n k, I iti] 46 (0, 0))] :: Gzs :: czs :: H :: F) at y1
  have x2 : Sat W _ ([(p, .cells #[.slice a n k, I iti] 46 (0, 0))] :: (Gzs ++ czs) :: H :: F) := Sat.perm y1 (by simp)
  have z1 := (((x2.pick 2 rfl).pick 2 rfl).pick 2 rfl)
  change Sat _ _ ([(p, .cells #[.slice a n k, I iti] 46 (0, 0))] :: (Gzs ++ czs) :: H :: F) at z1
  exact ⟨_, _, _, zs, (Gzs ++ czs), rfl, (hOzs.rd (fun p hp => by simp [hp])), (fun z hz => (hDzs z hz).of_mem mS), ⟨om, hB⟩, _, om, z1⟩
 refine cT _ (decide_eq_true x1) ?_
 refine kT <| seqE <| blockE <| sR <| pu1 ?_
 have a2 := (w1.pick 2 rfl)
 change Sat _ _ ([(p, .cells #[.slice a n k, I iti] 46 (0, 0))] :: Gzs :: czs :: H :: F) at a2
 refine sF #[Pt p 0, I 4] Try.call19 (Calls.mono (tape_next W _ _ _ _ _ iti _ _ [] (RdT.flat (hR.up 2 (by rfl))) om (Sat.flat1 a2) 4 om) ?_)
 rintro _ _ ⟨y2, rfl, _, h0, _, b2⟩
 refine ⟨_, rfl, ?_⟩
 have p0 := Sat.unflat1 b2; clear b2
 change Sat _ _ ([(p, .cells #[.slice a n k, I h0] 46 (0, 0))] :: Gzs :: czs :: H :: F) at p0
 refine pu1 <| nT ?_
 by_cases c2 : (y2 : Int) = 0
 rotate_left
 ·refine cF _ (beq_eq_false_iff_ne.2 c2) ?_
  refine skipE <| blockK_n <| thenK_n <| regionE <| pu1 ?_
  refine sAdd ((i : Nat) : Int) 1 ?_
  refine pu1 <| nT ?_
  have d2 := ((((p0.pick 3 rfl).pick 1 rfl).pick 3 rfl).pick 3 rfl)
  change Sat _ _ (Gzs :: czs :: [(p, .cells #[.slice a n k, I h0] 46 (0, 0))] :: H :: F) at d2
  exact ⟨(i + 1, h0, zs, azs, nzs, kzs, czs, Gzs), od, alA, d2, om, hB, by first | omega | (simp; omega), by first | omega | (simp; omega), om, hOzs, hDzs⟩
 refine cT _ (beq_iff_eq.2 c2) ?_
 refine regionE <| pu4 ?_
 refine sAdd n0 6 ?_
 change Sat _ _ ([(p, .cells #[.slice a n k, I h0] 46 (0, 0))] :: Gzs :: czs :: H :: F) at p0
 refine sF #[Pt p 0, I (n0 + 6)] Try.call19 (Calls.mono (tape_next W _ _ _ _ _ h0 _ _ [] (RdT.flat (hR.up 2 (by rfl))) om (Sat.flat1 p0) (n0 + 6) om) ?_)
 rintro _ _ ⟨i0, rfl, _, y0, _, e2⟩
 refine ⟨_, rfl, ?_⟩
 have z0 := Sat.unflat1 e2; clear e2
 change Sat _ _ ([(p, .cells #[.slice a n k, I y0] 46 (0, 0))] :: Gzs :: czs :: H :: F) at z0
 refine sSub i0 4 ?_
 refine pu2 ?_
 change Sat _ _ ([(p, .cells #[.slice a n k, I y0] 46 (0, 0))] :: Gzs :: czs :: H :: F) at z0
 refine sF #[Pt p 0, I 4] Try.call19 (Calls.mono (tape_next W _ _ _ _ _ y0 _ _ [] (RdT.flat (hR.up 2 (by rfl))) om (Sat.flat1 z0) 4 om) ?_)
 rintro _ _ ⟨a1, rfl, _, b1, _, f2⟩
 refine ⟨_, rfl, ?_⟩
 have c1 := Sat.unflat1 f2; clear f2
 change Sat _ _ ([(p, .cells #[.slice a n k, I b1] 46 (0, 0))] :: Gzs :: czs :: H :: F) at c1
 refine sAdd 1 a1 ?_
 change Sat _ _ ([(p, .cells #[.slice a n k, I b1] 46 (0, 0))] :: Gzs :: czs :: H :: F) at c1
 refine sF #[Pt p 0, I (1 + a1)] Try.call43 (Calls.mono (tg_weights W _ _ _ _ _ b1 _ _ [] (RdT.flat (hR.up 2 (by rfl))) om (Sat.flat1 c1) (1 + a1) om) ?_)
 rintro _ _ ⟨q0, r0, s0, g2, h2, rfl, d1, i2, j2, _, k2⟩
 refine ⟨_, rfl, ?_⟩
 have l2 := Sat.unflat2 k2; clear k2
 try dsimp only [List.set, List.eraseIdx, Value.cells] at l2
 have hn_zs_83 := d1.len; have hl_zs_83 := d1.le
 refine pu1 ?_
 refine sIdxO hOzs ((i : Nat) : Int) i Try.runUnderlying58 Try.sizeOf94 ?_
 intro z2 _ _ a3 _ b3
 refine sStF l2 hOzs b3 3 i 0 z2 (⟨(i0 - 4), ⟨q0, r0, s0, g2⟩⟩ : Tap) a3 (.agg #[I (i0 - 4), .slice q0 r0 s0]) [I (i0 - 4), .slice q0 r0 s0] Try.sizeOf94 ?_
 intro _ m2 c3 n2
 try dsimp only [List.set, List.eraseIdx, Value.cells] at n2
 refine nB <| regionE <| pu1 ?_
 refine sAdd ((i : Nat) : Int) 1 ?_
 refine pu1 <| nT ?_
 have o2 := (((((n2.pick 4 rfl).pick 1 rfl).pick 4 rfl).pick 4 rfl).pick 4 rfl)
 try dsimp only [List.set, List.eraseIdx, Value.cells] at o2
 have d3 := (Sat.perm (cs' := (h2 ++ Gzs) :: (m2 :: [(p, .cells #[.slice a n k, I j2] 46 (0, 0))] :: H :: F)) o2 (by simp))
 exact ⟨(i + 1, j2, (zs.set i (⟨(i0 - 4), ⟨q0, r0, s0, g2⟩⟩ : Tap)), azs, nzs, kzs, m2, (h2 ++ Gzs)), od, alA, d3, om, mem_set hB ⟨by unfold numB; dsimp only; omega, by have h := i2.1; dsimp only; omega, i2.2⟩, by first | omega | (simp; omega), by first | omega | (simp; omega), om, c3, (mem_set (fun z hz => (hDzs z hz).of_mem mS) ⟨d1.of_mem mS⟩)⟩
def opB (o : POp) : Prop := numB o.code ∧ numB o.arg
theorem tg_ops (W w : World) (p : Nat) (a : Option Addr) (n k : Nat) (i : Int) (xs : List Int) (H : Chunk) (F : List Chunk) (hR : RdT encI 1 [H] a n k xs) (hi : 0 ≤ i ∧ i ≤ n) (hS : Sat W w ([(p, .cells #[.slice a n k, I i] 46 (0, 0))] :: H :: F)) (two : Bool) :
  Calls Try.prog 45 #[Pt p 0, .bool two] w fun e w' => ∃ (az : Option Addr) (nz : Nat) (kz : Nat) (zs : List POp) (G : Chunk), e = .returned (.slice az nz kz) ∧ (RdT encPOp 2 [G] az nz kz zs) ∧ (zs.length ≤ 9 ∧ ∀ z ∈ zs, opB z) ∧ ∃ i' : Int, (0 ≤ i' ∧ i' ≤ n) ∧ Sat W w' ([(p, .cells #[.slice a n k, I i'] 46 (0, 0))] :: G :: H :: F) := by
 have hle := hR.le
 refine callsE (n := 55) Try.func45 rfl rfl (Nat.le_of_ble_eq_true rfl) ?_
 refine sR <| pu1 <| nT <| sR <| pu1 ?_
 refine sBS hS #[I 0, I 0] Try.runUnderlying59 Try.sizeOf66 Try.zeroValue66 ?_
 intro g0 _ l0
 refine pu1 <| nT ?_
 refine cutE (fun ρ w => ∃ (a1 : Option Addr) (n1 : Nat) (k1 : Nat) (z1 : List POp) (c1 : Chunk) (itc : Int), AllAt ρ [(0, Pt p 0), (5, .slice a1 n1 k1)] ∧ Sat W w ([(p, .cells #[.slice a n k, I itc] 46 (0, 0))] :: c1 :: H :: F) ∧ (0 ≤ itc ∧ itc ≤ n) ∧ OwnT encPOp 66 2 a1 n1 k1 z1 c1 ∧ (z1.length ≤ 3 ∧ ∀ z ∈ z1, opB z)) ?_ ?_
 ·refine sR <| pu1 <| nT ?_
  rcases Classical.em (two = true) with h0 | h0
  rotate_left
  ·refine cF _ (Bool.eq_false_iff.2 h0) ?_
   refine kT ?_
   have h2 := OwnT.blk (enc := encPOp) (sz := 2) (b := g0) (c := #[I 0, I 0]) (E := 66) (xs := [(⟨0, 0⟩ : POp)]) fR 1 rfl rfl rfl om
   have m0 := (((l0.pick 2 rfl).pick 1 rfl).pick 2 rfl)
   try dsimp only [List.set, List.eraseIdx, Value.cells] at m0
   exact ⟨(At g0 0), 1, 1, [(⟨0, 0⟩ : POp)], [(g0, .cells #[I 0, I 0] 66 (0, 0))], i, alA, m0, om, h2, ⟨by simp, (by intro z hz; simp at hz; subst hz; (unfold opB numB; dsimp only; omega))⟩⟩
  refine cT _ h0 ?_
  refine regionE <| pu3 ?_
  refine sBS l0 #[I 3, I 4, I 5, I 6, I 7, I 8, I 9] Try.runUnderlying22 Try.sizeOf3 Try.zeroValue3 ?_
  intro i2 _ j2
  have n0 := (j2.pick 2 rfl)
  try dsimp only [List.set, List.eraseIdx, Value.cells] at n0
  refine sF #[Pt p 0, .slice (At i2 0) 7 7] Try.call26 (Calls.mono (tape_pick W _ _ _ _ _ i _ _ [] (RdT.flat (hR.up 2 (by rfl))) om (Sat.flat1 n0) _ _ _ [3, 4, 5, 6, 7, 8, 9] (RdT.flat (RdT.blk (enc := encI) (sz := 1) (xs := [3, 4, 5, 6, 7, 8, 9]) (fun _ => (by rfl)) 7 0 rfl rfl rfl om)) om om) ?_)
  rintro _ _ ⟨a0, rfl, k2, o0, _, p0⟩
  refine ⟨_, rfl, ?_⟩
  have q0 := Sat.unflat1 p0; clear p0
  try dsimp only [List.set, List.eraseIdx, Value.cells] at q0
  have n3 : (a0 : Int) = 3 ∨ (a0 : Int) = 4 ∨ (a0 : Int) = 5 ∨ (a0 : Int) = 6 ∨ (a0 : Int) = 7 ∨ (a0 : Int) = 8 ∨ (a0 : Int) = 9 := by simpa using k2
  refine pu1 ?_
  refine sBS q0 #[I 1, I 0, I a0, I 0] Try.runUnderlying59 Try.sizeOf66 Try.zeroValue66 ?_
  intro _ _ l2
  have m2 := OwnT.blk (enc := encPOp) (sz := 2) (b := g0) (c := #[I 0, I 0]) (E := 66) (xs := [(⟨0, 0⟩ : POp)]) fR 1 rfl rfl rfl om
  refine sApp (nb := 16) l2 m2 3 (RdT.blk (enc := encPOp) (sz := 2) (xs := [(⟨1, 0⟩ : POp), (⟨a0, 0⟩ : POp)]) fR 2 0 rfl rfl rfl om) Try.underlying59 (i := Try.t66) kr fR ?_
  intro n2 o2 r0 _ p2 s0
  try dsimp only [List.set, List.eraseIdx, Value.cells] at s0
  refine pu1 <| nT ?_
  have t0 := (((((s0.pick 4 rfl).pick 4 rfl).pick 3 rfl).dropAt 3 rfl).dropAt 3 rfl)
  change Sat _ _ ([(p, .cells #[.slice a n k, I o0] 46 (0, 0))] :: r0 :: H :: F) at t0
  exact ⟨n2, (1 + 2), o2, ([(⟨0, 0⟩ : POp)] ++ [(⟨1, 0⟩ : POp), (⟨a0, 0⟩ : POp)]), r0, o0, alA, t0, om, p2, ⟨by simp, (by intro z hz; simp at hz; rcases hz with rfl | rfl | rfl <;> (unfold opB numB; dsimp only; omega))⟩⟩
 rintro ρ _ ⟨a1, n1, k1, z1, c1, itc, hA, u0, hitc, hO1, hz1⟩
 refine cAnchor hA (fun ρ => ?_)
 clear hA
 refine seqE <| sR <| pu1 ?_
 change Sat _ _ ([(p, .cells #[.slice a n k, I itc] 46 (0, 0))] :: c1 :: H :: F) at u0
 refine sF #[Pt p 0, I 4] Try.call19 (Calls.mono (tape_next W _ _ _ _ _ itc _ _ [] (RdT.flat (hR.up 1 (by rfl))) om (Sat.flat1 u0) 4 om) ?_)
 rintro _ _ ⟨v0, rfl, _, i0, _, w0⟩
 refine ⟨_, rfl, ?_⟩
 have x0 := Sat.unflat1 w0; clear w0
 change Sat _ _ ([(p, .cells #[.slice a n k, I i0] 46 (0, 0))] :: c1 :: H :: F) at x0
 refine pu1 <| nT <| blockE ?_
 have y0 := (x0.pick 1 rfl)
 change Sat _ _ (c1 :: [(p, .cells #[.slice a n k, I i0] 46 (0, 0))] :: H :: F) at y0
 refine loopE (γ := Nat × Int × Int × (List POp) × (Option Addr) × Nat × Nat × Chunk) (fun ⟨u, j, itu, zs, azs, nzs, kzs, czs⟩ ρ w => AllAt ρ [(0, Pt p 0), (18, Pt p 0), (19, I v0), (6, I j), (5, .slice azs nzs kzs)] ∧ Sat W w (czs :: [(p, .cells #[.slice a n k, I itu] 46 (0, 0))] :: H :: F) ∧ u ≤ 3 ∧ (∀ z ∈ zs, opB z) ∧ (zs.length ≤ 3 + 2 * u) ∧ ((u : Int) + j ≤ 3) ∧ (0 ≤ itu ∧ itu ≤ n) ∧ OwnT encPOp 66 2 azs nzs kzs zs czs) (fun ⟨u, j, itu, zs, azs, nzs, kzs, czs⟩ => 3 - u) (0, v0, i0, z1, a1, n1, k1, c1) ⟨alA, y0, om, hz1.2, om, om, om, hO1⟩ ?_
 skip
 rintro ⟨u, j, itu, zs, azs, nzs, kzs, czs⟩ ρ _ ⟨hA, z0, hu, hB, hzl, hj, hitu, hOzs⟩
 refine cAnchor hA (fun ρ => ?_)
 clear hA
 have hn_zs := hOzs.len; have hl_zs := hOzs.le
 refine seqE <| sR <| pu2 <| nT ?_
 by_cases b1 : (j : Int) > 0
 rotate_left
 ·refine cF _ (decide_eq_false b1) ?_
  refine exitE (xB <| ?_)
  refine thenK_n <| sR <| pu2 <| nT <| retE <| retT [.slice azs nzs kzs] ?_
  have d1 := (((z0.pick 2 rfl).pick 1 rfl).pick 2 rfl)
  change Sat _ _ ([(p, .cells #[.slice a n k, I itu] 46 (0, 0))] :: czs :: H :: F) at d1
  exact ⟨_, _, _, zs, czs, rfl, (hOzs.rdAt (cs := [czs]) 0 rfl), ⟨om, hB⟩, _, om, d1⟩
 refine cT _ (decide_eq_true b1) ?_
 refine kT <| seqE <| blockE <| sR <| pu1 ?_
 have e1 := (z0.pick 1 rfl)
 change Sat _ _ ([(p, .cells #[.slice a n k, I itu] 46 (0, 0))] :: czs :: H :: F) at e1
 refine sF #[Pt p 0, I 3] Try.call19 (Calls.mono (tape_next W _ _ _ _ _ itu _ _ [] (RdT.flat (hR.up 1 (by rfl))) om (Sat.flat1 e1) 3 om) ?_)
 rintro _ _ ⟨f1, rfl, _, c0, _, g1⟩
 refine ⟨_, rfl, ?_⟩
 have e0 := Sat.unflat1 g1; clear g1
 change Sat _ _ ([(p, .cells #[.slice a n k, I c0] 46 (0, 0))] :: czs :: H :: F) at e0
 refine nT <| blockE <| sR <| pu2 <| nT ?_
 by_cases h1 : (f1 : Int) = 0
 rotate_left
 ·refine cF _ (beq_eq_false_iff_ne.2 h1) ?_
  refine sR <| pu2 <| nT ?_
  by_cases i1 : (f1 : Int) = 1
  rotate_left
  ·refine cF _ (beq_eq_false_iff_ne.2 i1) ?_
   refine regionE <| pu2 ?_
   refine sBS e0 #[I 11, I 0] Try.runUnderlying59 Try.sizeOf66 Try.zeroValue66 ?_
   intro _ _ q2
   refine sApp (nb := 16) q2 hOzs 2 (RdT.blk (enc := encPOp) (sz := 2) (xs := [(⟨11, 0⟩ : POp)]) fR 1 0 rfl rfl rfl om) Try.underlying59 (i := Try.t66) kr fR ?_
   intro r2 s2 j1 _ t2 l1
   try dsimp only [List.set, List.eraseIdx, Value.cells] at l1
   refine pu1 <| nilO <| blockK_n <| blockK_n <| thenK_n <| regionE <| pu1 ?_
   refine sSub j 1 ?_
   refine pu1 <| nT ?_
   have m1 := ((((l1.pick 3 rfl).pick 2 rfl).pick 3 rfl).dropAt 3 rfl)
   change Sat _ _ (j1 :: [(p, .cells #[.slice a n k, I c0] 46 (0, 0))] :: H :: F) at m1
   exact ⟨(u + 1, (j - 1), c0, (zs ++ [(⟨11, 0⟩ : POp)]), r2, (nzs + 1), s2, j1), od, alA, m1, om, (by
     intro z hz
     rcases List.mem_append.1 hz with h | h
     ·exact hB z h
     ·simp only [List.mem_cons, List.not_mem_nil, or_false] at h
      subst h; (unfold opB numB; dsimp only; omega)), by simp; omega, om, om, t2⟩
  refine cT _ (beq_iff_eq.2 i1) ?_
  refine regionE <| pu2 ?_
  change Sat _ _ ([(p, .cells #[.slice a n k, I c0] 46 (0, 0))] :: czs :: H :: F) at e0
  refine sF #[Pt p 0, I 4] Try.call19 (Calls.mono (tape_next W _ _ _ _ _ c0 _ _ [] (RdT.flat (hR.up 1 (by rfl))) om (Sat.flat1 e0) 4 om) ?_)
  rintro _ _ ⟨j0, rfl, _, k0, _, o1⟩
  refine ⟨_, rfl, ?_⟩
  have p1 := Sat.unflat1 o1; clear o1
  change Sat _ _ ([(p, .cells #[.slice a n k, I k0] 46 (0, 0))] :: czs :: H :: F) at p1
  refine pu1 ?_
  refine sBS p1 #[I 10, I j0] Try.runUnderlying59 Try.sizeOf66 Try.zeroValue66 ?_
  intro _ _ u2
  refine sApp (nb := 16) u2 hOzs 2 (RdT.blk (enc := encPOp) (sz := 2) (xs := [(⟨10, j0⟩ : POp)]) fR 1 0 rfl rfl rfl om) Try.underlying59 (i := Try.t66) kr fR ?_
  intro v2 w2 q1 _ x2 r1
  try dsimp only [List.set, List.eraseIdx, Value.cells] at r1
  refine pu1 <| nilO <| blockK_n <| blockK_n <| thenK_n <| regionE <| pu1 ?_
  refine sSub j 1 ?_
  refine pu1 <| nT ?_
  have s1 := ((((r1.pick 3 rfl).pick 2 rfl).pick 3 rfl).dropAt 3 rfl)
  change Sat _ _ (q1 :: [(p, .cells #[.slice a n k, I k0] 46 (0, 0))] :: H :: F) at s1
  exact ⟨(u + 1, (j - 1), k0, (zs ++ [(⟨10, j0⟩ : POp)]), v2, (nzs + 1), w2, q1), od, alA, s1, om, (by
    intro z hz
    rcases List.mem_append.1 hz with h | h
    ·exact hB z h
    ·simp only [List.mem_cons, List.not_mem_nil, or_false] at h
     subst h; (unfold opB numB; dsimp only; omega)), by simp; omega, om, om, x2⟩
 refine cT _ (beq_iff_eq.2 h1) ?_
 refine regionE <| pu3 ?_
 change Sat _ _ ([(p, .cells #[.slice a n k, I c0] 46 (0, 0))] :: czs :: H :: F) at e0
 refine sF #[Pt p 0, I 300] Try.call19 (Calls.mono (tape_next W _ _ _ _ _ c0 _ _ [] (RdT.flat (hR.up 1 (by rfl))) om (Sat.flat1 e0) 300 om) ?_)
 rintro _ _ ⟨f0, rfl, _, t1, _, u1⟩
 refine ⟨_, rfl, ?_⟩
 have v1 := Sat.unflat1 u1; clear u1
 change Sat _ _ ([(p, .cells #[.slice a n k, I t1] 46 (0, 0))] :: czs :: H :: F) at v1
 refine sSub f0 100 ?_
 refine sBS v1 #[I (f0 - 100), I 0, I 3, I (-2)] Try.runUnderlying22 Try.sizeOf3 Try.zeroValue3 ?_
 intro y2 _ z2
 have w1 := (z2.pick 1 rfl)
 try dsimp only [List.set, List.eraseIdx, Value.cells] at w1
 refine sF #[Pt p 0, .slice (At y2 0) 4 4] Try.call26 (Calls.mono (tape_pick W _ _ _ _ _ t1 _ _ [] (RdT.flat (hR.up 2 (by rfl))) om (Sat.flat1 w1) _ _ _ [(f0 - 100), 0, 3, -2] (RdT.flat (RdT.blk (enc := encI) (sz := 1) (xs := [(f0 - 100), 0, 3, -2]) (fun _ => (by rfl)) 4 0 rfl rfl rfl om)) om om) ?_)
 rintro _ _ ⟨d0, rfl, a3, b3, _, x1⟩
 refine ⟨_, rfl, ?_⟩
 have y1 := Sat.unflat1 x1; clear x1
 try dsimp only [List.set, List.eraseIdx, Value.cells] at y1
 have o4 : (d0 : Int) = (f0 - 100) ∨ (d0 : Int) = 0 ∨ (d0 : Int) = 3 ∨ (d0 : Int) = (-2) := by simpa using a3
 refine pu2 ?_
 refine sBS y1 #[I 3, I 4, I 5, I 6, I 7, I 8, I 9] Try.runUnderlying22 Try.sizeOf3 Try.zeroValue3 ?_
 intro c3 _ d3
 have a2 := (d3.pick 1 rfl)
 try dsimp only [List.set, List.eraseIdx, Value.cells] at a2
 refine sF #[Pt p 0, .slice (At c3 0) 7 7] Try.call26 (Calls.mono (tape_pick W _ _ _ _ _ b3 _ _ [] (RdT.flat (hR.up 3 (by rfl))) om (Sat.flat1 a2) _ _ _ [3, 4, 5, 6, 7, 8, 9] (RdT.flat (RdT.blk (enc := encI) (sz := 1) (xs := [3, 4, 5, 6, 7, 8, 9]) (fun _ => (by rfl)) 7 0 rfl rfl rfl om)) om om) ?_)
 rintro _ _ ⟨b0, rfl, e3, b2, _, c2⟩
 refine ⟨_, rfl, ?_⟩
 have d2 := Sat.unflat1 c2; clear c2
 try dsimp only [List.set, List.eraseIdx, Value.cells] at d2
 have s4 : (b0 : Int) = 3 ∨ (b0 : Int) = 4 ∨ (b0 : Int) = 5 ∨ (b0 : Int) = 6 ∨ (b0 : Int) = 7 ∨ (b0 : Int) = 8 ∨ (b0 : Int) = 9 := by simpa using e3
 refine pu1 ?_
 refine sBS d2 #[I 2, I d0, I b0, I 0] Try.runUnderlying59 Try.sizeOf66 Try.zeroValue66 ?_
 intro _ _ f3
 refine sApp (nb := 16) f3 hOzs 4 (RdT.blk (enc := encPOp) (sz := 2) (xs := [(⟨2, d0⟩ : POp), (⟨b0, 0⟩ : POp)]) fR 2 0 rfl rfl rfl om) Try.underlying59 (i := Try.t66) kr fR ?_
 intro g3 h3 e2 _ i3 f2
 try dsimp only [List.set, List.eraseIdx, Value.cells] at f2
 refine pu1 <| nilO <| blockK_n <| blockK_n <| thenK_n <| regionE <| pu1 ?_
 refine sSub j 1 ?_
 refine pu1 <| nT ?_
 have g2 := ((((((f2.pick 5 rfl).pick 2 rfl).pick 5 rfl).dropAt 3 rfl).dropAt 3 rfl).dropAt 3 rfl)
 change Sat _ _ (e2 :: [(p, .cells #[.slice a n k, I b2] 46 (0, 0))] :: H :: F) at g2
 exact ⟨(u + 1, (j - 1), b2, (zs ++ [(⟨2, d0⟩ : POp), (⟨b0, 0⟩ : POp)]), g3, (nzs + 2), h3, e2), od, alA, g2, om, (by
   intro z hz
   rcases List.mem_append.1 hz with h | h
   ·exact hB z h
   ·simp only [List.mem_cons, List.not_mem_nil, or_false] at h
    rcases h with rfl | rfl <;> (unfold opB numB; dsimp only; omega)), by simp; omega, om, om, i3⟩
def stageB (k : Nat) (q : Stage) : Prop := (numB q.kind ∧ numB q.a ∧ numB q.b ∧ numB q.edgePolicy ∧ numB q.edgeFill ∧ numB q.kW ∧ numB q.kH ∧ numB q.shift ∧ numB q.shift2 ∧ numB q.bins ∧ numB q.max_) ∧ (q.weights.l.length ≤ 64 ∧ ∀ z ∈ q.weights.l, numB z) ∧ (q.row.l.length ≤ 64 ∧ ∀ z ∈ q.row.l, numB z) ∧ (q.col.l.length ≤ 64 ∧ ∀ z ∈ q.col.l, numB z) ∧ (q.x.l.length ≤ 6 + k ∧ ∀ z ∈ q.x.l, tapB z) ∧ (q.y.l.length ≤ 6 + k ∧ ∀ z ∈ q.y.l, tapB z) ∧ (q.ops.l.length ≤ 9 + k ∧ ∀ z ∈ q.ops.l, opB z)
theorem tg_stage (W w : World) (p : Nat) (a : Option Addr) (n k : Nat) (i : Int) (xs : List Int) (H : Chunk) (F : List Chunk) (hR : RdT encI 1 [H] a n k xs) (hi : 0 ≤ i ∧ i ≤ n) (hS : Sat W w ([(p, .cells #[.slice a n k, I i] 46 (0, 0))] :: H :: F)) (a0 : Int) (s0 : Shape) (b0 : Int) (hs0 : szP s0) (hab : numB a0 ∧ numB b0) :
  Calls Try.prog 23 #[Pt p 0, I a0, .agg #[I s0.w, I s0.h, I s0.max_], I b0] w fun e w' => ∃ (q : Stage) (G : Chunk), e = .returned (.agg (encStage q).toArray) ∧ (Stage.Ok [G] q) ∧ (stageB 0 q) ∧ (q.a = a0 ∧ (q.b = -1 ∨ (q.b = b0 ∧ 0 ≤ b0))) ∧ ∃ i' : Int, (0 ≤ i' ∧ i' ≤ n) ∧ Sat W w' ([(p, .cells #[.slice a n k, I i'] 46 (0, 0))] :: G :: H :: F) := by
 have hle := hR.le
 have hs1 := hs0; unfold szP at hs1; have hab1 := hab; unfold numB at hab1
 refine callsE (n := 126) Try.func23 rfl rfl (Nat.le_of_ble_eq_true rfl) ?_
 refine sR ?_
 refine sBox hS (.agg #[I s0.w, I s0.h, I s0.max_]) #[I s0.w, I s0.h, I s0.max_] ?_
 intro h1 _ l9
 refine sAlloc l9 Try.zeroValue61 ?_
 intro m0 _ m9
 refine nT <| sR <| pu1 ?_
 have v3 := (m9.pick 2 rfl)
 try dsimp only [List.set, List.eraseIdx, Value.cells] at v3
 refine sF #[Pt p 0, I 6] Try.call19 (Calls.mono (tape_next W _ _ _ _ _ i _ _ [] (RdT.flat (hR.up 2 (by rfl))) om (Sat.flat1 v3) 6 om) ?_)
 rintro _ _ ⟨c0, rfl, _, n9, _, w3⟩
 refine ⟨_, rfl, ?_⟩
 have i3 := Sat.unflat1 w3; clear w3
 try dsimp only [List.set, List.eraseIdx, Value.cells] at i3
 refine sAdd 1 c0 ?_
 refine pu2 ?_
 try dsimp only [List.set, List.eraseIdx, Value.cells] at i3
 refine sF #[Pt p 0, I 4] Try.call19 (Calls.mono (tape_next W _ _ _ _ _ n9 _ _ [] (RdT.flat (hR.up 2 (by rfl))) om (Sat.flat1 i3) 4 om) ?_)
 rintro _ _ ⟨d0, rfl, _, o9, _, x3⟩
 refine ⟨_, rfl, ?_⟩
 have y3 := Sat.unflat1 x3; clear x3
 try dsimp only [List.set, List.eraseIdx, Value.cells] at y3
 refine pu2 ?_
 refine sAlloc y3 Try.zeroValue61 ?_
 intro n0 _ p9
 refine sTw p9 0 [I (1 + c0), I a0, I (-1), .bool ((d0 : Int) == 3), I 0, I 0, I 0, I 0, .slice none 0 0, .slice none 0 0, .slice none 0 0, I 0, I 0, .slice none 0 0, .slice none 0 0, I 0, .slice none 0 0, I 0] Try.sizeOf61 ?_
 intro _ z3
 try dsimp only [List.set, List.eraseIdx, Value.cells] at z3
 refine nT <| sR <| pu1 ?_
 refine sBS z3 #[I 255, I 65535, I 15] Try.runUnderlying22 Try.sizeOf3 Try.zeroValue3 ?_
 intro q9 _ r9
 have a4 := (r9.pick 2 rfl)
 try dsimp only [List.set, List.eraseIdx, Value.cells] at a4
 refine sF #[Pt p 0, .slice (At q9 0) 3 3] Try.call26 (Calls.mono (tape_pick W _ _ _ _ _ o9 _ _ [] (RdT.flat (hR.up 4 (by rfl))) om (Sat.flat1 a4) _ _ _ [255, 65535, 15] (RdT.flat (RdT.blk (enc := encI) (sz := 1) (xs := [255, 65535, 15]) (fun _ => (by rfl)) 3 0 rfl rfl rfl om)) om om) ?_)
 rintro _ _ ⟨e0, rfl, s9, o0, _, b4⟩
 refine ⟨_, rfl, ?_⟩
 have i0 := Sat.unflat1 b4; clear b4
 try dsimp only [List.set, List.eraseIdx, Value.cells] at i0
 have qc : (e0 : Int) = 255 ∨ (e0 : Int) = 65535 ∨ (e0 : Int) = 15 := by simpa using s9
 refine pu1 <| nT ?_
 refine cutE (fun ρ w => ∃ (q : Stage) (G1 : Chunk) (itc : Int), AllAt ρ [(0, Pt p 0), (8, Pt m0 0), (9, Pt n0 0)] ∧ Sat W w ([(p, .cells #[.slice a n k, I itc] 46 (0, 0))] :: [(n0, .cells (encStage q).toArray 61 (0, 0))] :: [(m0, .cells #[I 0, I 0, I 0, .bool false, I 0, I 0, I 0, I 0, .slice none 0 0, .slice none 0 0, .slice none 0 0, I 0, I 0, .slice none 0 0, .slice none 0 0, I 0, .slice none 0 0, I 0] 61 (0, 0))] :: G1 :: H :: F) ∧ (0 ≤ itc ∧ itc ≤ n) ∧ Stage.Ok [G1] q ∧ stageB 0 q ∧ (q.a = a0 ∧ (q.b = -1 ∨ (q.b = b0 ∧ 0 ≤ b0)))) ?_ ?_
 rotate_left
 ·rintro ρ _ ⟨q, G1, itc, hA, c4, hitc, hqok, hqB, hqab⟩
  refine cAnchor hA (fun ρ => ?_)
  clear hA
  refine sR ?_
  refine sLA c4 1 0 [I q.kind, I q.a, I q.b, .bool q.barrier, I q.edgePolicy, I q.edgeFill, I q.kW, I q.kH, .slice q.weights.a q.weights.n q.weights.k, .slice q.row.a q.row.n q.row.k, .slice q.col.a q.col.n q.col.k, I q.shift, I q.shift2, .slice q.x.a q.x.n q.x.k, .slice q.y.a q.y.n q.y.k, I q.bins, .slice q.ops.a q.ops.n q.ops.k, I q.max_] (Try.isAgg61 _) (Try.sizeOf61 _) ?_
  refine sT c4 2 0 (.agg (encStage q).toArray) (encStage q) (encStage q).toArray Try.sizeOf61 ?_
  intro _ d4
  refine nT <| retE <| retN (vs := [.agg (encStage q).toArray]) rfl (.cons (.cell _ _ _ _ kr (lvA d4 2 0 (encStage q) (Try.isAgg61 _) (Try.sizeOf61 _) rfl rfl rfl)) .nil) ?_
  have e4 := (((((d4.pick 4 rfl).pick 4 rfl).pick 2 rfl).dropAt 3 rfl).dropAt 3 rfl)
  change Sat _ _ ([(p, .cells #[.slice a n k, I itc] 46 (0, 0))] :: G1 :: H :: F) at e4
  exact ⟨q, G1, rfl, hqok, hqB, hqab, _, om, e4⟩
 refine sR <| pu1 ?_
 refine sL i0 2 0 (I (1 + c0)) (Try.isAgg3 _) ?_
 refine nT <| blockE <| sR <| pu2 <| nT ?_
 by_cases f4 : ((1 + c0) : Int) = 1
 ·refine cT _ (beq_iff_eq.2 f4) ?_
  refine seqE ?_
  refine drawP [1, 2, 4, 5, 8, 12, 14, 16, 18, 20, 22] [(11, ⟨h1, 2, none⟩, I s0.max_)] (Plan.sts [0, 3, 6, 7, 9, 10] <| Plan.sts [11] <| .fk 1 4 (.fk 2 4 (Plan.sts [13] <| .ef 4 <| .ef 5 <| .ef 8 <| .ef 12 <| .ef 14 <| Plan.sts [15] <| .ef 16 <| Plan.sts [17] <| .ef 18 <| Plan.sts [19] <| .ef 20 <| Plan.sts [21] <| .ef 22 <| .fin) (.ef 2 <| Plan.sts [13] <| .ef 5 <| .ef 8 <| .ef 12 <| .ef 14 <| Plan.sts [15] <| .ef 16 <| Plan.sts [17] <| .ef 18 <| Plan.sts [19] <| .ef 20 <| Plan.sts [21] <| .ef 22 <| .fin)) (.ef 1 <| .ef 2 <| Plan.sts [13] <| .ef 5 <| .ef 8 <| .ef 12 <| .ef 14 <| Plan.sts [15] <| .ef 16 <| Plan.sts [17] <| .ef 18 <| Plan.sts [19] <| .ef 20 <| Plan.sts [21] <| .ef 22 <| .fin)) rfl kr ⟨.inr (i0.cell 4 rfl rfl), trivial⟩ ?_
  have g4 := i0.drew
  refine qU [0, 3, 6, 7, 9, 10] ?_
  refine qS (I s0.max_) rfl rfl rfl (fun w hF => Y_load rfl (Try.isAgg3 w) kr (hF 0 _ _ rfl)) ?_
  refine qF ?_ ?_
  rotate_left
  ·refine qO rfl ?_
   refine sBS g4 #[I 1, I 3, I 2] Try.runUnderlying22 Try.sizeOf3 Try.zeroValue3 ?_
   intro t9 _ h4
   refine nilO ⟨⟨.inr (h4.cell 5 rfl rfl), trivial⟩, ?_⟩
   refine qO rfl ?_
   refine sBS h4 #[I 1, I 3, I 2, I 5] Try.runUnderlying22 Try.sizeOf3 Try.zeroValue3 ?_
   intro u9 _ i4
   refine nilO ⟨⟨.inr (i4.cell 6 rfl rfl), trivial⟩, ?_⟩
   refine qO rfl ?_
   have j4 := (i4.pick 2 rfl)
   try dsimp only [List.set, List.eraseIdx, Value.cells] at j4
   refine sF #[Pt p 0, .slice (At u9 0) 4 4] Try.call26 (Calls.mono (tape_pick W _ _ _ _ _ o0 _ _ [] (RdT.flat (hR.up 6 (by rfl))) om (Sat.flat1 j4) _ _ _ [1, 3, 2, 5] (RdT.flat (RdT.blk (enc := encI) (sz := 1) (xs := [1, 3, 2, 5]) (fun _ => (by rfl)) 4 0 rfl rfl rfl om)) om om) ?_)
   rintro _ _ ⟨f0, rfl, v9, w9, _, k4⟩
   refine ⟨_, rfl, ?_⟩
   have d2 := Sat.unflat1 k4; clear k4
   try dsimp only [List.set, List.eraseIdx, Value.cells] at d2
   have xc : (f0 : Int) = 1 ∨ (f0 : Int) = 3 ∨ (f0 : Int) = 2 ∨ (f0 : Int) = 5 := by simpa using v9
   refine nilO ⟨⟨.inr (d2.cell 6 rfl rfl), trivial⟩, ?_⟩
   refine qU [13] ?_
   refine qO rfl ?_
   try dsimp only [List.set, List.eraseIdx, Value.cells] at d2
   refine sF #[Pt p 0, .slice (At t9 0) 3 3] Try.call26 (Calls.mono (tape_pick W _ _ _ _ _ w9 _ _ [] (RdT.flat (hR.up 6 (by rfl))) om (Sat.flat1 d2) _ _ _ [1, 3, 2] (RdT.flat (RdT.blk (enc := encI) (sz := 1) (xs := [1, 3, 2]) (fun _ => (by rfl)) 3 1 rfl rfl rfl om)) om om) ?_)
   rintro _ _ ⟨j0, rfl, x9, y9, _, l4⟩
   refine ⟨_, rfl, ?_⟩
   have e2 := Sat.unflat1 l4; clear l4
   try dsimp only [List.set, List.eraseIdx, Value.cells] at e2
   have ad : (j0 : Int) = 1 ∨ (j0 : Int) = 3 ∨ (j0 : Int) = 2 := by simpa using x9
   refine nilO ⟨⟨.inr (e2.cell 6 rfl rfl), trivial⟩, ?_⟩
   refine qO rfl ?_
   try dsimp only [List.set, List.eraseIdx, Value.cells] at e2
   refine sF #[Pt p 0, I 4] Try.call19 (Calls.mono (tape_next W _ _ _ _ _ y9 _ _ [] (RdT.flat (hR.up 6 (by rfl))) om (Sat.flat1 e2) 4 om) ?_)
   rintro _ _ ⟨d1, rfl, _, z9, _, m4⟩
   refine ⟨_, rfl, ?_⟩
   have f2 := Sat.unflat1 m4; clear m4
   try dsimp only [List.set, List.eraseIdx, Value.cells] at f2
   refine nilO ⟨⟨.inr (f2.cell 6 rfl rfl), trivial⟩, ?_⟩
   refine qO rfl ?_
   try dsimp only [List.set, List.eraseIdx, Value.cells] at f2
   refine sF #[Pt p 0, I s0.max_] Try.call42 (Calls.mono (tg_edge W _ _ _ _ _ z9 _ _ [] (RdT.flat (hR.up 6 (by rfl))) om (Sat.flat1 f2) s0.max_ om) ?_)
   rintro _ _ ⟨i1, j1, rfl, aa, ba, _, n4⟩
   refine ⟨_, rfl, ?_⟩
   have o4 := Sat.unflat1 n4; clear n4
   try dsimp only [List.set, List.eraseIdx, Value.cells] at o4
   unfold numB at aa
   refine nilO ⟨dA, ?_⟩
   refine qO rfl ?_
   refine sT1 o4 4 6 (I f0) #[I (1 + c0), I a0, I (-1), .bool ((d0 : Int) == 3), I 0, I 0, I f0, I 0, .slice none 0 0, .slice none 0 0, .slice none 0 0, I 0, I 0, .slice none 0 0, .slice none 0 0, I 0, .slice none 0 0, I 0] Try.sizeOf3 ?_
   intro _ p4
   try dsimp only [List.set, List.eraseIdx, Value.cells] at p4
   refine nilO ⟨dA, ?_⟩
   refine qU [15] ?_
   refine qO rfl ?_
   refine sT1 p4 4 7 (I j0) #[I (1 + c0), I a0, I (-1), .bool ((d0 : Int) == 3), I 0, I 0, I f0, I j0, .slice none 0 0, .slice none 0 0, .slice none 0 0, I 0, I 0, .slice none 0 0, .slice none 0 0, I 0, .slice none 0 0, I 0] Try.sizeOf3 ?_
   intro _ q4
   try dsimp only [List.set, List.eraseIdx, Value.cells] at q4
   refine nilO ⟨dA, ?_⟩
   refine qU [17] ?_
   refine qO rfl ?_
   refine sT1 q4 4 17 (I e0) #[I (1 + c0), I a0, I (-1), .bool ((d0 : Int) == 3), I 0, I 0, I f0, I j0, .slice none 0 0, .slice none 0 0, .slice none 0 0, I 0, I 0, .slice none 0 0, .slice none 0 0, I 0, .slice none 0 0, I e0] Try.sizeOf3 ?_
   intro _ r4
   try dsimp only [List.set, List.eraseIdx, Value.cells] at r4
   refine nilO ⟨dA, ?_⟩
   refine qU [19] ?_
   refine qO rfl ?_
   refine sT1 r4 4 11 (I d1) #[I (1 + c0), I a0, I (-1), .bool ((d0 : Int) == 3), I 0, I 0, I f0, I j0, .slice none 0 0, .slice none 0 0, .slice none 0 0, I d1, I 0, .slice none 0 0, .slice none 0 0, I 0, .slice none 0 0, I e0] Try.sizeOf3 ?_
   intro _ s4
   try dsimp only [List.set, List.eraseIdx, Value.cells] at s4
   refine nilO ⟨dA, ?_⟩
   refine qU [21] ?_
   refine qO rfl ?_
   refine sTA s4 4 4 [I i1, I j1] #[I (1 + c0), I a0, I (-1), .bool ((d0 : Int) == 3), I i1, I j1, I f0, I j0, .slice none 0 0, .slice none 0 0, .slice none 0 0, I d1, I 0, .slice none 0 0, .slice none 0 0, I 0, .slice none 0 0, I e0] Try.sizeOf57 ?_
   intro _ k1
   try dsimp only [List.set, List.eraseIdx, Value.cells] at k1
   refine nilO ⟨dA, ?_⟩
   refine qN ?_
   refine thenK_n ?_
   have hkk := mul_bd (a := f0) (b := j0) (A := 5) (B := 3) om om
   refine regionE <| pu2 ?_
   refine sL k1 4 6 (I f0) (Try.isAgg3 _) ?_
   refine pu1 ?_
   refine sL k1 4 7 (I j0) (Try.isAgg3 _) ?_
   refine sMul f0 j0 ?_
   try dsimp only [List.set, List.eraseIdx, Value.cells] at k1
   refine sF #[Pt p 0, I (f0 * j0)] Try.call43 (Calls.mono (tg_weights W _ _ _ _ _ ba _ _ [] (RdT.flat (hR.up 6 (by rfl))) om (Sat.flat1 k1) (f0 * j0) om) ?_)
   rintro _ _ ⟨g2, h2, i2, ca, t4, rfl, j3, u4, v4, _, w4⟩
   refine ⟨_, rfl, ?_⟩
   have x4 := Sat.unflat2 w4; clear w4
   try dsimp only [List.set, List.eraseIdx, Value.cells] at x4
   have hn_zs_220 := j3.len; have hl_zs_220 := j3.le
   refine pu1 ?_
   refine sT1 x4 5 8 (.slice g2 h2 i2) #[I (1 + c0), I a0, I (-1), .bool ((d0 : Int) == 3), I i1, I j1, I f0, I j0, .slice g2 h2 i2, .slice none 0 0, .slice none 0 0, I d1, I 0, .slice none 0 0, .slice none 0 0, I 0, .slice none 0 0, I e0] Try.sizeOf22 ?_
   intro _ y4
   try dsimp only [List.set, List.eraseIdx, Value.cells] at y4
   refine nB ?_
   have z4 := (((((((((y4.pick 8 rfl).pick 2 rfl).pick 7 rfl).pick 7 rfl).pick 4 rfl).dropAt 5 rfl).dropAt 5 rfl).dropAt 5 rfl).dropAt 5 rfl)
   try dsimp only [List.set, List.eraseIdx, Value.cells] at z4
   have da : Sat W _ ([(p, .cells #[.slice a n k, I v4] 46 (0, 0))] :: [(n0, .cells #[I (1 + c0), I a0, I (-1), .bool ((d0 : Int) == 3), I i1, I j1, I f0, I j0, .slice g2 h2 i2, .slice none 0 0, .slice none 0 0, I d1, I 0, .slice none 0 0, .slice none 0 0, I 0, .slice none 0 0, I e0] 61 (0, 0))] :: [(m0, .cells #[I 0, I 0, I 0, .bool false, I 0, I 0, I 0, I 0, .slice none 0 0, .slice none 0 0, .slice none 0 0, I 0, I 0, .slice none 0 0, .slice none 0 0, I 0, .slice none 0 0, I 0] 61 (0, 0))] :: (t4) :: (H :: F)) := Sat.perm z4 (by simp)
   exact ⟨(⟨(1 + c0), a0, -1, ((d0 : Int) == 3), i1, j1, f0, j0, ⟨g2, h2, i2, ca⟩, ⟨none, 0, 0, []⟩, ⟨none, 0, 0, []⟩, d1, 0, ⟨none, 0, 0, []⟩, ⟨none, 0, 0, []⟩, 0, ⟨none, 0, 0, []⟩, e0⟩ : Stage), (t4), v4, alA, da, om, ⟨j3.of_mem mS, RdT.nil (enc := encI) (sz := 1) fR _, RdT.nil (enc := encI) (sz := 1) fR _, RdT.nil (enc := encTap) (sz := 2) fR _, (fun z hz => by cases hz), RdT.nil (enc := encTap) (sz := 2) fR _, (fun z hz => by cases hz), RdT.nil (enc := encPOp) (sz := 2) fR _⟩, ⟨⟨nb, nb, nb, nb, nb, nb, nb, nb, nb, nb, nb⟩, ⟨by have h := u4.1; dsimp only; omega, u4.2⟩, ⟨by simp, fun z hz => by cases hz⟩, ⟨by simp, fun z hz => by cases hz⟩, ⟨by simp, fun z hz => by cases hz⟩, ⟨by simp, fun z hz => by cases hz⟩, ⟨by simp, fun z hz => by cases hz⟩⟩, ⟨rfl, by first | (left; rfl) | (right; exact ⟨rfl, om⟩)⟩⟩
  refine qO rfl ?_
  refine sBS g4 #[I 1, I 3, I 2, I 5] Try.runUnderlying22 Try.sizeOf3 Try.zeroValue3 ?_
  intro a5 _ k3
  refine nilO ⟨⟨.inr (k3.cell 5 rfl rfl), trivial⟩, ?_⟩
  refine qF ?_ ?_
  ·refine qO rfl ?_
   have b5 := (k3.pick 1 rfl)
   try dsimp only [List.set, List.eraseIdx, Value.cells] at b5
   refine sF #[Pt p 0, .slice (At a5 0) 4 4] Try.call26 (Calls.mono (tape_pick W _ _ _ _ _ o0 _ _ [] (RdT.flat (hR.up 5 (by rfl))) om (Sat.flat1 b5) _ _ _ [1, 3, 2, 5] (RdT.flat (RdT.blk (enc := encI) (sz := 1) (xs := [1, 3, 2, 5]) (fun _ => (by rfl)) 4 0 rfl rfl rfl om)) om om) ?_)
   rintro _ _ ⟨g0, rfl, ea, fa, _, c5⟩
   refine ⟨_, rfl, ?_⟩
   have l3 := Sat.unflat1 c5; clear c5
   try dsimp only [List.set, List.eraseIdx, Value.cells] at l3
   have sd : (g0 : Int) = 1 ∨ (g0 : Int) = 3 ∨ (g0 : Int) = 2 ∨ (g0 : Int) = 5 := by simpa using ea
   refine nilO ⟨⟨.inr (l3.cell 5 rfl rfl), trivial⟩, ?_⟩
   refine qU [13] ?_
   refine qO rfl ?_
   refine sBS l3 #[I 1, I 3, I 2] Try.runUnderlying22 Try.sizeOf3 Try.zeroValue3 ?_
   intro ga _ d5
   refine nilO ⟨⟨.inr (d5.cell 6 rfl rfl), trivial⟩, ?_⟩
   refine qO rfl ?_
   have e5 := (d5.pick 1 rfl)
   try dsimp only [List.set, List.eraseIdx, Value.cells] at e5
   refine sF #[Pt p 0, .slice (At ga 0) 3 3] Try.call26 (Calls.mono (tape_pick W _ _ _ _ _ fa _ _ [] (RdT.flat (hR.up 6 (by rfl))) om (Sat.flat1 e5) _ _ _ [1, 3, 2] (RdT.flat (RdT.blk (enc := encI) (sz := 1) (xs := [1, 3, 2]) (fun _ => (by rfl)) 3 0 rfl rfl rfl om)) om om) ?_)
   rintro _ _ ⟨k0, rfl, ha, ia, _, f5⟩
   refine ⟨_, rfl, ?_⟩
   have j2 := Sat.unflat1 f5; clear f5
   try dsimp only [List.set, List.eraseIdx, Value.cells] at j2
   have wd : (k0 : Int) = 1 ∨ (k0 : Int) = 3 ∨ (k0 : Int) = 2 := by simpa using ha
   refine nilO ⟨⟨.inr (j2.cell 6 rfl rfl), trivial⟩, ?_⟩
   refine qO rfl ?_
   try dsimp only [List.set, List.eraseIdx, Value.cells] at j2
   refine sF #[Pt p 0, I 4] Try.call19 (Calls.mono (tape_next W _ _ _ _ _ ia _ _ [] (RdT.flat (hR.up 6 (by rfl))) om (Sat.flat1 j2) 4 om) ?_)
   rintro _ _ ⟨e1, rfl, _, ja, _, g5⟩
   refine ⟨_, rfl, ?_⟩
   have k2 := Sat.unflat1 g5; clear g5
   try dsimp only [List.set, List.eraseIdx, Value.cells] at k2
   refine nilO ⟨⟨.inr (k2.cell 6 rfl rfl), trivial⟩, ?_⟩
   refine qO rfl ?_
   try dsimp only [List.set, List.eraseIdx, Value.cells] at k2
   refine sF #[Pt p 0, I s0.max_] Try.call42 (Calls.mono (tg_edge W _ _ _ _ _ ja _ _ [] (RdT.flat (hR.up 6 (by rfl))) om (Sat.flat1 k2) s0.max_ om) ?_)
   rintro _ _ ⟨l1, m1, rfl, ka, la, _, h5⟩
   refine ⟨_, rfl, ?_⟩
   have i5 := Sat.unflat1 h5; clear h5
   try dsimp only [List.set, List.eraseIdx, Value.cells] at i5
   unfold numB at ka
   refine nilO ⟨dA, ?_⟩
   refine qO rfl ?_
   refine sT1 i5 4 6 (I g0) #[I (1 + c0), I a0, I (-1), .bool ((d0 : Int) == 3), I 0, I 0, I g0, I 0, .slice none 0 0, .slice none 0 0, .slice none 0 0, I 0, I 0, .slice none 0 0, .slice none 0 0, I 0, .slice none 0 0, I 0] Try.sizeOf3 ?_
   intro _ j5
   try dsimp only [List.set, List.eraseIdx, Value.cells] at j5
   refine nilO ⟨dA, ?_⟩
   refine qU [15] ?_
   refine qO rfl ?_
   refine sT1 j5 4 7 (I k0) #[I (1 + c0), I a0, I (-1), .bool ((d0 : Int) == 3), I 0, I 0, I g0, I k0, .slice none 0 0, .slice none 0 0, .slice none 0 0, I 0, I 0, .slice none 0 0, .slice none 0 0, I 0, .slice none 0 0, I 0] Try.sizeOf3 ?_
   intro _ k5
   try dsimp only [List.set, List.eraseIdx, Value.cells] at k5
   refine nilO ⟨dA, ?_⟩
   refine qU [17] ?_
   refine qO rfl ?_
   refine sT1 k5 4 17 (I e0) #[I (1 + c0), I a0, I (-1), .bool ((d0 : Int) == 3), I 0, I 0, I g0, I k0, .slice none 0 0, .slice none 0 0, .slice none 0 0, I 0, I 0, .slice none 0 0, .slice none 0 0, I 0, .slice none 0 0, I e0] Try.sizeOf3 ?_
   intro _ l5
   try dsimp only [List.set, List.eraseIdx, Value.cells] at l5
   refine nilO ⟨dA, ?_⟩
   refine qU [19] ?_
   refine qO rfl ?_
   refine sT1 l5 4 11 (I e1) #[I (1 + c0), I a0, I (-1), .bool ((d0 : Int) == 3), I 0, I 0, I g0, I k0, .slice none 0 0, .slice none 0 0, .slice none 0 0, I e1, I 0, .slice none 0 0, .slice none 0 0, I 0, .slice none 0 0, I e0] Try.sizeOf3 ?_
   intro _ m5
   try dsimp only [List.set, List.eraseIdx, Value.cells] at m5
   refine nilO ⟨dA, ?_⟩
   refine qU [21] ?_
   refine qO rfl ?_
   refine sTA m5 4 4 [I l1, I m1] #[I (1 + c0), I a0, I (-1), .bool ((d0 : Int) == 3), I l1, I m1, I g0, I k0, .slice none 0 0, .slice none 0 0, .slice none 0 0, I e1, I 0, .slice none 0 0, .slice none 0 0, I 0, .slice none 0 0, I e0] Try.sizeOf57 ?_
   intro _ n1
   try dsimp only [List.set, List.eraseIdx, Value.cells] at n1
   refine nilO ⟨dA, ?_⟩
   refine qN ?_
   refine thenK_n ?_
   have hkk := mul_bd (a := g0) (b := k0) (A := 5) (B := 3) om om
   refine regionE <| pu2 ?_
   refine sL n1 4 6 (I g0) (Try.isAgg3 _) ?_
   refine pu1 ?_
   refine sL n1 4 7 (I k0) (Try.isAgg3 _) ?_
   refine sMul g0 k0 ?_
   try dsimp only [List.set, List.eraseIdx, Value.cells] at n1
   refine sF #[Pt p 0, I (g0 * k0)] Try.call43 (Calls.mono (tg_weights W _ _ _ _ _ la _ _ [] (RdT.flat (hR.up 6 (by rfl))) om (Sat.flat1 n1) (g0 * k0) om) ?_)
   rintro _ _ ⟨l2, m2, n2, ma, n5, rfl, m3, o5, p5, _, q5⟩
   refine ⟨_, rfl, ?_⟩
   have r5 := Sat.unflat2 q5; clear q5
   try dsimp only [List.set, List.eraseIdx, Value.cells] at r5
   have hn_zs_95 := m3.len; have hl_zs_95 := m3.le
   refine pu1 ?_
   refine sT1 r5 5 8 (.slice l2 m2 n2) #[I (1 + c0), I a0, I (-1), .bool ((d0 : Int) == 3), I l1, I m1, I g0, I k0, .slice l2 m2 n2, .slice none 0 0, .slice none 0 0, I e1, I 0, .slice none 0 0, .slice none 0 0, I 0, .slice none 0 0, I e0] Try.sizeOf22 ?_
   intro _ s5
   try dsimp only [List.set, List.eraseIdx, Value.cells] at s5
   refine nB ?_
   have t5 := (((((((((s5.pick 8 rfl).pick 2 rfl).pick 7 rfl).pick 7 rfl).pick 4 rfl).dropAt 5 rfl).dropAt 5 rfl).dropAt 5 rfl).dropAt 5 rfl)
   try dsimp only [List.set, List.eraseIdx, Value.cells] at t5
   have na : Sat W _ ([(p, .cells #[.slice a n k, I p5] 46 (0, 0))] :: [(n0, .cells #[I (1 + c0), I a0, I (-1), .bool ((d0 : Int) == 3), I l1, I m1, I g0, I k0, .slice l2 m2 n2, .slice none 0 0, .slice none 0 0, I e1, I 0, .slice none 0 0, .slice none 0 0, I 0, .slice none 0 0, I e0] 61 (0, 0))] :: [(m0, .cells #[I 0, I 0, I 0, .bool false, I 0, I 0, I 0, I 0, .slice none 0 0, .slice none 0 0, .slice none 0 0, I 0, I 0, .slice none 0 0, .slice none 0 0, I 0, .slice none 0 0, I 0] 61 (0, 0))] :: (n5) :: (H :: F)) := Sat.perm t5 (by simp)
   exact ⟨(⟨(1 + c0), a0, -1, ((d0 : Int) == 3), l1, m1, g0, k0, ⟨l2, m2, n2, ma⟩, ⟨none, 0, 0, []⟩, ⟨none, 0, 0, []⟩, e1, 0, ⟨none, 0, 0, []⟩, ⟨none, 0, 0, []⟩, 0, ⟨none, 0, 0, []⟩, e0⟩ : Stage), (n5), p5, alA, na, om, ⟨m3.of_mem mS, RdT.nil (enc := encI) (sz := 1) fR _, RdT.nil (enc := encI) (sz := 1) fR _, RdT.nil (enc := encTap) (sz := 2) fR _, (fun z hz => by cases hz), RdT.nil (enc := encTap) (sz := 2) fR _, (fun z hz => by cases hz), RdT.nil (enc := encPOp) (sz := 2) fR _⟩, ⟨⟨nb, nb, nb, nb, nb, nb, nb, nb, nb, nb, nb⟩, ⟨by have h := o5.1; dsimp only; omega, o5.2⟩, ⟨by simp, fun z hz => by cases hz⟩, ⟨by simp, fun z hz => by cases hz⟩, ⟨by simp, fun z hz => by cases hz⟩, ⟨by simp, fun z hz => by cases hz⟩, ⟨by simp, fun z hz => by cases hz⟩⟩, ⟨rfl, by first | (left; rfl) | (right; exact ⟨rfl, om⟩)⟩⟩
  refine qO rfl ?_
  refine sBS k3 #[I 1, I 3, I 2] Try.runUnderlying22 Try.sizeOf3 Try.zeroValue3 ?_
  intro oa _ u5
  refine nilO ⟨⟨.inr (u5.cell 6 rfl rfl), trivial⟩, ?_⟩
  refine qO rfl ?_
  have v5 := (u5.pick 2 rfl)
  try dsimp only [List.set, List.eraseIdx, Value.cells] at v5
  refine sF #[Pt p 0, .slice (At a5 0) 4 4] Try.call26 (Calls.mono (tape_pick W _ _ _ _ _ o0 _ _ [] (RdT.flat (hR.up 6 (by rfl))) om (Sat.flat1 v5) _ _ _ [1, 3, 2, 5] (RdT.flat (RdT.blk (enc := encI) (sz := 1) (xs := [1, 3, 2, 5]) (fun _ => (by rfl)) 4 1 rfl rfl rfl om)) om om) ?_)
  rintro _ _ ⟨h0, rfl, pa, qa, _, w5⟩
  refine ⟨_, rfl, ?_⟩
  have o2 := Sat.unflat1 w5; clear w5
  try dsimp only [List.set, List.eraseIdx, Value.cells] at o2
  have oe : (h0 : Int) = 1 ∨ (h0 : Int) = 3 ∨ (h0 : Int) = 2 ∨ (h0 : Int) = 5 := by simpa using pa
  refine nilO ⟨⟨.inr (o2.cell 6 rfl rfl), trivial⟩, ?_⟩
  refine qU [13] ?_
  refine qO rfl ?_
  try dsimp only [List.set, List.eraseIdx, Value.cells] at o2
  refine sF #[Pt p 0, .slice (At oa 0) 3 3] Try.call26 (Calls.mono (tape_pick W _ _ _ _ _ qa _ _ [] (RdT.flat (hR.up 6 (by rfl))) om (Sat.flat1 o2) _ _ _ [1, 3, 2] (RdT.flat (RdT.blk (enc := encI) (sz := 1) (xs := [1, 3, 2]) (fun _ => (by rfl)) 3 0 rfl rfl rfl om)) om om) ?_)
  rintro _ _ ⟨l0, rfl, ra, sa, _, x5⟩
  refine ⟨_, rfl, ?_⟩
  have p2 := Sat.unflat1 x5; clear x5
  try dsimp only [List.set, List.eraseIdx, Value.cells] at p2
  have re : (l0 : Int) = 1 ∨ (l0 : Int) = 3 ∨ (l0 : Int) = 2 := by simpa using ra
  refine nilO ⟨⟨.inr (p2.cell 6 rfl rfl), trivial⟩, ?_⟩
  refine qO rfl ?_
  try dsimp only [List.set, List.eraseIdx, Value.cells] at p2
  refine sF #[Pt p 0, I 4] Try.call19 (Calls.mono (tape_next W _ _ _ _ _ sa _ _ [] (RdT.flat (hR.up 6 (by rfl))) om (Sat.flat1 p2) 4 om) ?_)
  rintro _ _ ⟨f1, rfl, _, ta, _, y5⟩
  refine ⟨_, rfl, ?_⟩
  have q2 := Sat.unflat1 y5; clear y5
  try dsimp only [List.set, List.eraseIdx, Value.cells] at q2
  refine nilO ⟨⟨.inr (q2.cell 6 rfl rfl), trivial⟩, ?_⟩
  refine qO rfl ?_
  try dsimp only [List.set, List.eraseIdx, Value.cells] at q2
  refine sF #[Pt p 0, I s0.max_] Try.call42 (Calls.mono (tg_edge W _ _ _ _ _ ta _ _ [] (RdT.flat (hR.up 6 (by rfl))) om (Sat.flat1 q2) s0.max_ om) ?_)
  rintro _ _ ⟨o1, p1, rfl, ua, va, _, z5⟩
  refine ⟨_, rfl, ?_⟩
  have a6 := Sat.unflat1 z5; clear z5
  try dsimp only [List.set, List.eraseIdx, Value.cells] at a6
  unfold numB at ua
  refine nilO ⟨dA, ?_⟩
  refine qO rfl ?_
  refine sT1 a6 4 6 (I h0) #[I (1 + c0), I a0, I (-1), .bool ((d0 : Int) == 3), I 0, I 0, I h0, I 0, .slice none 0 0, .slice none 0 0, .slice none 0 0, I 0, I 0, .slice none 0 0, .slice none 0 0, I 0, .slice none 0 0, I 0] Try.sizeOf3 ?_
  intro _ b6
  try dsimp only [List.set, List.eraseIdx, Value.cells] at b6
  refine nilO ⟨dA, ?_⟩
  refine qU [15] ?_
  refine qO rfl ?_
  refine sT1 b6 4 7 (I l0) #[I (1 + c0), I a0, I (-1), .bool ((d0 : Int) == 3), I 0, I 0, I h0, I l0, .slice none 0 0, .slice none 0 0, .slice none 0 0, I 0, I 0, .slice none 0 0, .slice none 0 0, I 0, .slice none 0 0, I 0] Try.sizeOf3 ?_
  intro _ c6
  try dsimp only [List.set, List.eraseIdx, Value.cells] at c6
  refine nilO ⟨dA, ?_⟩
  refine qU [17] ?_
  refine qO rfl ?_
  refine sT1 c6 4 17 (I e0) #[I (1 + c0), I a0, I (-1), .bool ((d0 : Int) == 3), I 0, I 0, I h0, I l0, .slice none 0 0, .slice none 0 0, .slice none 0 0, I 0, I 0, .slice none 0 0, .slice none 0 0, I 0, .slice none 0 0, I e0] Try.sizeOf3 ?_
  intro _ d6
  try dsimp only [List.set, List.eraseIdx, Value.cells] at d6
  refine nilO ⟨dA, ?_⟩
  refine qU [19] ?_
  refine qO rfl ?_
  refine sT1 d6 4 11 (I f1) #[I (1 + c0), I a0, I (-1), .bool ((d0 : Int) == 3), I 0, I 0, I h0, I l0, .slice none 0 0, .slice none 0 0, .slice none 0 0, I f1, I 0, .slice none 0 0, .slice none 0 0, I 0, .slice none 0 0, I e0] Try.sizeOf3 ?_
  intro _ e6
  try dsimp only [List.set, List.eraseIdx, Value.cells] at e6
  refine nilO ⟨dA, ?_⟩
  refine qU [21] ?_
  refine qO rfl ?_
  refine sTA e6 4 4 [I o1, I p1] #[I (1 + c0), I a0, I (-1), .bool ((d0 : Int) == 3), I o1, I p1, I h0, I l0, .slice none 0 0, .slice none 0 0, .slice none 0 0, I f1, I 0, .slice none 0 0, .slice none 0 0, I 0, .slice none 0 0, I e0] Try.sizeOf57 ?_
  intro _ q1
  try dsimp only [List.set, List.eraseIdx, Value.cells] at q1
  refine nilO ⟨dA, ?_⟩
  refine qN ?_
  refine thenK_n ?_
  have hkk := mul_bd (a := h0) (b := l0) (A := 5) (B := 3) om om
  refine regionE <| pu2 ?_
  refine sL q1 4 6 (I h0) (Try.isAgg3 _) ?_
  refine pu1 ?_
  refine sL q1 4 7 (I l0) (Try.isAgg3 _) ?_
  refine sMul h0 l0 ?_
  try dsimp only [List.set, List.eraseIdx, Value.cells] at q1
  refine sF #[Pt p 0, I (h0 * l0)] Try.call43 (Calls.mono (tg_weights W _ _ _ _ _ va _ _ [] (RdT.flat (hR.up 6 (by rfl))) om (Sat.flat1 q1) (h0 * l0) om) ?_)
  rintro _ _ ⟨r2, s2, t2, wa, f6, rfl, n3, g6, h6, _, i6⟩
  refine ⟨_, rfl, ?_⟩
  have j6 := Sat.unflat2 i6; clear i6
  try dsimp only [List.set, List.eraseIdx, Value.cells] at j6
  have hn_zs_156 := n3.len; have hl_zs_156 := n3.le
  refine pu1 ?_
  refine sT1 j6 5 8 (.slice r2 s2 t2) #[I (1 + c0), I a0, I (-1), .bool ((d0 : Int) == 3), I o1, I p1, I h0, I l0, .slice r2 s2 t2, .slice none 0 0, .slice none 0 0, I f1, I 0, .slice none 0 0, .slice none 0 0, I 0, .slice none 0 0, I e0] Try.sizeOf22 ?_
  intro _ k6
  try dsimp only [List.set, List.eraseIdx, Value.cells] at k6
  refine nB ?_
  have l6 := (((((((((k6.pick 8 rfl).pick 2 rfl).pick 7 rfl).pick 7 rfl).pick 4 rfl).dropAt 5 rfl).dropAt 5 rfl).dropAt 5 rfl).dropAt 5 rfl)
  try dsimp only [List.set, List.eraseIdx, Value.cells] at l6
  have xa : Sat W _ ([(p, .cells #[.slice a n k, I h6] 46 (0, 0))] :: [(n0, .cells #[I (1 + c0), I a0, I (-1), .bool ((d0 : Int) == 3), I o1, I p1, I h0, I l0, .slice r2 s2 t2, .slice none 0 0, .slice none 0 0, I f1, I 0, .slice none 0 0, .slice none 0 0, I 0, .slice none 0 0, I e0] 61 (0, 0))] :: [(m0, .cells #[I 0, I 0, I 0, .bool false, I 0, I 0, I 0, I 0, .slice none 0 0, .slice none 0 0, .slice none 0 0, I 0, I 0, .slice none 0 0, .slice none 0 0, I 0, .slice none 0 0, I 0] 61 (0, 0))] :: (f6) :: (H :: F)) := Sat.perm l6 (by simp)
  exact ⟨(⟨(1 + c0), a0, -1, ((d0 : Int) == 3), o1, p1, h0, l0, ⟨r2, s2, t2, wa⟩, ⟨none, 0, 0, []⟩, ⟨none, 0, 0, []⟩, f1, 0, ⟨none, 0, 0, []⟩, ⟨none, 0, 0, []⟩, 0, ⟨none, 0, 0, []⟩, e0⟩ : Stage), (f6), h6, alA, xa, om, ⟨n3.of_mem mS, RdT.nil (enc := encI) (sz := 1) fR _, RdT.nil (enc := encI) (sz := 1) fR _, RdT.nil (enc := encTap) (sz := 2) fR _, (fun z hz => by cases hz), RdT.nil (enc := encTap) (sz := 2) fR _, (fun z hz => by cases hz), RdT.nil (enc := encPOp) (sz := 2) fR _⟩, ⟨⟨nb, nb, nb, nb, nb, nb, nb, nb, nb, nb, nb⟩, ⟨by have h := g6.1; dsimp only; omega, g6.2⟩, ⟨by simp, fun z hz => by cases hz⟩, ⟨by simp, fun z hz => by cases hz⟩, ⟨by simp, fun z hz => by cases hz⟩, ⟨by simp, fun z hz => by cases hz⟩, ⟨by simp, fun z hz => by cases hz⟩⟩, ⟨rfl, by first | (left; rfl) | (right; exact ⟨rfl, om⟩)⟩⟩
 refine cF _ (beq_eq_false_iff_ne.2 f4) ?_
 refine sR <| pu2 <| nT ?_
 by_cases m6 : ((1 + c0) : Int) = 2
 ·refine cT _ (beq_iff_eq.2 m6) ?_
  refine drawE [2, 4, 7, 9, 12, 14, 18, 20, 22, 24, 26, 28, 30] [(17, ⟨h1, 2, none⟩, I s0.max_)] [(true, [0, 1, 5, 6, 10, 11, 13, 15, 16]), (true, [17]), (false, [2]), (true, [3]), (false, [4]), (true, [19]), (false, [7]), (true, [8]), (false, [9]), (false, [12]), (false, [14]), (false, [18]), (false, [20]), (true, [21]), (false, [22]), (true, [23]), (false, [24]), (true, [25]), (false, [26]), (true, [27]), (false, [28]), (true, [29]), (false, [30])] rfl kr ⟨.inr (i0.cell 4 rfl rfl), trivial⟩ ?_
  have n6 := i0.drew
  refine wU [0, 1, 5, 6, 10, 11, 13, 15, 16] ?_
  refine wS (I s0.max_) rfl rfl rfl (fun w hF => Y_load rfl (Try.isAgg3 w) kr (hF 0 _ _ rfl)) ?_
  refine wO rfl ?_
  try dsimp only [List.set, List.eraseIdx, Value.cells] at n6
  refine sF #[Pt p 0, I 4] Try.call19 (Calls.mono (tape_next W _ _ _ _ _ o0 _ _ [] (RdT.flat (hR.up 4 (by rfl))) om (Sat.flat1 n6) 4 om) ?_)
  rintro _ _ ⟨u2, rfl, _, ya, _, o6⟩
  refine ⟨_, rfl, ?_⟩
  have v2 := Sat.unflat1 o6; clear o6
  try dsimp only [List.set, List.eraseIdx, Value.cells] at v2
  refine nilO ⟨⟨.inr (v2.cell 4 rfl rfl), trivial⟩, ?_⟩
  refine wS (I (1 + u2)) rfl rfl rfl (fun w _ => Y_add (a := 1) (b := u2) rfl kr kr om) ?_
  refine wO rfl ?_
  try dsimp only [List.set, List.eraseIdx, Value.cells] at v2
  refine sF #[Pt p 0, I (1 + u2)] Try.call43 (Calls.mono (tg_weights W _ _ _ _ _ ya _ _ [] (RdT.flat (hR.up 4 (by rfl))) om (Sat.flat1 v2) (1 + u2) om) ?_)
  rintro _ _ ⟨p0, q0, r0, za, p6, rfl, o3, q6, ab, _, r6⟩
  refine ⟨_, rfl, ?_⟩
  have w2 := Sat.unflat2 r6; clear r6
  try dsimp only [List.set, List.eraseIdx, Value.cells] at w2
  have hn_zs_245 := o3.len; have hl_zs_245 := o3.le
  refine nilO ⟨⟨.inr (w2.cell 5 rfl rfl), trivial⟩, ?_⟩
  refine wU [19] ?_
  refine wO rfl ?_
  try dsimp only [List.set, List.eraseIdx, Value.cells] at w2
  refine sF #[Pt p 0, I 4] Try.call19 (Calls.mono (tape_next W _ _ _ _ _ ab _ _ [] (RdT.flat (hR.up 5 (by rfl))) om (Sat.flat1 w2) 4 om) ?_)
  rintro _ _ ⟨x2, rfl, _, bb, _, s6⟩
  refine ⟨_, rfl, ?_⟩
  have y2 := Sat.unflat1 s6; clear s6
  try dsimp only [List.set, List.eraseIdx, Value.cells] at y2
  refine nilO ⟨⟨.inr (y2.cell 5 rfl rfl), trivial⟩, ?_⟩
  refine wS (I (1 + x2)) rfl rfl rfl (fun w _ => Y_add (a := 1) (b := x2) rfl kr kr om) ?_
  refine wO rfl ?_
  try dsimp only [List.set, List.eraseIdx, Value.cells] at y2
  refine sF #[Pt p 0, I (1 + x2)] Try.call43 (Calls.mono (tg_weights W _ _ _ _ _ bb _ _ [] (RdT.flat (hR.up 5 (by rfl))) om (Sat.flat1 y2) (1 + x2) om) ?_)
  rintro _ _ ⟨w0, x0, y0, cb, t6, rfl, p3, u6, db, _, v6⟩
  refine ⟨_, rfl, ?_⟩
  have z2 := Sat.unflat2 v6; clear v6
  try dsimp only [List.set, List.eraseIdx, Value.cells] at z2
  have hn_zs_264 := p3.len; have hl_zs_264 := p3.le
  refine nilO ⟨⟨.inr (z2.cell 6 rfl rfl), trivial⟩, ?_⟩
  refine wO rfl ?_
  try dsimp only [List.set, List.eraseIdx, Value.cells] at z2
  refine sF #[Pt p 0, I 3] Try.call19 (Calls.mono (tape_next W _ _ _ _ _ db _ _ [] (RdT.flat (hR.up 6 (by rfl))) om (Sat.flat1 z2) 3 om) ?_)
  rintro _ _ ⟨g1, rfl, _, eb, _, w6⟩
  refine ⟨_, rfl, ?_⟩
  have a3 := Sat.unflat1 w6; clear w6
  try dsimp only [List.set, List.eraseIdx, Value.cells] at a3
  refine nilO ⟨⟨.inr (a3.cell 6 rfl rfl), trivial⟩, ?_⟩
  refine wO rfl ?_
  try dsimp only [List.set, List.eraseIdx, Value.cells] at a3
  refine sF #[Pt p 0, I 4] Try.call19 (Calls.mono (tape_next W _ _ _ _ _ eb _ _ [] (RdT.flat (hR.up 6 (by rfl))) om (Sat.flat1 a3) 4 om) ?_)
  rintro _ _ ⟨r1, rfl, _, fb, _, x6⟩
  refine ⟨_, rfl, ?_⟩
  have b3 := Sat.unflat1 x6; clear x6
  try dsimp only [List.set, List.eraseIdx, Value.cells] at b3
  refine nilO ⟨⟨.inr (b3.cell 6 rfl rfl), trivial⟩, ?_⟩
  refine wO rfl ?_
  try dsimp only [List.set, List.eraseIdx, Value.cells] at b3
  refine sF #[Pt p 0, I s0.max_] Try.call42 (Calls.mono (tg_edge W _ _ _ _ _ fb _ _ [] (RdT.flat (hR.up 6 (by rfl))) om (Sat.flat1 b3) s0.max_ om) ?_)
  rintro _ _ ⟨c3, d3, rfl, gb, y6, _, z6⟩
  refine ⟨_, rfl, ?_⟩
  have a7 := Sat.unflat1 z6; clear z6
  try dsimp only [List.set, List.eraseIdx, Value.cells] at a7
  unfold numB at gb
  refine nilO ⟨dA, ?_⟩
  refine wO rfl ?_
  refine sT1 a7 4 9 (.slice p0 q0 r0) #[I (1 + c0), I a0, I (-1), .bool ((d0 : Int) == 3), I 0, I 0, I 0, I 0, .slice none 0 0, .slice p0 q0 r0, .slice none 0 0, I 0, I 0, .slice none 0 0, .slice none 0 0, I 0, .slice none 0 0, I 0] Try.sizeOf22 ?_
  intro _ b7
  try dsimp only [List.set, List.eraseIdx, Value.cells] at b7
  refine nilO ⟨dA, ?_⟩
  refine wU [21] ?_
  refine wO rfl ?_
  refine sT1 b7 4 10 (.slice w0 x0 y0) #[I (1 + c0), I a0, I (-1), .bool ((d0 : Int) == 3), I 0, I 0, I 0, I 0, .slice none 0 0, .slice p0 q0 r0, .slice w0 x0 y0, I 0, I 0, .slice none 0 0, .slice none 0 0, I 0, .slice none 0 0, I 0] Try.sizeOf22 ?_
  intro _ c7
  try dsimp only [List.set, List.eraseIdx, Value.cells] at c7
  refine nilO ⟨dA, ?_⟩
  refine wU [23] ?_
  refine wO rfl ?_
  refine sT1 c7 4 17 (I e0) #[I (1 + c0), I a0, I (-1), .bool ((d0 : Int) == 3), I 0, I 0, I 0, I 0, .slice none 0 0, .slice p0 q0 r0, .slice w0 x0 y0, I 0, I 0, .slice none 0 0, .slice none 0 0, I 0, .slice none 0 0, I e0] Try.sizeOf3 ?_
  intro _ d7
  try dsimp only [List.set, List.eraseIdx, Value.cells] at d7
  refine nilO ⟨dA, ?_⟩
  refine wU [25] ?_
  refine wO rfl ?_
  refine sT1 d7 4 11 (I g1) #[I (1 + c0), I a0, I (-1), .bool ((d0 : Int) == 3), I 0, I 0, I 0, I 0, .slice none 0 0, .slice p0 q0 r0, .slice w0 x0 y0, I g1, I 0, .slice none 0 0, .slice none 0 0, I 0, .slice none 0 0, I e0] Try.sizeOf3 ?_
  intro _ e7
  try dsimp only [List.set, List.eraseIdx, Value.cells] at e7
  refine nilO ⟨dA, ?_⟩
  refine wU [27] ?_
  refine wO rfl ?_
  refine sT1 e7 4 12 (I r1) #[I (1 + c0), I a0, I (-1), .bool ((d0 : Int) == 3), I 0, I 0, I 0, I 0, .slice none 0 0, .slice p0 q0 r0, .slice w0 x0 y0, I g1, I r1, .slice none 0 0, .slice none 0 0, I 0, .slice none 0 0, I e0] Try.sizeOf3 ?_
  intro _ f7
  try dsimp only [List.set, List.eraseIdx, Value.cells] at f7
  refine nilO ⟨dA, ?_⟩
  refine wU [29] ?_
  refine wO rfl ?_
  refine sTA f7 4 4 [I c3, I d3] #[I (1 + c0), I a0, I (-1), .bool ((d0 : Int) == 3), I c3, I d3, I 0, I 0, .slice none 0 0, .slice p0 q0 r0, .slice w0 x0 y0, I g1, I r1, .slice none 0 0, .slice none 0 0, I 0, .slice none 0 0, I e0] Try.sizeOf57 ?_
  intro _ g7
  try dsimp only [List.set, List.eraseIdx, Value.cells] at g7
  refine nilO ⟨dA, ?_⟩
  refine wN ?_
  refine blockK_n <| thenK_n ?_
  have h7 := ((((((((g7.pick 7 rfl).pick 2 rfl).pick 3 rfl).pick 6 rfl).pick 6 rfl).pick 5 rfl).dropAt 6 rfl).dropAt 6 rfl)
  try dsimp only [List.set, List.eraseIdx, Value.cells] at h7
  have hb : Sat W _ ([(p, .cells #[.slice a n k, I y6] 46 (0, 0))] :: [(n0, .cells #[I (1 + c0), I a0, I (-1), .bool ((d0 : Int) == 3), I c3, I d3, I 0, I 0, .slice none 0 0, .slice p0 q0 r0, .slice w0 x0 y0, I g1, I r1, .slice none 0 0, .slice none 0 0, I 0, .slice none 0 0, I e0] 61 (0, 0))] :: [(m0, .cells #[I 0, I 0, I 0, .bool false, I 0, I 0, I 0, I 0, .slice none 0 0, .slice none 0 0, .slice none 0 0, I 0, I 0, .slice none 0 0, .slice none 0 0, I 0, .slice none 0 0, I 0] 61 (0, 0))] :: (p6 ++ t6) :: (H :: F)) := Sat.perm h7 (by simp)
  exact ⟨(⟨(1 + c0), a0, -1, ((d0 : Int) == 3), c3, d3, 0, 0, ⟨none, 0, 0, []⟩, ⟨p0, q0, r0, za⟩, ⟨w0, x0, y0, cb⟩, g1, r1, ⟨none, 0, 0, []⟩, ⟨none, 0, 0, []⟩, 0, ⟨none, 0, 0, []⟩, e0⟩ : Stage), (p6 ++ t6), y6, alA, hb, om, ⟨RdT.nil (enc := encI) (sz := 1) fR _, o3.of_mem mS, p3.of_mem mS, RdT.nil (enc := encTap) (sz := 2) fR _, (fun z hz => by cases hz), RdT.nil (enc := encTap) (sz := 2) fR _, (fun z hz => by cases hz), RdT.nil (enc := encPOp) (sz := 2) fR _⟩, ⟨⟨nb, nb, nb, nb, nb, nb, nb, nb, nb, nb, nb⟩, ⟨by simp, fun z hz => by cases hz⟩, ⟨by have h := q6.1; dsimp only; omega, q6.2⟩, ⟨by have h := u6.1; dsimp only; omega, u6.2⟩, ⟨by simp, fun z hz => by cases hz⟩, ⟨by simp, fun z hz => by cases hz⟩, ⟨by simp, fun z hz => by cases hz⟩⟩, ⟨rfl, by first | (left; rfl) | (right; exact ⟨rfl, om⟩)⟩⟩
 refine cF _ (beq_eq_false_iff_ne.2 m6) ?_
 refine sR <| pu2 <| nT ?_
 by_cases i7 : ((1 + c0) : Int) = 3
 ·refine cT _ (beq_iff_eq.2 i7) ?_
  refine drawE [3, 7, 12, 14, 16, 18, 20, 22, 24] [(2, ⟨h1, 0, none⟩, I s0.w), (6, ⟨h1, 1, none⟩, I s0.h), (11, ⟨h1, 2, none⟩, I s0.max_)] [(true, [0, 1, 4, 5, 8, 9, 10]), (true, [2]), (true, [6]), (true, [11]), (false, [3]), (true, [13]), (false, [7]), (false, [12]), (false, [14]), (true, [15]), (false, [16]), (true, [17]), (false, [18]), (true, [19]), (false, [20]), (true, [21]), (false, [22]), (true, [23]), (false, [24])] rfl kr ⟨.inr (i0.cell 4 rfl rfl), .inr (i0.cell 4 rfl rfl), .inr (i0.cell 4 rfl rfl), trivial⟩ ?_
  have j7 := i0.drew
  refine wU [0, 1, 4, 5, 8, 9, 10] ?_
  refine wS (I s0.w) rfl rfl rfl (fun w hF => Y_load rfl (Try.isAgg3 w) kr (hF 0 _ _ rfl)) ?_
  refine wS (I s0.h) rfl rfl rfl (fun w hF => Y_load rfl (Try.isAgg3 w) kr (hF 1 _ _ rfl)) ?_
  refine wS (I s0.max_) rfl rfl rfl (fun w hF => Y_load rfl (Try.isAgg3 w) kr (hF 2 _ _ rfl)) ?_
  refine wO rfl ?_
  try dsimp only [List.set, List.eraseIdx, Value.cells] at j7
  refine sF #[Pt p 0, I s0.w] Try.call44 (Calls.mono (tg_table W _ _ _ _ _ o0 _ _ [] (RdT.flat (hR.up 4 (by rfl))) om (Sat.flat1 j7) s0.w om) ?_)
  rintro _ _ ⟨t0, u0, v0, ib, k7, rfl, q3, jb, l7, kb, _, m7⟩
  refine ⟨_, rfl, ?_⟩
  have s1 := Sat.unflat2 m7; clear m7
  try dsimp only [List.set, List.eraseIdx, Value.cells] at s1
  have hn_zs_314 := q3.len; have hl_zs_314 := q3.le
  refine nilO ⟨⟨dI, .inr (s1.cell 5 rfl rfl), .inr (s1.cell 5 rfl rfl), trivial⟩, ?_⟩
  refine wU [13] ?_
  refine wO rfl ?_
  try dsimp only [List.set, List.eraseIdx, Value.cells] at s1
  refine sF #[Pt p 0, I s0.h] Try.call44 (Calls.mono (tg_table W _ _ _ _ _ kb _ _ [] (RdT.flat (hR.up 5 (by rfl))) om (Sat.flat1 s1) s0.h om) ?_)
  rintro _ _ ⟨z0, a1, b1, lb, n7, rfl, r3, mb, o7, ob, _, p7⟩
  refine ⟨_, rfl, ?_⟩
  have e3 := Sat.unflat2 p7; clear p7
  try dsimp only [List.set, List.eraseIdx, Value.cells] at e3
  have hn_zs_327 := r3.len; have hl_zs_327 := r3.le
  refine nilO ⟨⟨dI, dI, .inr (e3.cell 6 rfl rfl), trivial⟩, ?_⟩
  refine wO rfl ?_
  try dsimp only [List.set, List.eraseIdx, Value.cells] at e3
  refine sF #[Pt p 0, I s0.max_] Try.call42 (Calls.mono (tg_edge W _ _ _ _ _ ob _ _ [] (RdT.flat (hR.up 6 (by rfl))) om (Sat.flat1 e3) s0.max_ om) ?_)
  rintro _ _ ⟨f3, g3, rfl, pb, q7, _, r7⟩
  refine ⟨_, rfl, ?_⟩
  have s7 := Sat.unflat1 r7; clear r7
  try dsimp only [List.set, List.eraseIdx, Value.cells] at s7
  unfold numB at pb
  refine nilO ⟨dA, ?_⟩
  refine wO rfl ?_
  refine sT1 s7 4 13 (.slice t0 u0 v0) #[I (1 + c0), I a0, I (-1), .bool ((d0 : Int) == 3), I 0, I 0, I 0, I 0, .slice none 0 0, .slice none 0 0, .slice none 0 0, I 0, I 0, .slice t0 u0 v0, .slice none 0 0, I 0, .slice none 0 0, I 0] Try.sizeOf58 ?_
  intro _ t7
  try dsimp only [List.set, List.eraseIdx, Value.cells] at t7
  refine nilO ⟨dA, ?_⟩
  refine wU [15] ?_
  refine wO rfl ?_
  refine sT1 t7 4 14 (.slice z0 a1 b1) #[I (1 + c0), I a0, I (-1), .bool ((d0 : Int) == 3), I 0, I 0, I 0, I 0, .slice none 0 0, .slice none 0 0, .slice none 0 0, I 0, I 0, .slice t0 u0 v0, .slice z0 a1 b1, I 0, .slice none 0 0, I 0] Try.sizeOf58 ?_
  intro _ u7
  try dsimp only [List.set, List.eraseIdx, Value.cells] at u7
  refine nilO ⟨dA, ?_⟩
  refine wU [17] ?_
  refine wO rfl ?_
  refine sT1 u7 4 17 (I e0) #[I (1 + c0), I a0, I (-1), .bool ((d0 : Int) == 3), I 0, I 0, I 0, I 0, .slice none 0 0, .slice none 0 0, .slice none 0 0, I 0, I 0, .slice t0 u0 v0, .slice z0 a1 b1, I 0, .slice none 0 0, I e0] Try.sizeOf3 ?_
  intro _ v7
  try dsimp only [List.set, List.eraseIdx, Value.cells] at v7
  refine nilO ⟨dA, ?_⟩
  refine wU [19] ?_
  refine wO rfl ?_
  refine sT1 v7 4 11 (I 8) #[I (1 + c0), I a0, I (-1), .bool ((d0 : Int) == 3), I 0, I 0, I 0, I 0, .slice none 0 0, .slice none 0 0, .slice none 0 0, I 8, I 0, .slice t0 u0 v0, .slice z0 a1 b1, I 0, .slice none 0 0, I e0] Try.sizeOf3 ?_
  intro _ w7
  try dsimp only [List.set, List.eraseIdx, Value.cells] at w7
  refine nilO ⟨dA, ?_⟩
  refine wU [21] ?_
  refine wO rfl ?_
  refine sT1 w7 4 12 (I 8) #[I (1 + c0), I a0, I (-1), .bool ((d0 : Int) == 3), I 0, I 0, I 0, I 0, .slice none 0 0, .slice none 0 0, .slice none 0 0, I 8, I 8, .slice t0 u0 v0, .slice z0 a1 b1, I 0, .slice none 0 0, I e0] Try.sizeOf3 ?_
  intro _ x7
  try dsimp only [List.set, List.eraseIdx, Value.cells] at x7
  refine nilO ⟨dA, ?_⟩
  refine wU [23] ?_
  refine wO rfl ?_
  refine sTA x7 4 4 [I f3, I g3] #[I (1 + c0), I a0, I (-1), .bool ((d0 : Int) == 3), I f3, I g3, I 0, I 0, .slice none 0 0, .slice none 0 0, .slice none 0 0, I 8, I 8, .slice t0 u0 v0, .slice z0 a1 b1, I 0, .slice none 0 0, I e0] Try.sizeOf57 ?_
  intro _ y7
  try dsimp only [List.set, List.eraseIdx, Value.cells] at y7
  refine nilO ⟨dA, ?_⟩
  refine wN ?_
  refine blockK_n <| thenK_n ?_
  have z7 := ((((((((y7.pick 7 rfl).pick 2 rfl).pick 3 rfl).pick 6 rfl).pick 6 rfl).pick 5 rfl).dropAt 6 rfl).dropAt 6 rfl)
  try dsimp only [List.set, List.eraseIdx, Value.cells] at z7
  have qb : Sat W _ ([(p, .cells #[.slice a n k, I q7] 46 (0, 0))] :: [(n0, .cells #[I (1 + c0), I a0, I (-1), .bool ((d0 : Int) == 3), I f3, I g3, I 0, I 0, .slice none 0 0, .slice none 0 0, .slice none 0 0, I 8, I 8, .slice t0 u0 v0, .slice z0 a1 b1, I 0, .slice none 0 0, I e0] 61 (0, 0))] :: [(m0, .cells #[I 0, I 0, I 0, .bool false, I 0, I 0, I 0, I 0, .slice none 0 0, .slice none 0 0, .slice none 0 0, I 0, I 0, .slice none 0 0, .slice none 0 0, I 0, .slice none 0 0, I 0] 61 (0, 0))] :: (k7 ++ n7) :: (H :: F)) := Sat.perm z7 (by simp)
  exact ⟨(⟨(1 + c0), a0, -1, ((d0 : Int) == 3), f3, g3, 0, 0, ⟨none, 0, 0, []⟩, ⟨none, 0, 0, []⟩, ⟨none, 0, 0, []⟩, 8, 8, ⟨t0, u0, v0, ib⟩, ⟨z0, a1, b1, lb⟩, 0, ⟨none, 0, 0, []⟩, e0⟩ : Stage), (k7 ++ n7), q7, alA, qb, om, ⟨RdT.nil (enc := encI) (sz := 1) fR _, RdT.nil (enc := encI) (sz := 1) fR _, RdT.nil (enc := encI) (sz := 1) fR _, q3.of_mem mS, (fun z hz => (jb z hz).of_mem mS), r3.of_mem mS, (fun z hz => (mb z hz).of_mem mS), RdT.nil (enc := encPOp) (sz := 2) fR _⟩, ⟨⟨nb, nb, nb, nb, nb, nb, nb, nb, nb, nb, nb⟩, ⟨by simp, fun z hz => by cases hz⟩, ⟨by simp, fun z hz => by cases hz⟩, ⟨by simp, fun z hz => by cases hz⟩, ⟨by have h := l7.1; dsimp only; omega, l7.2⟩, ⟨by have h := o7.1; dsimp only; omega, o7.2⟩, ⟨by simp, fun z hz => by cases hz⟩⟩, ⟨rfl, by first | (left; rfl) | (right; exact ⟨rfl, om⟩)⟩⟩
 refine cF _ (beq_eq_false_iff_ne.2 i7) ?_
 refine sR <| pu2 <| nT ?_
 by_cases a8 : ((1 + c0) : Int) = 4
 ·refine cT _ (beq_iff_eq.2 a8) ?_
  refine regionE <| pu1 ?_
  refine sBS i0 #[I 4, I 1, I 7] Try.runUnderlying22 Try.sizeOf3 Try.zeroValue3 ?_
  intro rb _ sb
  have b8 := (sb.pick 1 rfl)
  try dsimp only [List.set, List.eraseIdx, Value.cells] at b8
  refine sF #[Pt p 0, .slice (At rb 0) 3 3] Try.call26 (Calls.mono (tape_pick W _ _ _ _ _ o0 _ _ [] (RdT.flat (hR.up 5 (by rfl))) om (Sat.flat1 b8) _ _ _ [4, 1, 7] (RdT.flat (RdT.blk (enc := encI) (sz := 1) (xs := [4, 1, 7]) (fun _ => (by rfl)) 3 0 rfl rfl rfl om)) om om) ?_)
  rintro _ _ ⟨c1, rfl, tb, c8, _, d8⟩
  refine ⟨_, rfl, ?_⟩
  have e8 := Sat.unflat1 d8; clear d8
  try dsimp only [List.set, List.eraseIdx, Value.cells] at e8
  have vg : (c1 : Int) = 4 ∨ (c1 : Int) = 1 ∨ (c1 : Int) = 7 := by simpa using tb
  refine pu1 ?_
  refine sT1 e8 3 15 (I c1) #[I (1 + c0), I a0, I (-1), .bool ((d0 : Int) == 3), I 0, I 0, I 0, I 0, .slice none 0 0, .slice none 0 0, .slice none 0 0, I 0, I 0, .slice none 0 0, .slice none 0 0, I c1, .slice none 0 0, I 0] Try.sizeOf3 ?_
  intro _ f8
  try dsimp only [List.set, List.eraseIdx, Value.cells] at f8
  refine nB ?_
  have g8 := (((((((f8.pick 6 rfl).pick 5 rfl).pick 5 rfl).pick 3 rfl).dropAt 4 rfl).dropAt 4 rfl).dropAt 4 rfl)
  try dsimp only [List.set, List.eraseIdx, Value.cells] at g8
  have ub : Sat W _ ([(p, .cells #[.slice a n k, I c8] 46 (0, 0))] :: [(n0, .cells #[I (1 + c0), I a0, I (-1), .bool ((d0 : Int) == 3), I 0, I 0, I 0, I 0, .slice none 0 0, .slice none 0 0, .slice none 0 0, I 0, I 0, .slice none 0 0, .slice none 0 0, I c1, .slice none 0 0, I 0] 61 (0, 0))] :: [(m0, .cells #[I 0, I 0, I 0, .bool false, I 0, I 0, I 0, I 0, .slice none 0 0, .slice none 0 0, .slice none 0 0, I 0, I 0, .slice none 0 0, .slice none 0 0, I 0, .slice none 0 0, I 0] 61 (0, 0))] :: [] :: (H :: F)) := Sat.perm g8 (by simp)
  exact ⟨(⟨(1 + c0), a0, -1, ((d0 : Int) == 3), 0, 0, 0, 0, ⟨none, 0, 0, []⟩, ⟨none, 0, 0, []⟩, ⟨none, 0, 0, []⟩, 0, 0, ⟨none, 0, 0, []⟩, ⟨none, 0, 0, []⟩, c1, ⟨none, 0, 0, []⟩, 0⟩ : Stage), [], c8, alA, ub, om, ⟨RdT.nil (enc := encI) (sz := 1) fR _, RdT.nil (enc := encI) (sz := 1) fR _, RdT.nil (enc := encI) (sz := 1) fR _, RdT.nil (enc := encTap) (sz := 2) fR _, (fun z hz => by cases hz), RdT.nil (enc := encTap) (sz := 2) fR _, (fun z hz => by cases hz), RdT.nil (enc := encPOp) (sz := 2) fR _⟩, ⟨⟨nb, nb, nb, nb, nb, nb, nb, nb, nb, nb, nb⟩, ⟨by simp, fun z hz => by cases hz⟩, ⟨by simp, fun z hz => by cases hz⟩, ⟨by simp, fun z hz => by cases hz⟩, ⟨by simp, fun z hz => by cases hz⟩, ⟨by simp, fun z hz => by cases hz⟩, ⟨by simp, fun z hz => by cases hz⟩⟩, ⟨rfl, by first | (left; rfl) | (right; exact ⟨rfl, om⟩)⟩⟩
 refine cF _ (beq_eq_false_iff_ne.2 a8) ?_
 refine sR <| pu2 <| nT ?_
 by_cases h8 : ((1 + c0) : Int) = 6
 rotate_left
 ·refine cF _ (beq_eq_false_iff_ne.2 h8) ?_
  refine skipE <| blockK_n <| thenK_n ?_
  have i8 := ((((((i0.pick 5 rfl).pick 4 rfl).pick 4 rfl).pick 3 rfl).dropAt 4 rfl).dropAt 4 rfl)
  try dsimp only [List.set, List.eraseIdx, Value.cells] at i8
  have vb : Sat W _ ([(p, .cells #[.slice a n k, I o0] 46 (0, 0))] :: [(n0, .cells #[I (1 + c0), I a0, I (-1), .bool ((d0 : Int) == 3), I 0, I 0, I 0, I 0, .slice none 0 0, .slice none 0 0, .slice none 0 0, I 0, I 0, .slice none 0 0, .slice none 0 0, I 0, .slice none 0 0, I 0] 61 (0, 0))] :: [(m0, .cells #[I 0, I 0, I 0, .bool false, I 0, I 0, I 0, I 0, .slice none 0 0, .slice none 0 0, .slice none 0 0, I 0, I 0, .slice none 0 0, .slice none 0 0, I 0, .slice none 0 0, I 0] 61 (0, 0))] :: [] :: (H :: F)) := Sat.perm i8 (by simp)
  exact ⟨(⟨(1 + c0), a0, -1, ((d0 : Int) == 3), 0, 0, 0, 0, ⟨none, 0, 0, []⟩, ⟨none, 0, 0, []⟩, ⟨none, 0, 0, []⟩, 0, 0, ⟨none, 0, 0, []⟩, ⟨none, 0, 0, []⟩, 0, ⟨none, 0, 0, []⟩, 0⟩ : Stage), [], o0, alA, vb, om, ⟨RdT.nil (enc := encI) (sz := 1) fR _, RdT.nil (enc := encI) (sz := 1) fR _, RdT.nil (enc := encI) (sz := 1) fR _, RdT.nil (enc := encTap) (sz := 2) fR _, (fun z hz => by cases hz), RdT.nil (enc := encTap) (sz := 2) fR _, (fun z hz => by cases hz), RdT.nil (enc := encPOp) (sz := 2) fR _⟩, ⟨⟨nb, nb, nb, nb, nb, nb, nb, nb, nb, nb, nb⟩, ⟨by simp, fun z hz => by cases hz⟩, ⟨by simp, fun z hz => by cases hz⟩, ⟨by simp, fun z hz => by cases hz⟩, ⟨by simp, fun z hz => by cases hz⟩, ⟨by simp, fun z hz => by cases hz⟩, ⟨by simp, fun z hz => by cases hz⟩⟩, ⟨rfl, by first | (left; rfl) | (right; exact ⟨rfl, om⟩)⟩⟩
 refine cT _ (beq_iff_eq.2 h8) ?_
 refine seqE <| sR <| pu3 ?_
 by_cases j8 : (b0 : Int) ≥ 0
 rotate_left
 ·refine sFix 110 _ false (decide_eq_false j8) ?_
  refine pu4 <| nT <| cFf <| kT <| regionE <| pu2 ?_
  refine sL i0 2 2 (I (-1)) (Try.isAgg3 _) ?_
  refine pu1 ?_
  try dsimp only [List.set, List.eraseIdx, Value.cells] at i0
  refine sF #[Pt p 0, .bool false] Try.call45 (Calls.mono (tg_ops W _ _ _ _ _ o0 _ _ [] (RdT.flat (hR.up 4 (by rfl))) om (Sat.flat1 i0) false) ?_)
  rintro _ _ ⟨t1, u1, v1, wb, k8, rfl, s3, l8, m8, _, n8⟩
  refine ⟨_, rfl, ?_⟩
  have o8 := Sat.unflat2 n8; clear n8
  try dsimp only [List.set, List.eraseIdx, Value.cells] at o8
  have hn_zs_427 := s3.len; have hl_zs_427 := s3.le
  refine pu2 ?_
  refine sT1 o8 3 16 (.slice t1 u1 v1) #[I (1 + c0), I a0, I (-1), .bool ((d0 : Int) == 3), I 0, I 0, I 0, I 0, .slice none 0 0, .slice none 0 0, .slice none 0 0, I 0, I 0, .slice none 0 0, .slice none 0 0, I 0, .slice t1 u1 v1, I 0] Try.sizeOf59 ?_
  intro _ p8
  try dsimp only [List.set, List.eraseIdx, Value.cells] at p8
  refine pu1 ?_
  refine sT1 p8 3 17 (I e0) #[I (1 + c0), I a0, I (-1), .bool ((d0 : Int) == 3), I 0, I 0, I 0, I 0, .slice none 0 0, .slice none 0 0, .slice none 0 0, I 0, I 0, .slice none 0 0, .slice none 0 0, I 0, .slice t1 u1 v1, I e0] Try.sizeOf3 ?_
  intro _ q8
  try dsimp only [List.set, List.eraseIdx, Value.cells] at q8
  refine nB ?_
  have r8 := (((((((q8.pick 6 rfl).pick 2 rfl).pick 5 rfl).pick 5 rfl).pick 4 rfl).dropAt 5 rfl).dropAt 5 rfl)
  try dsimp only [List.set, List.eraseIdx, Value.cells] at r8
  have xb : Sat W _ ([(p, .cells #[.slice a n k, I m8] 46 (0, 0))] :: [(n0, .cells #[I (1 + c0), I a0, I (-1), .bool ((d0 : Int) == 3), I 0, I 0, I 0, I 0, .slice none 0 0, .slice none 0 0, .slice none 0 0, I 0, I 0, .slice none 0 0, .slice none 0 0, I 0, .slice t1 u1 v1, I e0] 61 (0, 0))] :: [(m0, .cells #[I 0, I 0, I 0, .bool false, I 0, I 0, I 0, I 0, .slice none 0 0, .slice none 0 0, .slice none 0 0, I 0, I 0, .slice none 0 0, .slice none 0 0, I 0, .slice none 0 0, I 0] 61 (0, 0))] :: (k8) :: (H :: F)) := Sat.perm r8 (by simp)
  exact ⟨(⟨(1 + c0), a0, -1, ((d0 : Int) == 3), 0, 0, 0, 0, ⟨none, 0, 0, []⟩, ⟨none, 0, 0, []⟩, ⟨none, 0, 0, []⟩, 0, 0, ⟨none, 0, 0, []⟩, ⟨none, 0, 0, []⟩, 0, ⟨t1, u1, v1, wb⟩, e0⟩ : Stage), (k8), m8, alA, xb, om, ⟨RdT.nil (enc := encI) (sz := 1) fR _, RdT.nil (enc := encI) (sz := 1) fR _, RdT.nil (enc := encI) (sz := 1) fR _, RdT.nil (enc := encTap) (sz := 2) fR _, (fun z hz => by cases hz), RdT.nil (enc := encTap) (sz := 2) fR _, (fun z hz => by cases hz), s3.of_mem mS⟩, ⟨⟨nb, nb, nb, nb, nb, nb, nb, nb, nb, nb, nb⟩, ⟨by simp, fun z hz => by cases hz⟩, ⟨by simp, fun z hz => by cases hz⟩, ⟨by simp, fun z hz => by cases hz⟩, ⟨by simp, fun z hz => by cases hz⟩, ⟨by simp, fun z hz => by cases hz⟩, ⟨by have h := l8.1; dsimp only; omega, l8.2⟩⟩, ⟨rfl, by first | (left; rfl) | (right; exact ⟨rfl, om⟩)⟩⟩
 refine sFix 110 _ true (decide_eq_true j8) ?_
 refine pu1 <| gY ?_
 try dsimp only [List.set, List.eraseIdx, Value.cells] at i0
 refine sF #[Pt p 0, I 2] Try.call19 (Calls.mono (tape_next W _ _ _ _ _ o0 _ _ [] (RdT.flat (hR.up 4 (by rfl))) om (Sat.flat1 i0) 2 om) ?_)
 rintro _ _ ⟨yb, rfl, _, s8, _, t8⟩
 refine ⟨_, rfl, ?_⟩
 have w1 := Sat.unflat1 t8; clear t8
 try dsimp only [List.set, List.eraseIdx, Value.cells] at w1
 refine pu2 <| nT ?_
 by_cases u8 : (yb : Int) = 0
 rotate_left
 ·refine cF _ (beq_eq_false_iff_ne.2 u8) ?_
  refine kT <| regionE <| pu2 ?_
  refine sL w1 2 2 (I (-1)) (Try.isAgg3 _) ?_
  refine pu1 ?_
  try dsimp only [List.set, List.eraseIdx, Value.cells] at w1
  refine sF #[Pt p 0, .bool false] Try.call45 (Calls.mono (tg_ops W _ _ _ _ _ s8 _ _ [] (RdT.flat (hR.up 4 (by rfl))) om (Sat.flat1 w1) false) ?_)
  rintro _ _ ⟨x1, y1, z1, zb, v8, rfl, t3, w8, x8, _, y8⟩
  refine ⟨_, rfl, ?_⟩
  have z8 := Sat.unflat2 y8; clear y8
  try dsimp only [List.set, List.eraseIdx, Value.cells] at z8
  have hn_zs_409 := t3.len; have hl_zs_409 := t3.le
  refine pu2 ?_
  refine sT1 z8 3 16 (.slice x1 y1 z1) #[I (1 + c0), I a0, I (-1), .bool ((d0 : Int) == 3), I 0, I 0, I 0, I 0, .slice none 0 0, .slice none 0 0, .slice none 0 0, I 0, I 0, .slice none 0 0, .slice none 0 0, I 0, .slice x1 y1 z1, I 0] Try.sizeOf59 ?_
  intro _ a9
  try dsimp only [List.set, List.eraseIdx, Value.cells] at a9
  refine pu1 ?_
  refine sT1 a9 3 17 (I e0) #[I (1 + c0), I a0, I (-1), .bool ((d0 : Int) == 3), I 0, I 0, I 0, I 0, .slice none 0 0, .slice none 0 0, .slice none 0 0, I 0, I 0, .slice none 0 0, .slice none 0 0, I 0, .slice x1 y1 z1, I e0] Try.sizeOf3 ?_
  intro _ b9
  try dsimp only [List.set, List.eraseIdx, Value.cells] at b9
  refine nB ?_
  have c9 := (((((((b9.pick 6 rfl).pick 2 rfl).pick 5 rfl).pick 5 rfl).pick 4 rfl).dropAt 5 rfl).dropAt 5 rfl)
  try dsimp only [List.set, List.eraseIdx, Value.cells] at c9
  have ac : Sat W _ ([(p, .cells #[.slice a n k, I x8] 46 (0, 0))] :: [(n0, .cells #[I (1 + c0), I a0, I (-1), .bool ((d0 : Int) == 3), I 0, I 0, I 0, I 0, .slice none 0 0, .slice none 0 0, .slice none 0 0, I 0, I 0, .slice none 0 0, .slice none 0 0, I 0, .slice x1 y1 z1, I e0] 61 (0, 0))] :: [(m0, .cells #[I 0, I 0, I 0, .bool false, I 0, I 0, I 0, I 0, .slice none 0 0, .slice none 0 0, .slice none 0 0, I 0, I 0, .slice none 0 0, .slice none 0 0, I 0, .slice none 0 0, I 0] 61 (0, 0))] :: (v8) :: (H :: F)) := Sat.perm c9 (by simp)
  exact ⟨(⟨(1 + c0), a0, -1, ((d0 : Int) == 3), 0, 0, 0, 0, ⟨none, 0, 0, []⟩, ⟨none, 0, 0, []⟩, ⟨none, 0, 0, []⟩, 0, 0, ⟨none, 0, 0, []⟩, ⟨none, 0, 0, []⟩, 0, ⟨x1, y1, z1, zb⟩, e0⟩ : Stage), (v8), x8, alA, ac, om, ⟨RdT.nil (enc := encI) (sz := 1) fR _, RdT.nil (enc := encI) (sz := 1) fR _, RdT.nil (enc := encI) (sz := 1) fR _, RdT.nil (enc := encTap) (sz := 2) fR _, (fun z hz => by cases hz), RdT.nil (enc := encTap) (sz := 2) fR _, (fun z hz => by cases hz), t3.of_mem mS⟩, ⟨⟨nb, nb, nb, nb, nb, nb, nb, nb, nb, nb, nb⟩, ⟨by simp, fun z hz => by cases hz⟩, ⟨by simp, fun z hz => by cases hz⟩, ⟨by simp, fun z hz => by cases hz⟩, ⟨by simp, fun z hz => by cases hz⟩, ⟨by simp, fun z hz => by cases hz⟩, ⟨by have h := w8.1; dsimp only; omega, w8.2⟩⟩, ⟨rfl, by first | (left; rfl) | (right; exact ⟨rfl, om⟩)⟩⟩
 refine cT _ (beq_iff_eq.2 u8) ?_
 refine regionE <| pu2 ?_
 refine sT1 w1 2 2 (I b0) #[I (1 + c0), I a0, I b0, .bool ((d0 : Int) == 3), I 0, I 0, I 0, I 0, .slice none 0 0, .slice none 0 0, .slice none 0 0, I 0, I 0, .slice none 0 0, .slice none 0 0, I 0, .slice none 0 0, I 0] Try.sizeOf3 ?_
 intro _ h3
 try dsimp only [List.set, List.eraseIdx, Value.cells] at h3
 refine nT <| regionE <| pu2 ?_
 refine sL h3 2 2 (I b0) (Try.isAgg3 _) ?_
 refine pu1 ?_
 try dsimp only [List.set, List.eraseIdx, Value.cells] at h3
 refine sF #[Pt p 0, .bool (decide ((b0 : Int) ≥ 0))] Try.call45 (Calls.mono (tg_ops W _ _ _ _ _ s8 _ _ [] (RdT.flat (hR.up 4 (by rfl))) om (Sat.flat1 h3) (decide ((b0 : Int) ≥ 0))) ?_)
 rintro _ _ ⟨a2, b2, c2, bc, d9, rfl, u3, e9, f9, _, g9⟩
 refine ⟨_, rfl, ?_⟩
 have h9 := Sat.unflat2 g9; clear g9
 try dsimp only [List.set, List.eraseIdx, Value.cells] at h9
 have hn_zs_391 := u3.len; have hl_zs_391 := u3.le
 refine pu2 ?_
 refine sT1 h9 3 16 (.slice a2 b2 c2) #[I (1 + c0), I a0, I b0, .bool ((d0 : Int) == 3), I 0, I 0, I 0, I 0, .slice none 0 0, .slice none 0 0, .slice none 0 0, I 0, I 0, .slice none 0 0, .slice none 0 0, I 0, .slice a2 b2 c2, I 0] Try.sizeOf59 ?_
 intro _ i9
 try dsimp only [List.set, List.eraseIdx, Value.cells] at i9
 refine pu1 ?_
 refine sT1 i9 3 17 (I e0) #[I (1 + c0), I a0, I b0, .bool ((d0 : Int) == 3), I 0, I 0, I 0, I 0, .slice none 0 0, .slice none 0 0, .slice none 0 0, I 0, I 0, .slice none 0 0, .slice none 0 0, I 0, .slice a2 b2 c2, I e0] Try.sizeOf3 ?_
 intro _ j9
 try dsimp only [List.set, List.eraseIdx, Value.cells] at j9
 refine nB ?_
 have k9 := (((((((j9.pick 6 rfl).pick 2 rfl).pick 5 rfl).pick 5 rfl).pick 4 rfl).dropAt 5 rfl).dropAt 5 rfl)
 try dsimp only [List.set, List.eraseIdx, Value.cells] at k9
 have cc : Sat W _ ([(p, .cells #[.slice a n k, I f9] 46 (0, 0))] :: [(n0, .cells #[I (1 + c0), I a0, I b0, .bool ((d0 : Int) == 3), I 0, I 0, I 0, I 0, .slice none 0 0, .slice none 0 0, .slice none 0 0, I 0, I 0, .slice none 0 0, .slice none 0 0, I 0, .slice a2 b2 c2, I e0] 61 (0, 0))] :: [(m0, .cells #[I 0, I 0, I 0, .bool false, I 0, I 0, I 0, I 0, .slice none 0 0, .slice none 0 0, .slice none 0 0, I 0, I 0, .slice none 0 0, .slice none 0 0, I 0, .slice none 0 0, I 0] 61 (0, 0))] :: (d9) :: (H :: F)) := Sat.perm k9 (by simp)
 exact ⟨(⟨(1 + c0), a0, b0, ((d0 : Int) == 3), 0, 0, 0, 0, ⟨none, 0, 0, []⟩, ⟨none, 0, 0, []⟩, ⟨none, 0, 0, []⟩, 0, 0, ⟨none, 0, 0, []⟩, ⟨none, 0, 0, []⟩, 0, ⟨a2, b2, c2, bc⟩, e0⟩ : Stage), (d9), f9, alA, cc, om, ⟨RdT.nil (enc := encI) (sz := 1) fR _, RdT.nil (enc := encI) (sz := 1) fR _, RdT.nil (enc := encI) (sz := 1) fR _, RdT.nil (enc := encTap) (sz := 2) fR _, (fun z hz => by cases hz), RdT.nil (enc := encTap) (sz := 2) fR _, (fun z hz => by cases hz), u3.of_mem mS⟩, ⟨⟨nb, nb, nb, nb, nb, nb, nb, nb, nb, nb, nb⟩, ⟨by simp, fun z hz => by cases hz⟩, ⟨by simp, fun z hz => by cases hz⟩, ⟨by simp, fun z hz => by cases hz⟩, ⟨by simp, fun z hz => by cases hz⟩, ⟨by simp, fun z hz => by cases hz⟩, ⟨by have h := e9.1; dsimp only; omega, e9.2⟩⟩, ⟨rfl, by first | (left; rfl) | (right; exact ⟨rfl, om⟩)⟩⟩
theorem tg_shapes (W w : World) (p : Nat) (a : Option Addr) (n k : Nat) (i : Int) (xs : List Int) (H : Chunk) (F : List Chunk) (hR : RdT encI 1 [H] a n k xs) (hi : 0 ≤ i ∧ i ≤ n) (hS : Sat W w ([(p, .cells #[.slice a n k, I i] 46 (0, 0))] :: H :: F)) (j0 : Job) (hj0 : Job.Ok [H] j0) (l0 : List Shape) (hgood : Good (j0.inputs.l.map Plane.v) (j0.stages.l.map Stage.v) j0.priority) (hrun : runS ((j0.inputs.l.map Plane.v).map shpOf) (j0.stages.l.map Stage.v) = some l0) :
  Calls Try.prog 22 #[Pt p 0, .agg (encJob j0).toArray] w fun e w' => ∃ (az : Option Addr) (nz : Nat) (kz : Nat) (G : Chunk), e = .returned (.slice az nz kz) ∧ (RdT encShape 3 [G] az nz kz l0) ∧ ∃ i' : Int, (0 ≤ i' ∧ i' ≤ n) ∧ Sat W w' ([(p, .cells #[.slice a n k, I i'] 46 (0, 0))] :: G :: H :: F) := by
 have hl_j0_inputs := hj0.inputs.le; have hn_j0_inputs := hj0.inputs.len
 have hl_j0_stages := hj0.stages.le; have hn_j0_stages := hj0.stages.len
 have hl_j0_outputs := hj0.outputs.le; have hn_j0_outputs := hj0.outputs.len
 have hle := hR.le
 have hmi : (j0.inputs.l.map Plane.v).length = j0.inputs.n := by simp [hn_j0_inputs]
 have hms : (j0.stages.l.map Stage.v).length = j0.stages.n := by simp [hn_j0_stages]
 have hgni := hgood.ni; have hgns := hgood.ns
 refine callsE (n := 40) Try.func22 rfl rfl (Nat.le_of_ble_eq_true rfl) ?_
 refine sR ?_
 refine sBox hS (.agg (encJob j0).toArray) (encJob j0).toArray ?_
 intro d0 _ f0
 refine pu1 <| nT <| seqE <| sR <| pu1 ?_
 refine sL f0 0 1 (.slice j0.stages.a j0.stages.n j0.stages.k) (Try.isAgg26 _) ?_
 refine pu2 <| nT ?_
 by_cases k0 : (((j0.stages.n : Nat) : Int) : Int) = 0
 rotate_left
 ·refine cF _ (beq_eq_false_iff_ne.2 k0) ?_
  refine kT <| sR ?_
  refine sBS f0 #[I 0] Try.runUnderlying22 Try.sizeOf3 Try.zeroValue3 ?_
  intro b0 _ x0
  refine pu1 ?_
  refine sT1 x0 1 2 (.slice (At b0 0) 1 1) #[.slice j0.inputs.a j0.inputs.n j0.inputs.k, .slice j0.stages.a j0.stages.n j0.stages.k, .slice (At b0 0) 1 1, I j0.priority] Try.sizeOf22 ?_
  intro _ g0
  try dsimp only [List.set, List.eraseIdx, Value.cells] at g0
  refine nT <| sR ?_
  refine sLA g0 1 0 [.slice j0.inputs.a j0.inputs.n j0.inputs.k, .slice j0.stages.a j0.stages.n j0.stages.k, .slice (At b0 0) 1 1, I j0.priority] (Try.isAgg28 _) (Try.sizeOf28 _) ?_
  refine sF #[.agg #[.slice j0.inputs.a j0.inputs.n j0.inputs.k, .slice j0.stages.a j0.stages.n j0.stages.k, .slice (At b0 0) 1 1, I j0.priority]] Try.call41 (Calls.mono (r17_shapes W _ _ [] (⟨⟨j0.inputs.a, j0.inputs.n, j0.inputs.k, j0.inputs.l⟩, ⟨j0.stages.a, j0.stages.n, j0.stages.k, j0.stages.l⟩, ⟨(At b0 0), 1, 1, [0]⟩, j0.priority⟩ : Job) ⟨(RdT.flat (hj0.inputs.up 3 (by rfl))), (fun z hz => (hj0.inputsD z hz).of_mem (mem_flat1 3 (by rfl))), (RdT.flat (hj0.stages.up 3 (by rfl))), (fun z hz => (hj0.stagesD z hz).of_mem (mem_flat1 3 (by rfl))), (RdT.flat (RdT.blk (enc := encI) (sz := 1) (xs := [0]) (fun _ => (by rfl)) 1 0 rfl rfl rfl om))⟩ (od) (Sat.flat g0)) ?_)
  rintro _ _ ⟨y0, z0, a1, m0, rfl, h0, n0⟩
  refine ⟨_, rfl, ?_⟩
  have o0 := Sat.unflat1 n0; clear n0
  have hn_az_37 := h0.len; have hl_az_37 := h0.le
  try dsimp only [List.set, List.eraseIdx, Value.cells] at o0
  refine pu7 <| nT <| sR <| pu2 <| nT <| retE <| retT [.slice y0 z0 a1] ?_
  have hl0 : l0 = (shpV (jobOf (j0.inputs.l.map Plane.v) (j0.stages.l.map Stage.v) j0.priority)).1 := by rw [(shp_run hgood (by rw [hms]; omega)).1 l0 hrun]
  have hrd := h0
  have e0 : ((shpV (⟨⟨j0.inputs.a, j0.inputs.n, j0.inputs.k, j0.inputs.l⟩, ⟨j0.stages.a, j0.stages.n, j0.stages.k, j0.stages.l⟩, ⟨(At b0 0), 1, 1, [0]⟩, j0.priority⟩ : Job).v).1) = l0 := hl0.symm; rw [e0] at hrd
  have p0 := (((((o0.pick 4 rfl).pick 1 rfl).pick 4 rfl).dropAt 3 rfl).dropAt 3 rfl)
  change Sat _ _ ([(p, .cells #[.slice a n k, I i] 46 (0, 0))] :: m0 :: H :: F) at p0
  exact ⟨_, _, _, m0, rfl, hrd, _, om, p0⟩
 refine cT _ (beq_iff_eq.2 k0) ?_
 refine sR <| pu1 <| nT <| seqE <| sR <| pu1 <| nT <| blockE ?_
 have q0 := Sat.nilc f0
 have b1 := OwnT.nil (enc := encShape) (E := 55) (sz := 3) fR
 try dsimp only [List.set, List.eraseIdx, Value.cells] at q0
 refine loopE (γ := Nat × Int × (List Shape) × (Option Addr) × Nat × Nat × Chunk) (fun ⟨i, iti, zs, azs, nzs, kzs, czs⟩ ρ w => AllAt ρ [(1, .agg (encJob j0).toArray), (3, Pt d0 0), (4, .slice none 0 0), (10, Pt d0 1), (11, .slice j0.stages.a j0.stages.n j0.stages.k), (12, I ((j0.stages.n : Nat) : Int)), (13, .bool ((((j0.stages.n : Nat) : Int) : Int) == 0)), (6, I ((i : Nat) : Int)), (5, .slice azs nzs kzs)] ∧ Sat W w (czs :: [(d0, .cells (encJob j0).toArray 28 (0, 0))] :: [(p, .cells #[.slice a n k, I iti] 46 (0, 0))] :: H :: F) ∧ i ≤ j0.inputs.n ∧ (zs = ((j0.inputs.l.map Plane.v).take i).map shpOf) ∧ (zs.length = i) ∧ (0 ≤ iti ∧ iti ≤ n) ∧ OwnT encShape 55 3 azs nzs kzs zs czs) (fun ⟨i, iti, zs, azs, nzs, kzs, czs⟩ => j0.inputs.n - i) (0, i, [], none, 0, 0, []) ⟨alA, q0, om, by rfl, by rfl, om, b1⟩ ?_
 skip
 rintro ⟨i, iti, zs, azs, nzs, kzs, czs⟩ ρ _ ⟨hA, c0, hi, hzs, hzl, hiti, hOzs⟩
 refine cAnchor hA (fun ρ => ?_)
 clear hA
 have hn_zs := hOzs.len; have hl_zs := hOzs.le
 refine seqE <| sR <| pu2 ?_
 refine sL c0 1 0 (.slice j0.inputs.a j0.inputs.n j0.inputs.k) (Try.isAgg25 _) ?_
 refine pu2 <| nT ?_
 by_cases r0 : (((i : Nat) : Int) : Int) < ((j0.inputs.n : Nat) : Int)
 rotate_left
 ·refine cF _ (decide_eq_false r0) ?_
  refine exitE (xB <| ?_)
  refine thenK_n <| sR <| pu2 <| nT ?_
  refine retE (thenK_r <| ?_)
  refine retT [.slice azs nzs kzs] ?_
  have hl0 : l0 = zs := by
   have h := hrun; rw [show (j0.stages.l.map Stage.v) = [] from List.eq_nil_of_length_eq_zero (by rw [hms]; omega)] at h; simp only [runS, Option.some.injEq] at h; rw [← h, hzs, List.take_of_length_le (by rw [hmi]; omega)]
  have hrd := (hOzs.rdAt (cs := [czs]) 0 rfl)
  have e0 : zs = l0 := hl0.symm; rw [e0] at hrd
  have s0 := ((((c0.pick 3 rfl).pick 1 rfl).pick 3 rfl).dropAt 3 rfl)
  change Sat _ _ ([(p, .cells #[.slice a n k, I iti] 46 (0, 0))] :: czs :: H :: F) at s0
  exact ⟨_, _, _, czs, rfl, hrd, _, om, s0⟩
 refine cT _ (decide_eq_true r0) ?_
 refine kT <| seqE <| blockE <| regionE <| pu2 ?_
 refine sL c0 1 0 (.slice j0.inputs.a j0.inputs.n j0.inputs.k) (Try.isAgg25 _) ?_
 refine pu1 ?_
 refine sIdx hj0.inputs ((i : Nat) : Int) Try.runUnderlying25 Try.sizeOf49 ?_
 intro a0 _ _ i0 c1
 rw [Int.toNat_natCast] at i0
 refine sLpA c0 (c1.up 3 rfl) 0 (encPlane a0) (Try.isAgg49 _) (Try.sizeOf49 _) ?_
 refine sF #[.agg (encPlane a0).toArray] Try.call40 (Calls.mono (r17_of W _ _ [] a0 ⟨(RdT.flat ((hj0.inputsD a0 (List.mem_of_getElem? i0)).pix.up 3 (by rfl)))⟩ (Sat.flat c0)) ?_)
 rintro _ _ ⟨rfl, t0⟩
 refine ⟨_, rfl, ?_⟩
 have u0 := Sat.unflat t0; clear t0
 try dsimp only [List.set, List.eraseIdx, Value.cells] at u0
 refine sBS u0 #[I a0.w, I a0.h, I a0.max_] Try.runUnderlying52 Try.sizeOf55 Try.zeroValue55 ?_
 intro _ _ d1
 refine sApp (nb := 24) d1 hOzs 1 (RdT.blk (enc := encShape) (sz := 3) (xs := [(⟨a0.w, a0.h, a0.max_⟩ : Shape)]) fR 1 0 rfl rfl rfl om) Try.underlying52 (i := Try.t55) kr fR ?_
 intro e1 f1 g1 _ h1 v0
 try dsimp only [List.set, List.eraseIdx, Value.cells] at v0
 refine pu1 <| nB <| regionE <| pu1 ?_
 refine sAdd ((i : Nat) : Int) 1 ?_
 refine pu1 <| nT ?_
 have w0 := (((((v0.pick 4 rfl).pick 4 rfl).pick 4 rfl).pick 4 rfl).dropAt 4 rfl)
 try dsimp only [List.set, List.eraseIdx, Value.cells] at w0
 exact ⟨(i + 1, iti, (zs ++ [(⟨a0.w, a0.h, a0.max_⟩ : Shape)]), e1, (nzs + 1), f1, g1), od, alA, w0, om, by rw [take_succ_at (map_at (f := Plane.v) i0), List.map_append, ← hzs]; rfl, by simp; omega, om, h1⟩
end Go.Proofs.Ytcddcpaodcjecaa
