import Derived.Test.YtcddcpaodcjecaaTJob
namespace Go.Proofs.Ytcddcpaodcjecaa
open Go Go.E
set_option linter.unusedVariables false
set_option linter.unusedSimpArgs false
set_option linter.unnecessarySimpa false
set_option maxRecDepth 100000
set_option maxHeartbeats 2000000

-- squeezed
def numS (k : Nat) (z : Int) : Prop := -4611686018427387904 - (k : Int) ≤ z ∧ z ≤ 4611686018427387904 + (k : Int)
theorem numS_mono {k m : Nat} {z : Int} (h : numS k z) (hm : k ≤ m) : numS m z := by unfold numS at *; omega
def planeS (k : Nat) (q : Plane) : Prop := (numS k q.w ∧ numS k q.h ∧ numS k q.max_) ∧ q.pix.l.length ≤ 64 + k ∧ ∀ z ∈ q.pix.l, numS k z
theorem base_mem {k m : Nat} {l : List Int} (h : ∀ z ∈ l, numS k z) (hm : k ≤ m) : ∀ z ∈ ([] : List Int) ++ l, numS m z := by
  intro z hz
  rw [List.nil_append] at hz
  exact numS_mono (h z hz) hm
theorem tg_spoilPlane (W w : World) (p : Nat) (a : Option Addr) (n k : Nat) (i : Int) (xs : List Int) (H : Chunk) (F : List Chunk) (hR : RdT encI 1 [H] a n k xs) (hi : 0 ≤ i ∧ i ≤ n) (hS : Sat W w ([(p, .cells #[.slice a n k, I i] 46 (0, 0))] :: H :: F)) (p0 : Plane) (hp0 : Plane.Ok [H] p0) (kk : Nat) (hkk : kk ≤ 100) (hpS : planeS kk p0) :
  Calls Try.prog 27 #[Pt p 0, .agg (encPlane p0).toArray] w fun e w' => ∃ (q : Plane) (G : Chunk), e = .returned (.agg (encPlane q).toArray) ∧ (Plane.Ok [G] q) ∧ (planeS (kk + 1) q) ∧ ∃ i' : Int, (0 ≤ i' ∧ i' ≤ n) ∧ Sat W w' ([(p, .cells #[.slice a n k, I i'] 46 (0, 0))] :: G :: H :: F) := by
 have hl_p0_pix := hp0.pix.le; have hn_p0_pix := hp0.pix.len
 have hle := hR.le
 obtain ⟨⟨hpw, hph, hpm⟩, hp2, hp3⟩ := hpS; unfold numS at hpw hph hpm
 refine callsE (n := 67) Try.func27 rfl rfl (Nat.le_of_ble_eq_true rfl) ?_
 refine sR ?_
 refine sBox hS (.agg (encPlane p0).toArray) (encPlane p0).toArray ?_
 intro g0 _ w2
 refine sAlloc w2 Try.zeroValue49 ?_
 intro w0 _ x2
 refine nT <| sR ?_
 refine sBS x2 #[] Try.runUnderlying22 Try.sizeOf3 Try.zeroValue3 ?_
 intro y2 _ a1
 refine pu1 ?_
 refine sL a1 2 3 (.slice p0.pix.a p0.pix.n p0.pix.k) (Try.isAgg22 _) ?_
 have z2 := OwnT.blk (enc := encI) (sz := 1) (b := y2) (c := #[]) (E := 3) (xs := []) fR 0 rfl rfl rfl om
 refine sApp (nb := 8) a1 z2 0 (hp0.pix.up 4 rfl) Try.underlying22 (i := Try.t3) kr fR ?_
 intro a0 b0 f0 _ d0 b1
 try dsimp only [List.set, List.eraseIdx, Value.cells] at b1
 refine pu1 ?_
 refine sT1 b1 2 3 (.slice a0 (0 + p0.pix.n) b0) #[I p0.w, I p0.h, I p0.max_, .slice a0 (0 + p0.pix.n) b0] Try.sizeOf22 ?_
 intro _ c1
 try dsimp only [List.set, List.eraseIdx, Value.cells] at c1
 refine nT ?_
 refine cutE (fun ρ w => ∃ (q : Plane) (G1 : Chunk) (itc : Int), AllAt ρ [(0, Pt p 0), (3, Pt g0 0), (4, Pt w0 0)] ∧ Sat W w ([(p, .cells #[.slice a n k, I itc] 46 (0, 0))] :: [(g0, .cells (encPlane q).toArray 49 (0, 0))] :: [(w0, .cells #[I 0, I 0, I 0, .slice none 0 0] 49 (0, 0))] :: G1 :: H :: F) ∧ (0 ≤ itc ∧ itc ≤ n) ∧ Plane.Ok [G1] q ∧ planeS (kk + 1) q) ?_ ?_
 rotate_left
 ·rintro ρ _ ⟨q, G1, itc, hA, d1, hitc, hqok, hqS⟩
  refine cAnchor hA (fun ρ => ?_)
  clear hA
  refine sR ?_
  refine sLA d1 1 0 [I q.w, I q.h, I q.max_, .slice q.pix.a q.pix.n q.pix.k] (Try.isAgg49 _) (Try.sizeOf49 _) ?_
  refine sT d1 2 0 (.agg (encPlane q).toArray) (encPlane q) (encPlane q).toArray Try.sizeOf49 ?_
  intro _ e1
  refine nT <| retE <| retN (vs := [.agg (encPlane q).toArray]) rfl (.cons (.cell _ _ _ _ kr (lvA e1 2 0 (encPlane q) (Try.isAgg49 _) (Try.sizeOf49 _) rfl rfl rfl)) .nil) ?_
  have f1 := (((((e1.pick 4 rfl).pick 4 rfl).pick 2 rfl).dropAt 3 rfl).dropAt 3 rfl)
  change Sat _ _ ([(p, .cells #[.slice a n k, I itc] 46 (0, 0))] :: G1 :: H :: F) at f1
  exact ⟨q, G1, rfl, hqok, hqS, _, om, f1⟩
 refine sR <| pu1 ?_
 have g1 := (c1.pick 3 rfl)
 try dsimp only [List.set, List.eraseIdx, Value.cells] at g1
 refine sF #[Pt p 0, I 6] Try.call19 (Calls.mono (tape_next W _ _ _ _ _ i _ _ [] (RdT.flat (hR.up 3 (by rfl))) om (Sat.flat1 g1) 6 om) ?_)
 rintro _ _ ⟨o0, rfl, _, e0, _, h1⟩
 refine ⟨_, rfl, ?_⟩
 have c0 := Sat.unflat1 h1; clear h1
 try dsimp only [List.set, List.eraseIdx, Value.cells] at c0
 refine nT <| blockE <| sR <| pu2 <| nT ?_
 by_cases i1 : (o0 : Int) = 0
 ·refine cT _ (beq_iff_eq.2 i1) ?_
  refine regionE <| pu2 ?_
  refine sL c0 3 0 (I p0.w) (Try.isAgg3 _) ?_
  refine sAdd p0.w 1 ?_
  refine sBS c0 #[I 0, I (p0.w + 1), I (-1), I 129] Try.runUnderlying22 Try.sizeOf3 Try.zeroValue3 ?_
  intro a3 _ b3
  have j1 := (b3.pick 1 rfl)
  try dsimp only [List.set, List.eraseIdx, Value.cells] at j1
  refine sF #[Pt p 0, .slice (At a3 0) 4 4] Try.call26 (Calls.mono (tape_pick W _ _ _ _ _ e0 _ _ [] (RdT.flat (hR.up 4 (by rfl))) om (Sat.flat1 j1) _ _ _ [0, (p0.w + 1), -1, 129] (RdT.flat (RdT.blk (enc := encI) (sz := 1) (xs := [0, (p0.w + 1), -1, 129]) (fun _ => (by rfl)) 4 0 rfl rfl rfl om)) om om) ?_)
  rintro _ _ ⟨h0, rfl, c3, d3, _, k1⟩
  refine ⟨_, rfl, ?_⟩
  have l1 := Sat.unflat1 k1; clear k1
  try dsimp only [List.set, List.eraseIdx, Value.cells] at l1
  have z4 : (h0 : Int) = 0 ∨ (h0 : Int) = (p0.w + 1) ∨ (h0 : Int) = (-1) ∨ (h0 : Int) = 129 := by simpa using c3
  refine pu1 ?_
  refine sT1 l1 4 0 (I h0) #[I h0, I p0.h, I p0.max_, .slice a0 (0 + p0.pix.n) b0] Try.sizeOf3 ?_
  intro _ m1
  try dsimp only [List.set, List.eraseIdx, Value.cells] at m1
  refine nB ?_
  have n1 := ((((((m1.pick 5 rfl).pick 3 rfl).pick 4 rfl).pick 5 rfl).pick 4 rfl).dropAt 5 rfl)
  try dsimp only [List.set, List.eraseIdx, Value.cells] at n1
  exact ⟨(⟨h0, p0.h, p0.max_, ⟨a0, (0 + p0.pix.n), b0, ([] ++ p0.pix.l)⟩⟩ : Plane), f0, d3, alA, n1, om, ⟨(d0.rdAt (cs := [f0]) 0 rfl)⟩, ⟨⟨by unfold numS; dsimp only; omega, by unfold numS; dsimp only; omega, by unfold numS; dsimp only; omega⟩, ⟨by simp; omega, (base_mem hp3 om)⟩⟩⟩
 refine cF _ (beq_eq_false_iff_ne.2 i1) ?_
 refine sR <| pu2 <| nT ?_
 by_cases o1 : (o0 : Int) = 1
 ·refine cT _ (beq_iff_eq.2 o1) ?_
  refine regionE <| pu2 ?_
  refine sL c0 3 1 (I p0.h) (Try.isAgg3 _) ?_
  refine sAdd p0.h 1 ?_
  refine sBS c0 #[I 0, I (p0.h + 1), I 4611686018427387904] Try.runUnderlying22 Try.sizeOf3 Try.zeroValue3 ?_
  intro e3 _ f3
  have p1 := (f3.pick 1 rfl)
  try dsimp only [List.set, List.eraseIdx, Value.cells] at p1
  refine sF #[Pt p 0, .slice (At e3 0) 3 3] Try.call26 (Calls.mono (tape_pick W _ _ _ _ _ e0 _ _ [] (RdT.flat (hR.up 4 (by rfl))) om (Sat.flat1 p1) _ _ _ [0, (p0.h + 1), 4611686018427387904] (RdT.flat (RdT.blk (enc := encI) (sz := 1) (xs := [0, (p0.h + 1), 4611686018427387904]) (fun _ => (by rfl)) 3 0 rfl rfl rfl om)) om om) ?_)
  rintro _ _ ⟨l0, rfl, g3, h3, _, q1⟩
  refine ⟨_, rfl, ?_⟩
  have r1 := Sat.unflat1 q1; clear q1
  try dsimp only [List.set, List.eraseIdx, Value.cells] at r1
  have e5 : (l0 : Int) = 0 ∨ (l0 : Int) = (p0.h + 1) ∨ (l0 : Int) = 4611686018427387904 := by simpa using g3
  refine pu1 ?_
  refine sT1 r1 4 1 (I l0) #[I p0.w, I l0, I p0.max_, .slice a0 (0 + p0.pix.n) b0] Try.sizeOf3 ?_
  intro _ s1
  try dsimp only [List.set, List.eraseIdx, Value.cells] at s1
  refine nB ?_
  have t1 := ((((((s1.pick 5 rfl).pick 3 rfl).pick 4 rfl).pick 5 rfl).pick 4 rfl).dropAt 5 rfl)
  try dsimp only [List.set, List.eraseIdx, Value.cells] at t1
  exact ⟨(⟨p0.w, l0, p0.max_, ⟨a0, (0 + p0.pix.n), b0, ([] ++ p0.pix.l)⟩⟩ : Plane), f0, h3, alA, t1, om, ⟨(d0.rdAt (cs := [f0]) 0 rfl)⟩, ⟨⟨by unfold numS; dsimp only; omega, by unfold numS; dsimp only; omega, by unfold numS; dsimp only; omega⟩, ⟨by simp; omega, (base_mem hp3 om)⟩⟩⟩
 refine cF _ (beq_eq_false_iff_ne.2 o1) ?_
 refine sR <| pu2 <| nT ?_
 by_cases u1 : (o0 : Int) = 2
 ·refine cT _ (beq_iff_eq.2 u1) ?_
  refine regionE <| pu1 ?_
  refine sBS c0 #[I 0, I 4294967297, I (-1), I 3] Try.runUnderlying22 Try.sizeOf3 Try.zeroValue3 ?_
  intro i3 _ j3
  have v1 := (j3.pick 1 rfl)
  try dsimp only [List.set, List.eraseIdx, Value.cells] at v1
  refine sF #[Pt p 0, .slice (At i3 0) 4 4] Try.call26 (Calls.mono (tape_pick W _ _ _ _ _ e0 _ _ [] (RdT.flat (hR.up 4 (by rfl))) om (Sat.flat1 v1) _ _ _ [0, 4294967297, -1, 3] (RdT.flat (RdT.blk (enc := encI) (sz := 1) (xs := [0, 4294967297, -1, 3]) (fun _ => (by rfl)) 4 0 rfl rfl rfl om)) om om) ?_)
  rintro _ _ ⟨i0, rfl, k3, l3, _, w1⟩
  refine ⟨_, rfl, ?_⟩
  have x1 := Sat.unflat1 w1; clear w1
  try dsimp only [List.set, List.eraseIdx, Value.cells] at x1
  have j5 : (i0 : Int) = 0 ∨ (i0 : Int) = 4294967297 ∨ (i0 : Int) = (-1) ∨ (i0 : Int) = 3 := by simpa using k3
  refine pu1 ?_
  refine sT1 x1 4 2 (I i0) #[I p0.w, I p0.h, I i0, .slice a0 (0 + p0.pix.n) b0] Try.sizeOf3 ?_
  intro _ y1
  try dsimp only [List.set, List.eraseIdx, Value.cells] at y1
  refine nB ?_
  have z1 := ((((((y1.pick 5 rfl).pick 3 rfl).pick 4 rfl).pick 5 rfl).pick 4 rfl).dropAt 5 rfl)
  try dsimp only [List.set, List.eraseIdx, Value.cells] at z1
  exact ⟨(⟨p0.w, p0.h, i0, ⟨a0, (0 + p0.pix.n), b0, ([] ++ p0.pix.l)⟩⟩ : Plane), f0, l3, alA, z1, om, ⟨(d0.rdAt (cs := [f0]) 0 rfl)⟩, ⟨⟨by unfold numS; dsimp only; omega, by unfold numS; dsimp only; omega, by unfold numS; dsimp only; omega⟩, ⟨by simp; omega, (base_mem hp3 om)⟩⟩⟩
 refine cF _ (beq_eq_false_iff_ne.2 u1) ?_
 refine sR <| pu2 <| nT ?_
 by_cases a2 : (o0 : Int) = 3
 ·refine cT _ (beq_iff_eq.2 a2) ?_
  refine regionE <| pu1 ?_
  refine sL c0 3 3 (.slice a0 (0 + p0.pix.n) b0) (Try.isAgg22 _) ?_
  refine sBS c0 #[I 0] Try.runUnderlying22 Try.sizeOf3 Try.zeroValue3 ?_
  intro _ _ m3
  refine sApp (nb := 8) m3 d0 2 (RdT.blk (enc := encI) (sz := 1) (xs := [0]) fR 1 0 rfl rfl rfl om) Try.underlying22 (i := Try.t3) kr fR ?_
  intro x0 y0 b2 _ n3 c2
  try dsimp only [List.set, List.eraseIdx, Value.cells] at c2
  refine pu1 ?_
  refine sT1 c2 4 3 (.slice x0 ((0 + p0.pix.n) + 1) y0) #[I p0.w, I p0.h, I p0.max_, .slice x0 ((0 + p0.pix.n) + 1) y0] Try.sizeOf22 ?_
  intro _ d2
  try dsimp only [List.set, List.eraseIdx, Value.cells] at d2
  refine nB ?_
  have e2 := ((((((d2.pick 5 rfl).pick 3 rfl).pick 4 rfl).pick 5 rfl).pick 5 rfl).dropAt 5 rfl)
  try dsimp only [List.set, List.eraseIdx, Value.cells] at e2
  exact ⟨(⟨p0.w, p0.h, p0.max_, ⟨x0, ((0 + p0.pix.n) + 1), y0, (([] ++ p0.pix.l) ++ [0])⟩⟩ : Plane), b2, e0, alA, e2, om, ⟨(n3.rdAt (cs := [b2]) 0 rfl)⟩, ⟨⟨by unfold numS; dsimp only; omega, by unfold numS; dsimp only; omega, by unfold numS; dsimp only; omega⟩, ⟨by simp; omega, mem_snoc (base_mem hp3 om) (by unfold numS; omega)⟩⟩⟩
 refine cF _ (beq_eq_false_iff_ne.2 a2) ?_
 refine sR <| pu2 <| nT ?_
 by_cases f2 : (o0 : Int) = 4
 rotate_left
 ·refine cF _ (beq_eq_false_iff_ne.2 f2) ?_
  refine regionE <| pu1 ?_
  refine sT1 c0 3 3 (.slice none 0 0) #[I p0.w, I p0.h, I p0.max_, .slice none 0 0] Try.sizeOf22 ?_
  intro _ g2
  try dsimp only [List.set, List.eraseIdx, Value.cells] at g2
  refine nB ?_
  have h2 := (((((g2.pick 4 rfl).pick 3 rfl).pick 4 rfl).pick 3 rfl).dropAt 4 rfl)
  try dsimp only [List.set, List.eraseIdx, Value.cells] at h2
  have o3 : Sat W _ ([(p, .cells #[.slice a n k, I e0] 46 (0, 0))] :: [(g0, .cells #[I p0.w, I p0.h, I p0.max_, .slice none 0 0] 49 (0, 0))] :: [(w0, .cells #[I 0, I 0, I 0, .slice none 0 0] 49 (0, 0))] :: [] :: H :: F) := Sat.perm h2 (by simp)
  exact ⟨(⟨p0.w, p0.h, p0.max_, ⟨none, 0, 0, []⟩⟩ : Plane), [], e0, alA, o3, om, ⟨RdT.nil (enc := encI) (sz := 1) fR _⟩, ⟨⟨by unfold numS; dsimp only; omega, by unfold numS; dsimp only; omega, by unfold numS; dsimp only; omega⟩, ⟨by simp, fun z hz => by cases hz⟩⟩⟩
 refine cT _ (beq_iff_eq.2 f2) ?_
 refine sR <| pu1 ?_
 refine sL c0 3 3 (.slice a0 (0 + p0.pix.n) b0) (Try.isAgg22 _) ?_
 refine pu2 <| nT ?_
 by_cases i2 : ((((0 + p0.pix.n) : Nat) : Int) : Int) > 0
 rotate_left
 ·refine cF _ (decide_eq_false i2) ?_
  refine skipE <| blockK_n <| thenK_n ?_
  have j2 := (((((c0.pick 4 rfl).pick 2 rfl).pick 3 rfl).pick 4 rfl).pick 4 rfl)
  try dsimp only [List.set, List.eraseIdx, Value.cells] at j2
  exact ⟨(⟨p0.w, p0.h, p0.max_, ⟨a0, (0 + p0.pix.n), b0, ([] ++ p0.pix.l)⟩⟩ : Plane), f0, e0, alA, j2, om, ⟨(d0.rdAt (cs := [f0]) 0 rfl)⟩, ⟨⟨by unfold numS; dsimp only; omega, by unfold numS; dsimp only; omega, by unfold numS; dsimp only; omega⟩, ⟨by simp; omega, (base_mem hp3 om)⟩⟩⟩
 refine cT _ (decide_eq_true i2) ?_
 refine drawP [6, 13, 14, 16] [(1, ⟨g0, 3, none⟩, .slice a0 (0 + p0.pix.n) b0), (4, ⟨g0, 3, none⟩, .slice a0 (0 + p0.pix.n) b0), (9, ⟨g0, 2, none⟩, I p0.max_), (12, ⟨g0, 2, none⟩, I p0.max_)] (Plan.sts [0, 2, 3, 7, 8, 11] <| Plan.sts [1] <| Plan.sts [4] <| Plan.sts [5] <| Plan.sts [9] <| Plan.sts [10] <| Plan.sts [12] <| .fk 6 13 (.ef 13 <| .ef 14 <| Plan.sts [15] <| .ef 16 <| .fin) (.ef 6 <| .ef 14 <| Plan.sts [15] <| .ef 16 <| .fin)) rfl kr ⟨.inr (c0.cell 3 rfl rfl), .inr (c0.cell 3 rfl rfl), .inr (c0.cell 3 rfl rfl), .inr (c0.cell 3 rfl rfl), trivial⟩ ?_
 have z0 := c0.drew
 refine qU [0, 2, 3, 7, 8, 11] ?_
 refine qS (.slice a0 (0 + p0.pix.n) b0) rfl rfl rfl (fun w hF => Y_load rfl (Try.isAgg22 w) kr (hF 0 _ _ rfl)) ?_
 refine qS (.slice a0 (0 + p0.pix.n) b0) rfl rfl rfl (fun w hF => Y_load rfl (Try.isAgg22 w) kr (hF 1 _ _ rfl)) ?_
 refine qU [5] ?_
 refine qS (I p0.max_) rfl rfl rfl (fun w hF => Y_load rfl (Try.isAgg3 w) kr (hF 2 _ _ rfl)) ?_
 refine qS (I (p0.max_ + 1)) rfl rfl rfl (fun w _ => Y_add (a := p0.max_) (b := 1) rfl kr kr om) ?_
 refine qS (I p0.max_) rfl rfl rfl (fun w hF => Y_load rfl (Try.isAgg3 w) kr (hF 3 _ _ rfl)) ?_
 refine qF ?_ ?_
 ·refine qO rfl ?_
  try dsimp only [List.set, List.eraseIdx, Value.cells] at z0
  refine sF #[Pt p 0, I (((0 + p0.pix.n) : Nat) : Int)] Try.call19 (Calls.mono (tape_next W _ _ _ _ _ e0 _ _ [] (RdT.flat (hR.up 3 (by rfl))) om (Sat.flat1 z0) (((0 + p0.pix.n) : Nat) : Int) om) ?_)
  rintro _ _ ⟨q0, rfl, _, p3, _, k2⟩
  refine ⟨_, rfl, ?_⟩
  have m0 := Sat.unflat1 k2; clear k2
  try dsimp only [List.set, List.eraseIdx, Value.cells] at m0
  refine nilO ⟨⟨.inr (m0.cell 3 rfl rfl), .inr (m0.cell 3 rfl rfl), .inr (m0.cell 3 rfl rfl), .inr (m0.cell 3 rfl rfl), trivial⟩, ?_⟩
  refine qO rfl ?_
  refine sBS m0 #[I (-1), I (p0.max_ + 1), I p0.max_] Try.runUnderlying22 Try.sizeOf3 Try.zeroValue3 ?_
  intro q3 _ u0
  refine nilO ⟨⟨.inr (u0.cell 4 rfl rfl), .inr (u0.cell 4 rfl rfl), .inr (u0.cell 4 rfl rfl), dI, trivial⟩, ?_⟩
  refine qO rfl ?_
  have l2 := (u0.pick 1 rfl)
  try dsimp only [List.set, List.eraseIdx, Value.cells] at l2
  refine sF #[Pt p 0, .slice (At q3 0) 3 3] Try.call26 (Calls.mono (tape_pick W _ _ _ _ _ p3 _ _ [] (RdT.flat (hR.up 4 (by rfl))) om (Sat.flat1 l2) _ _ _ [-1, (p0.max_ + 1), p0.max_] (RdT.flat (RdT.blk (enc := encI) (sz := 1) (xs := [-1, (p0.max_ + 1), p0.max_]) (fun _ => (by rfl)) 3 0 rfl rfl rfl om)) om om) ?_)
  rintro _ _ ⟨j0, rfl, r3, s3, _, m2⟩
  refine ⟨_, rfl, ?_⟩
  have r0 := Sat.unflat1 m2; clear m2
  try dsimp only [List.set, List.eraseIdx, Value.cells] at r0
  have w5 : (j0 : Int) = (-1) ∨ (j0 : Int) = (p0.max_ + 1) ∨ (j0 : Int) = p0.max_ := by simpa using r3
  refine nilO ⟨⟨.inr (r0.cell 4 rfl rfl), .inr (r0.cell 4 rfl rfl), .inr (r0.cell 4 rfl rfl), dI, trivial⟩, ?_⟩
  obtain ⟨u3, v3, w3, x3, x5, y3, z3⟩ := OwnT.elem d0 q0
  refine qS (.pointer (some ⟨v3, w3 + (q0).toNat * 1, none⟩)) rfl rfl rfl (fun w _ => Y_idx (a := a0) (i := q0) (len := (0 + p0.pix.n)) (cap := b0) rfl Try.runUnderlying22 Try.sizeOf3 kr kr y3) ?_
  refine qO rfl ?_
  refine sStF r0 d0 z3 2 (q0).toNat 0 u3 j0 x3 (I j0) [I j0] Try.sizeOf3 ?_
  intro _ n2 a4 o2
  try dsimp only [List.set, List.eraseIdx, Value.cells] at o2
  refine nilO ⟨dA, ?_⟩
  refine qN ?_
  refine blockK_n <| thenK_n ?_
  have p2 := ((((((o2.pick 5 rfl).pick 3 rfl).pick 4 rfl).pick 5 rfl).pick 4 rfl).dropAt 5 rfl)
  try dsimp only [List.set, List.eraseIdx, Value.cells] at p2
  exact ⟨(⟨p0.w, p0.h, p0.max_, ⟨a0, (0 + p0.pix.n), b0, (([] ++ p0.pix.l).set ((q0).toNat) j0)⟩⟩ : Plane), n2, s3, alA, p2, om, ⟨(a4.rdAt (cs := [n2]) 0 rfl)⟩, ⟨⟨by unfold numS; dsimp only; omega, by unfold numS; dsimp only; omega, by unfold numS; dsimp only; omega⟩, ⟨by simp; omega, mem_set (base_mem hp3 om) (by unfold numS; omega)⟩⟩⟩
 refine qO rfl ?_
 refine sBS z0 #[I (-1), I (p0.max_ + 1), I p0.max_] Try.runUnderlying22 Try.sizeOf3 Try.zeroValue3 ?_
 intro b4 _ v0
 refine nilO ⟨⟨.inr (v0.cell 4 rfl rfl), .inr (v0.cell 4 rfl rfl), .inr (v0.cell 4 rfl rfl), dI, trivial⟩, ?_⟩
 refine qO rfl ?_
 have q2 := (v0.pick 1 rfl)
 try dsimp only [List.set, List.eraseIdx, Value.cells] at q2
 refine sF #[Pt p 0, I (((0 + p0.pix.n) : Nat) : Int)] Try.call19 (Calls.mono (tape_next W _ _ _ _ _ e0 _ _ [] (RdT.flat (hR.up 4 (by rfl))) om (Sat.flat1 q2) (((0 + p0.pix.n) : Nat) : Int) om) ?_)
 rintro _ _ ⟨s0, rfl, _, c4, _, r2⟩
 refine ⟨_, rfl, ?_⟩
 have n0 := Sat.unflat1 r2; clear r2
 try dsimp only [List.set, List.eraseIdx, Value.cells] at n0
 refine nilO ⟨⟨.inr (n0.cell 4 rfl rfl), .inr (n0.cell 4 rfl rfl), .inr (n0.cell 4 rfl rfl), dI, trivial⟩, ?_⟩
 refine qO rfl ?_
 try dsimp only [List.set, List.eraseIdx, Value.cells] at n0
 refine sF #[Pt p 0, .slice (At b4 0) 3 3] Try.call26 (Calls.mono (tape_pick W _ _ _ _ _ c4 _ _ [] (RdT.flat (hR.up 4 (by rfl))) om (Sat.flat1 n0) _ _ _ [-1, (p0.max_ + 1), p0.max_] (RdT.flat (RdT.blk (enc := encI) (sz := 1) (xs := [-1, (p0.max_ + 1), p0.max_]) (fun _ => (by rfl)) 3 0 rfl rfl rfl om)) om om) ?_)
 rintro _ _ ⟨k0, rfl, d4, e4, _, s2⟩
 refine ⟨_, rfl, ?_⟩
 have t0 := Sat.unflat1 s2; clear s2
 try dsimp only [List.set, List.eraseIdx, Value.cells] at t0
 have f6 : (k0 : Int) = (-1) ∨ (k0 : Int) = (p0.max_ + 1) ∨ (k0 : Int) = p0.max_ := by simpa using d4
 refine nilO ⟨⟨.inr (t0.cell 4 rfl rfl), .inr (t0.cell 4 rfl rfl), .inr (t0.cell 4 rfl rfl), dI, trivial⟩, ?_⟩
 obtain ⟨f4, g4, h4, i4, g6, j4, k4⟩ := OwnT.elem d0 s0
 refine qS (.pointer (some ⟨g4, h4 + (s0).toNat * 1, none⟩)) rfl rfl rfl (fun w _ => Y_idx (a := a0) (i := s0) (len := (0 + p0.pix.n)) (cap := b0) rfl Try.runUnderlying22 Try.sizeOf3 kr kr j4) ?_
 refine qO rfl ?_
 refine sStF t0 d0 k4 2 (s0).toNat 0 f4 k0 i4 (I k0) [I k0] Try.sizeOf3 ?_
 intro _ t2 l4 u2
 try dsimp only [List.set, List.eraseIdx, Value.cells] at u2
 refine nilO ⟨dA, ?_⟩
 refine qN ?_
 refine blockK_n <| thenK_n ?_
 have v2 := ((((((u2.pick 5 rfl).pick 3 rfl).pick 4 rfl).pick 5 rfl).pick 4 rfl).dropAt 5 rfl)
 try dsimp only [List.set, List.eraseIdx, Value.cells] at v2
 exact ⟨(⟨p0.w, p0.h, p0.max_, ⟨a0, (0 + p0.pix.n), b0, (([] ++ p0.pix.l).set ((s0).toNat) k0)⟩⟩ : Plane), t2, e4, alA, v2, om, ⟨(l4.rdAt (cs := [t2]) 0 rfl)⟩, ⟨⟨by unfold numS; dsimp only; omega, by unfold numS; dsimp only; omega, by unfold numS; dsimp only; omega⟩, ⟨by simp; omega, mem_set (base_mem hp3 om) (by unfold numS; omega)⟩⟩⟩

theorem base_any {α : Type} {P : α → Prop} {l : List α} (h : ∀ z ∈ l, P z) : ∀ z ∈ ([] : List α) ++ l, P z := by
  intro z hz
  rw [List.nil_append] at hz
  exact h z hz
theorem tg_spoilStage (W w : World) (p : Nat) (a : Option Addr) (n k : Nat) (i : Int) (xs : List Int) (H J : Chunk) (F : List Chunk) (hR : RdT encI 1 [H] a n k xs) (hi : 0 ≤ i ∧ i ≤ n) (hS : Sat W w ([(p, .cells #[.slice a n k, I i] 46 (0, 0))] :: J :: H :: F)) (s0 : Stage) (hs0 : Stage.Ok [J] s0) (kk : Nat) (hkk : kk ≤ 100) (hsB : stageB kk s0) :
  Calls Try.prog 28 #[Pt p 0, .agg (encStage s0).toArray] w fun e w' => ∃ (q : Stage) (G : Chunk), e = .returned (.agg (encStage q).toArray) ∧ (Stage.Ok [G ++ J] q) ∧ (stageB (kk + 1) q) ∧ ∃ i' : Int, (0 ≤ i' ∧ i' ≤ n) ∧ Sat W w' ([(p, .cells #[.slice a n k, I i'] 46 (0, 0))] :: G :: J :: H :: F) := by
 have hl_s0_weights := hs0.weights.le; have hn_s0_weights := hs0.weights.len
 have hl_s0_row := hs0.row.le; have hn_s0_row := hs0.row.len
 have hl_s0_col := hs0.col.le; have hn_s0_col := hs0.col.len
 have hl_s0_x := hs0.x.le; have hn_s0_x := hs0.x.len
 have hl_s0_y := hs0.y.le; have hn_s0_y := hs0.y.len
 have hl_s0_ops := hs0.ops.le; have hn_s0_ops := hs0.ops.len
 have hle := hR.le
 obtain ⟨hi0, hi1, hi2, hi3, hi4, hi5, hi6, hi7, hi8, hi9, hi10⟩ := hsB.1; unfold numB at hi0 hi1 hi2 hi3 hi4 hi5 hi6 hi7 hi8 hi9 hi10; have hb_weights := hsB.2.1.1; have hb_row := hsB.2.2.1.1; have hb_col := hsB.2.2.2.1.1; have hb_x := hsB.2.2.2.2.1.1; have hb_y := hsB.2.2.2.2.2.1.1; have hb_ops := hsB.2.2.2.2.2.2.1
 refine callsE (n := 137) Try.func28 rfl rfl (Nat.le_of_ble_eq_true rfl) ?_
 refine sR ?_
 refine sBox hS (.agg (encStage s0).toArray) (encStage s0).toArray ?_
 intro a0 _ o7
 refine sAlloc o7 Try.zeroValue61 ?_
 intro c0 _ p7
 refine nT ?_
 refine cutE (fun ρ w => ∃ (q : Stage) (G1 : Chunk) (itc : Int), AllAt ρ [(0, Pt p 0), (3, Pt a0 0), (4, Pt c0 0)] ∧ Sat W w ([(p, .cells #[.slice a n k, I itc] 46 (0, 0))] :: [(a0, .cells (encStage q).toArray 61 (0, 0))] :: [(c0, .cells #[I 0, I 0, I 0, .bool false, I 0, I 0, I 0, I 0, .slice none 0 0, .slice none 0 0, .slice none 0 0, I 0, I 0, .slice none 0 0, .slice none 0 0, I 0, .slice none 0 0, I 0] 61 (0, 0))] :: G1 :: J :: H :: F) ∧ (0 ≤ itc ∧ itc ≤ n) ∧ Stage.Ok [G1 ++ J] q ∧ stageB (kk + 1) q) ?_ ?_
 rotate_left
 ·rintro ρ _ ⟨q, G1, itc, hA, g2, hitc, hqok, hqS⟩
  refine cAnchor hA (fun ρ => ?_)
  clear hA
  refine sR ?_
  refine sLA g2 1 0 [I q.kind, I q.a, I q.b, .bool q.barrier, I q.edgePolicy, I q.edgeFill, I q.kW, I q.kH, .slice q.weights.a q.weights.n q.weights.k, .slice q.row.a q.row.n q.row.k, .slice q.col.a q.col.n q.col.k, I q.shift, I q.shift2, .slice q.x.a q.x.n q.x.k, .slice q.y.a q.y.n q.y.k, I q.bins, .slice q.ops.a q.ops.n q.ops.k, I q.max_] (Try.isAgg61 _) (Try.sizeOf61 _) ?_
  refine sT g2 2 0 (.agg (encStage q).toArray) (encStage q) (encStage q).toArray Try.sizeOf61 ?_
  intro _ h2
  refine nT <| retE <| retN (vs := [.agg (encStage q).toArray]) rfl (.cons (.cell _ _ _ _ kr (lvA h2 2 0 (encStage q) (Try.isAgg61 _) (Try.sizeOf61 _) rfl rfl rfl)) .nil) ?_
  have i2 := ((((((h2.pick 5 rfl).pick 5 rfl).pick 5 rfl).pick 3 rfl).dropAt 4 rfl).dropAt 4 rfl)
  change Sat _ _ ([(p, .cells #[.slice a n k, I itc] 46 (0, 0))] :: G1 :: J :: H :: F) at i2
  exact ⟨q, G1, rfl, hqok, hqS, _, om, i2⟩
 refine sR <| pu1 ?_
 have j2 := (p7.pick 2 rfl)
 try dsimp only [List.set, List.eraseIdx, Value.cells] at j2
 refine sF #[Pt p 0, I 14] Try.call19 (Calls.mono (tape_next W _ _ _ _ _ i _ _ [] (RdT.flat (hR.up 3 (by rfl))) om (Sat.flat1 j2) 14 om) ?_)
 rintro _ _ ⟨g0, rfl, _, d0, _, k2⟩
 refine ⟨_, rfl, ?_⟩
 have b0 := Sat.unflat1 k2; clear k2
 try dsimp only [List.set, List.eraseIdx, Value.cells] at b0
 refine nT <| blockE <| sR <| pu2 <| nT ?_
 by_cases l2 : (g0 : Int) = 0
 ·refine cT _ (beq_iff_eq.2 l2) ?_
  refine regionE <| pu1 ?_
  try dsimp only [List.set, List.eraseIdx, Value.cells] at b0
  refine sF #[Pt p 0, I 8] Try.call19 (Calls.mono (tape_next W _ _ _ _ _ d0 _ _ [] (RdT.flat (hR.up 3 (by rfl))) om (Sat.flat1 b0) 8 om) ?_)
  rintro _ _ ⟨b1, rfl, _, m2, _, n2⟩
  refine ⟨_, rfl, ?_⟩
  have o2 := Sat.unflat1 n2; clear n2
  try dsimp only [List.set, List.eraseIdx, Value.cells] at o2
  refine pu1 ?_
  refine sT1 o2 2 0 (I b1) #[I b1, I s0.a, I s0.b, .bool s0.barrier, I s0.edgePolicy, I s0.edgeFill, I s0.kW, I s0.kH, .slice s0.weights.a s0.weights.n s0.weights.k, .slice s0.row.a s0.row.n s0.row.k, .slice s0.col.a s0.col.n s0.col.k, I s0.shift, I s0.shift2, .slice s0.x.a s0.x.n s0.x.k, .slice s0.y.a s0.y.n s0.y.k, I s0.bins, .slice s0.ops.a s0.ops.n s0.ops.k, I s0.max_] Try.sizeOf3 ?_
  intro _ p2
  try dsimp only [List.set, List.eraseIdx, Value.cells] at p2
  refine nB ?_
  have q2 := (((((p2.pick 4 rfl).pick 4 rfl).pick 3 rfl).pick 4 rfl).pick 4 rfl)
  try dsimp only [List.set, List.eraseIdx, Value.cells] at q2
  have q7 : Sat W _ ([(p, .cells #[.slice a n k, I m2] 46 (0, 0))] :: [(a0, .cells #[I b1, I s0.a, I s0.b, .bool s0.barrier, I s0.edgePolicy, I s0.edgeFill, I s0.kW, I s0.kH, .slice s0.weights.a s0.weights.n s0.weights.k, .slice s0.row.a s0.row.n s0.row.k, .slice s0.col.a s0.col.n s0.col.k, I s0.shift, I s0.shift2, .slice s0.x.a s0.x.n s0.x.k, .slice s0.y.a s0.y.n s0.y.k, I s0.bins, .slice s0.ops.a s0.ops.n s0.ops.k, I s0.max_] 61 (0, 0))] :: [(c0, .cells #[I 0, I 0, I 0, .bool false, I 0, I 0, I 0, I 0, .slice none 0 0, .slice none 0 0, .slice none 0 0, I 0, I 0, .slice none 0 0, .slice none 0 0, I 0, .slice none 0 0, I 0] 61 (0, 0))] :: [] :: J :: H :: F) := Sat.perm q2 (by simp)
  exact ⟨(⟨b1, s0.a, s0.b, s0.barrier, s0.edgePolicy, s0.edgeFill, s0.kW, s0.kH, ⟨s0.weights.a, s0.weights.n, s0.weights.k, s0.weights.l⟩, ⟨s0.row.a, s0.row.n, s0.row.k, s0.row.l⟩, ⟨s0.col.a, s0.col.n, s0.col.k, s0.col.l⟩, s0.shift, s0.shift2, ⟨s0.x.a, s0.x.n, s0.x.k, s0.x.l⟩, ⟨s0.y.a, s0.y.n, s0.y.k, s0.y.l⟩, s0.bins, ⟨s0.ops.a, s0.ops.n, s0.ops.k, s0.ops.l⟩, s0.max_⟩ : Stage), [], m2, alA, q7, om, ⟨hs0.weights.of_mem mS, hs0.row.of_mem mS, hs0.col.of_mem mS, hs0.x.of_mem mS, (fun z hz => (hs0.xD z hz).of_mem mS), hs0.y.of_mem mS, (fun z hz => (hs0.yD z hz).of_mem mS), hs0.ops.of_mem mS⟩, ⟨⟨nb, nb, nb, nb, nb, nb, nb, nb, nb, nb, nb⟩, ⟨by have h := hsB.2.1.1; dsimp only; omega, hsB.2.1.2⟩, ⟨by have h := hsB.2.2.1.1; dsimp only; omega, hsB.2.2.1.2⟩, ⟨by have h := hsB.2.2.2.1.1; dsimp only; omega, hsB.2.2.2.1.2⟩, ⟨by have h := hsB.2.2.2.2.1.1; dsimp only; omega, hsB.2.2.2.2.1.2⟩, ⟨by have h := hsB.2.2.2.2.2.1.1; dsimp only; omega, hsB.2.2.2.2.2.1.2⟩, ⟨by have h := hsB.2.2.2.2.2.2.1; dsimp only; omega, hsB.2.2.2.2.2.2.2⟩⟩⟩
 refine cF _ (beq_eq_false_iff_ne.2 l2) ?_
 refine sR <| pu2 <| nT ?_
 by_cases r2 : (g0 : Int) = 1
 ·refine cT _ (beq_iff_eq.2 r2) ?_
  refine regionE <| pu1 ?_
  refine sBS b0 #[I (-1), I 0, I 1, I 2, I 15, I 16] Try.runUnderlying22 Try.sizeOf3 Try.zeroValue3 ?_
  intro r7 _ s7
  have s2 := (s7.pick 1 rfl)
  try dsimp only [List.set, List.eraseIdx, Value.cells] at s2
  refine sF #[Pt p 0, .slice (At r7 0) 6 6] Try.call26 (Calls.mono (tape_pick W _ _ _ _ _ d0 _ _ [] (RdT.flat (hR.up 4 (by rfl))) om (Sat.flat1 s2) _ _ _ [-1, 0, 1, 2, 15, 16] (RdT.flat (RdT.blk (enc := encI) (sz := 1) (xs := [-1, 0, 1, 2, 15, 16]) (fun _ => (by rfl)) 6 0 rfl rfl rfl om)) om om) ?_)
  rintro _ _ ⟨h0, rfl, t7, t2, _, u2⟩
  refine ⟨_, rfl, ?_⟩
  have v2 := Sat.unflat1 u2; clear u2
  try dsimp only [List.set, List.eraseIdx, Value.cells] at v2
  have rb : (h0 : Int) = (-1) ∨ (h0 : Int) = 0 ∨ (h0 : Int) = 1 ∨ (h0 : Int) = 2 ∨ (h0 : Int) = 15 ∨ (h0 : Int) = 16 := by simpa using t7
  refine pu1 ?_
  refine sT1 v2 3 1 (I h0) #[I s0.kind, I h0, I s0.b, .bool s0.barrier, I s0.edgePolicy, I s0.edgeFill, I s0.kW, I s0.kH, .slice s0.weights.a s0.weights.n s0.weights.k, .slice s0.row.a s0.row.n s0.row.k, .slice s0.col.a s0.col.n s0.col.k, I s0.shift, I s0.shift2, .slice s0.x.a s0.x.n s0.x.k, .slice s0.y.a s0.y.n s0.y.k, I s0.bins, .slice s0.ops.a s0.ops.n s0.ops.k, I s0.max_] Try.sizeOf3 ?_
  intro _ w2
  try dsimp only [List.set, List.eraseIdx, Value.cells] at w2
  refine nB ?_
  have x2 := ((((((w2.pick 5 rfl).pick 5 rfl).pick 4 rfl).pick 5 rfl).pick 4 rfl).dropAt 5 rfl)
  try dsimp only [List.set, List.eraseIdx, Value.cells] at x2
  have u7 : Sat W _ ([(p, .cells #[.slice a n k, I t2] 46 (0, 0))] :: [(a0, .cells #[I s0.kind, I h0, I s0.b, .bool s0.barrier, I s0.edgePolicy, I s0.edgeFill, I s0.kW, I s0.kH, .slice s0.weights.a s0.weights.n s0.weights.k, .slice s0.row.a s0.row.n s0.row.k, .slice s0.col.a s0.col.n s0.col.k, I s0.shift, I s0.shift2, .slice s0.x.a s0.x.n s0.x.k, .slice s0.y.a s0.y.n s0.y.k, I s0.bins, .slice s0.ops.a s0.ops.n s0.ops.k, I s0.max_] 61 (0, 0))] :: [(c0, .cells #[I 0, I 0, I 0, .bool false, I 0, I 0, I 0, I 0, .slice none 0 0, .slice none 0 0, .slice none 0 0, I 0, I 0, .slice none 0 0, .slice none 0 0, I 0, .slice none 0 0, I 0] 61 (0, 0))] :: [] :: J :: H :: F) := Sat.perm x2 (by simp)
  exact ⟨(⟨s0.kind, h0, s0.b, s0.barrier, s0.edgePolicy, s0.edgeFill, s0.kW, s0.kH, ⟨s0.weights.a, s0.weights.n, s0.weights.k, s0.weights.l⟩, ⟨s0.row.a, s0.row.n, s0.row.k, s0.row.l⟩, ⟨s0.col.a, s0.col.n, s0.col.k, s0.col.l⟩, s0.shift, s0.shift2, ⟨s0.x.a, s0.x.n, s0.x.k, s0.x.l⟩, ⟨s0.y.a, s0.y.n, s0.y.k, s0.y.l⟩, s0.bins, ⟨s0.ops.a, s0.ops.n, s0.ops.k, s0.ops.l⟩, s0.max_⟩ : Stage), [], t2, alA, u7, om, ⟨hs0.weights.of_mem mS, hs0.row.of_mem mS, hs0.col.of_mem mS, hs0.x.of_mem mS, (fun z hz => (hs0.xD z hz).of_mem mS), hs0.y.of_mem mS, (fun z hz => (hs0.yD z hz).of_mem mS), hs0.ops.of_mem mS⟩, ⟨⟨nb, nb, nb, nb, nb, nb, nb, nb, nb, nb, nb⟩, ⟨by have h := hsB.2.1.1; dsimp only; omega, hsB.2.1.2⟩, ⟨by have h := hsB.2.2.1.1; dsimp only; omega, hsB.2.2.1.2⟩, ⟨by have h := hsB.2.2.2.1.1; dsimp only; omega, hsB.2.2.2.1.2⟩, ⟨by have h := hsB.2.2.2.2.1.1; dsimp only; omega, hsB.2.2.2.2.1.2⟩, ⟨by have h := hsB.2.2.2.2.2.1.1; dsimp only; omega, hsB.2.2.2.2.2.1.2⟩, ⟨by have h := hsB.2.2.2.2.2.2.1; dsimp only; omega, hsB.2.2.2.2.2.2.2⟩⟩⟩
 refine cF _ (beq_eq_false_iff_ne.2 r2) ?_
 refine sR <| pu2 <| nT ?_
 by_cases y2 : (g0 : Int) = 2
 ·refine cT _ (beq_iff_eq.2 y2) ?_
  refine regionE <| pu1 ?_
  refine sBS b0 #[I (-2), I (-1), I 0, I 1, I 16] Try.runUnderlying22 Try.sizeOf3 Try.zeroValue3 ?_
  intro v7 _ w7
  have z2 := (w7.pick 1 rfl)
  try dsimp only [List.set, List.eraseIdx, Value.cells] at z2
  refine sF #[Pt p 0, .slice (At v7 0) 5 5] Try.call26 (Calls.mono (tape_pick W _ _ _ _ _ d0 _ _ [] (RdT.flat (hR.up 4 (by rfl))) om (Sat.flat1 z2) _ _ _ [-2, -1, 0, 1, 16] (RdT.flat (RdT.blk (enc := encI) (sz := 1) (xs := [-2, -1, 0, 1, 16]) (fun _ => (by rfl)) 5 0 rfl rfl rfl om)) om om) ?_)
  rintro _ _ ⟨i0, rfl, x7, a3, _, b3⟩
  refine ⟨_, rfl, ?_⟩
  have c3 := Sat.unflat1 b3; clear b3
  try dsimp only [List.set, List.eraseIdx, Value.cells] at c3
  have wb : (i0 : Int) = (-2) ∨ (i0 : Int) = (-1) ∨ (i0 : Int) = 0 ∨ (i0 : Int) = 1 ∨ (i0 : Int) = 16 := by simpa using x7
  refine pu1 ?_
  refine sT1 c3 3 2 (I i0) #[I s0.kind, I s0.a, I i0, .bool s0.barrier, I s0.edgePolicy, I s0.edgeFill, I s0.kW, I s0.kH, .slice s0.weights.a s0.weights.n s0.weights.k, .slice s0.row.a s0.row.n s0.row.k, .slice s0.col.a s0.col.n s0.col.k, I s0.shift, I s0.shift2, .slice s0.x.a s0.x.n s0.x.k, .slice s0.y.a s0.y.n s0.y.k, I s0.bins, .slice s0.ops.a s0.ops.n s0.ops.k, I s0.max_] Try.sizeOf3 ?_
  intro _ d3
  try dsimp only [List.set, List.eraseIdx, Value.cells] at d3
  refine nB ?_
  have e3 := ((((((d3.pick 5 rfl).pick 5 rfl).pick 4 rfl).pick 5 rfl).pick 4 rfl).dropAt 5 rfl)
  try dsimp only [List.set, List.eraseIdx, Value.cells] at e3
  have y7 : Sat W _ ([(p, .cells #[.slice a n k, I a3] 46 (0, 0))] :: [(a0, .cells #[I s0.kind, I s0.a, I i0, .bool s0.barrier, I s0.edgePolicy, I s0.edgeFill, I s0.kW, I s0.kH, .slice s0.weights.a s0.weights.n s0.weights.k, .slice s0.row.a s0.row.n s0.row.k, .slice s0.col.a s0.col.n s0.col.k, I s0.shift, I s0.shift2, .slice s0.x.a s0.x.n s0.x.k, .slice s0.y.a s0.y.n s0.y.k, I s0.bins, .slice s0.ops.a s0.ops.n s0.ops.k, I s0.max_] 61 (0, 0))] :: [(c0, .cells #[I 0, I 0, I 0, .bool false, I 0, I 0, I 0, I 0, .slice none 0 0, .slice none 0 0, .slice none 0 0, I 0, I 0, .slice none 0 0, .slice none 0 0, I 0, .slice none 0 0, I 0] 61 (0, 0))] :: [] :: J :: H :: F) := Sat.perm e3 (by simp)
  exact ⟨(⟨s0.kind, s0.a, i0, s0.barrier, s0.edgePolicy, s0.edgeFill, s0.kW, s0.kH, ⟨s0.weights.a, s0.weights.n, s0.weights.k, s0.weights.l⟩, ⟨s0.row.a, s0.row.n, s0.row.k, s0.row.l⟩, ⟨s0.col.a, s0.col.n, s0.col.k, s0.col.l⟩, s0.shift, s0.shift2, ⟨s0.x.a, s0.x.n, s0.x.k, s0.x.l⟩, ⟨s0.y.a, s0.y.n, s0.y.k, s0.y.l⟩, s0.bins, ⟨s0.ops.a, s0.ops.n, s0.ops.k, s0.ops.l⟩, s0.max_⟩ : Stage), [], a3, alA, y7, om, ⟨hs0.weights.of_mem mS, hs0.row.of_mem mS, hs0.col.of_mem mS, hs0.x.of_mem mS, (fun z hz => (hs0.xD z hz).of_mem mS), hs0.y.of_mem mS, (fun z hz => (hs0.yD z hz).of_mem mS), hs0.ops.of_mem mS⟩, ⟨⟨nb, nb, nb, nb, nb, nb, nb, nb, nb, nb, nb⟩, ⟨by have h := hsB.2.1.1; dsimp only; omega, hsB.2.1.2⟩, ⟨by have h := hsB.2.2.1.1; dsimp only; omega, hsB.2.2.1.2⟩, ⟨by have h := hsB.2.2.2.1.1; dsimp only; omega, hsB.2.2.2.1.2⟩, ⟨by have h := hsB.2.2.2.2.1.1; dsimp only; omega, hsB.2.2.2.2.1.2⟩, ⟨by have h := hsB.2.2.2.2.2.1.1; dsimp only; omega, hsB.2.2.2.2.2.1.2⟩, ⟨by have h := hsB.2.2.2.2.2.2.1; dsimp only; omega, hsB.2.2.2.2.2.2.2⟩⟩⟩
 refine cF _ (beq_eq_false_iff_ne.2 y2) ?_
 refine sR <| pu2 <| nT ?_
 by_cases f3 : (g0 : Int) = 3
 ·refine cT _ (beq_iff_eq.2 f3) ?_
  refine regionE <| pu1 ?_
  try dsimp only [List.set, List.eraseIdx, Value.cells] at b0
  refine sF #[Pt p 0, I 6] Try.call19 (Calls.mono (tape_next W _ _ _ _ _ d0 _ _ [] (RdT.flat (hR.up 3 (by rfl))) om (Sat.flat1 b0) 6 om) ?_)
  rintro _ _ ⟨w0, rfl, _, z7, _, g3⟩
  refine ⟨_, rfl, ?_⟩
  have h3 := Sat.unflat1 g3; clear g3
  try dsimp only [List.set, List.eraseIdx, Value.cells] at h3
  refine sSub w0 1 ?_
  refine pu1 ?_
  refine sBS h3 #[I 0, I 5, I (-1), I 70000] Try.runUnderlying22 Try.sizeOf3 Try.zeroValue3 ?_
  intro a8 _ b8
  have i3 := (b8.pick 1 rfl)
  try dsimp only [List.set, List.eraseIdx, Value.cells] at i3
  refine sF #[Pt p 0, .slice (At a8 0) 4 4] Try.call26 (Calls.mono (tape_pick W _ _ _ _ _ z7 _ _ [] (RdT.flat (hR.up 4 (by rfl))) om (Sat.flat1 i3) _ _ _ [0, 5, -1, 70000] (RdT.flat (RdT.blk (enc := encI) (sz := 1) (xs := [0, 5, -1, 70000]) (fun _ => (by rfl)) 4 0 rfl rfl rfl om)) om om) ?_)
  rintro _ _ ⟨l0, rfl, c8, j3, _, k3⟩
  refine ⟨_, rfl, ?_⟩
  have l3 := Sat.unflat1 k3; clear k3
  try dsimp only [List.set, List.eraseIdx, Value.cells] at l3
  have ec : (l0 : Int) = 0 ∨ (l0 : Int) = 5 ∨ (l0 : Int) = (-1) ∨ (l0 : Int) = 70000 := by simpa using c8
  refine pu2 ?_
  refine sTA l3 3 4 [I (w0 - 1), I l0] #[I s0.kind, I s0.a, I s0.b, .bool s0.barrier, I (w0 - 1), I l0, I s0.kW, I s0.kH, .slice s0.weights.a s0.weights.n s0.weights.k, .slice s0.row.a s0.row.n s0.row.k, .slice s0.col.a s0.col.n s0.col.k, I s0.shift, I s0.shift2, .slice s0.x.a s0.x.n s0.x.k, .slice s0.y.a s0.y.n s0.y.k, I s0.bins, .slice s0.ops.a s0.ops.n s0.ops.k, I s0.max_] Try.sizeOf57 ?_
  intro _ m3
  try dsimp only [List.set, List.eraseIdx, Value.cells] at m3
  refine nB ?_
  have n3 := ((((((m3.pick 5 rfl).pick 5 rfl).pick 4 rfl).pick 5 rfl).pick 4 rfl).dropAt 5 rfl)
  try dsimp only [List.set, List.eraseIdx, Value.cells] at n3
  have d8 : Sat W _ ([(p, .cells #[.slice a n k, I j3] 46 (0, 0))] :: [(a0, .cells #[I s0.kind, I s0.a, I s0.b, .bool s0.barrier, I (w0 - 1), I l0, I s0.kW, I s0.kH, .slice s0.weights.a s0.weights.n s0.weights.k, .slice s0.row.a s0.row.n s0.row.k, .slice s0.col.a s0.col.n s0.col.k, I s0.shift, I s0.shift2, .slice s0.x.a s0.x.n s0.x.k, .slice s0.y.a s0.y.n s0.y.k, I s0.bins, .slice s0.ops.a s0.ops.n s0.ops.k, I s0.max_] 61 (0, 0))] :: [(c0, .cells #[I 0, I 0, I 0, .bool false, I 0, I 0, I 0, I 0, .slice none 0 0, .slice none 0 0, .slice none 0 0, I 0, I 0, .slice none 0 0, .slice none 0 0, I 0, .slice none 0 0, I 0] 61 (0, 0))] :: [] :: J :: H :: F) := Sat.perm n3 (by simp)
  exact ⟨(⟨s0.kind, s0.a, s0.b, s0.barrier, (w0 - 1), l0, s0.kW, s0.kH, ⟨s0.weights.a, s0.weights.n, s0.weights.k, s0.weights.l⟩, ⟨s0.row.a, s0.row.n, s0.row.k, s0.row.l⟩, ⟨s0.col.a, s0.col.n, s0.col.k, s0.col.l⟩, s0.shift, s0.shift2, ⟨s0.x.a, s0.x.n, s0.x.k, s0.x.l⟩, ⟨s0.y.a, s0.y.n, s0.y.k, s0.y.l⟩, s0.bins, ⟨s0.ops.a, s0.ops.n, s0.ops.k, s0.ops.l⟩, s0.max_⟩ : Stage), [], j3, alA, d8, om, ⟨hs0.weights.of_mem mS, hs0.row.of_mem mS, hs0.col.of_mem mS, hs0.x.of_mem mS, (fun z hz => (hs0.xD z hz).of_mem mS), hs0.y.of_mem mS, (fun z hz => (hs0.yD z hz).of_mem mS), hs0.ops.of_mem mS⟩, ⟨⟨nb, nb, nb, nb, nb, nb, nb, nb, nb, nb, nb⟩, ⟨by have h := hsB.2.1.1; dsimp only; omega, hsB.2.1.2⟩, ⟨by have h := hsB.2.2.1.1; dsimp only; omega, hsB.2.2.1.2⟩, ⟨by have h := hsB.2.2.2.1.1; dsimp only; omega, hsB.2.2.2.1.2⟩, ⟨by have h := hsB.2.2.2.2.1.1; dsimp only; omega, hsB.2.2.2.2.1.2⟩, ⟨by have h := hsB.2.2.2.2.2.1.1; dsimp only; omega, hsB.2.2.2.2.2.1.2⟩, ⟨by have h := hsB.2.2.2.2.2.2.1; dsimp only; omega, hsB.2.2.2.2.2.2.2⟩⟩⟩
 refine cF _ (beq_eq_false_iff_ne.2 f3) ?_
 refine sR <| pu2 <| nT ?_
 by_cases o3 : (g0 : Int) = 4
 ·refine cT _ (beq_iff_eq.2 o3) ?_
  refine regionE <| pu1 ?_
  refine sBS b0 #[I 0, I 1, I 3, I 10, I 4611686018427387904] Try.runUnderlying22 Try.sizeOf3 Try.zeroValue3 ?_
  intro e8 _ f8
  have p3 := (f8.pick 1 rfl)
  try dsimp only [List.set, List.eraseIdx, Value.cells] at p3
  refine sF #[Pt p 0, .slice (At e8 0) 5 5] Try.call26 (Calls.mono (tape_pick W _ _ _ _ _ d0 _ _ [] (RdT.flat (hR.up 4 (by rfl))) om (Sat.flat1 p3) _ _ _ [0, 1, 3, 10, 4611686018427387904] (RdT.flat (RdT.blk (enc := encI) (sz := 1) (xs := [0, 1, 3, 10, 4611686018427387904]) (fun _ => (by rfl)) 5 0 rfl rfl rfl om)) om om) ?_)
  rintro _ _ ⟨j0, rfl, g8, q3, _, r3⟩
  refine ⟨_, rfl, ?_⟩
  have s3 := Sat.unflat1 r3; clear r3
  try dsimp only [List.set, List.eraseIdx, Value.cells] at s3
  have jc : (j0 : Int) = 0 ∨ (j0 : Int) = 1 ∨ (j0 : Int) = 3 ∨ (j0 : Int) = 10 ∨ (j0 : Int) = 4611686018427387904 := by simpa using g8
  refine pu1 ?_
  refine sT1 s3 3 6 (I j0) #[I s0.kind, I s0.a, I s0.b, .bool s0.barrier, I s0.edgePolicy, I s0.edgeFill, I j0, I s0.kH, .slice s0.weights.a s0.weights.n s0.weights.k, .slice s0.row.a s0.row.n s0.row.k, .slice s0.col.a s0.col.n s0.col.k, I s0.shift, I s0.shift2, .slice s0.x.a s0.x.n s0.x.k, .slice s0.y.a s0.y.n s0.y.k, I s0.bins, .slice s0.ops.a s0.ops.n s0.ops.k, I s0.max_] Try.sizeOf3 ?_
  intro _ u3
  try dsimp only [List.set, List.eraseIdx, Value.cells] at u3
  refine nB ?_
  have v3 := ((((((u3.pick 5 rfl).pick 5 rfl).pick 4 rfl).pick 5 rfl).pick 4 rfl).dropAt 5 rfl)
  try dsimp only [List.set, List.eraseIdx, Value.cells] at v3
  have h8 : Sat W _ ([(p, .cells #[.slice a n k, I q3] 46 (0, 0))] :: [(a0, .cells #[I s0.kind, I s0.a, I s0.b, .bool s0.barrier, I s0.edgePolicy, I s0.edgeFill, I j0, I s0.kH, .slice s0.weights.a s0.weights.n s0.weights.k, .slice s0.row.a s0.row.n s0.row.k, .slice s0.col.a s0.col.n s0.col.k, I s0.shift, I s0.shift2, .slice s0.x.a s0.x.n s0.x.k, .slice s0.y.a s0.y.n s0.y.k, I s0.bins, .slice s0.ops.a s0.ops.n s0.ops.k, I s0.max_] 61 (0, 0))] :: [(c0, .cells #[I 0, I 0, I 0, .bool false, I 0, I 0, I 0, I 0, .slice none 0 0, .slice none 0 0, .slice none 0 0, I 0, I 0, .slice none 0 0, .slice none 0 0, I 0, .slice none 0 0, I 0] 61 (0, 0))] :: [] :: J :: H :: F) := Sat.perm v3 (by simp)
  exact ⟨(⟨s0.kind, s0.a, s0.b, s0.barrier, s0.edgePolicy, s0.edgeFill, j0, s0.kH, ⟨s0.weights.a, s0.weights.n, s0.weights.k, s0.weights.l⟩, ⟨s0.row.a, s0.row.n, s0.row.k, s0.row.l⟩, ⟨s0.col.a, s0.col.n, s0.col.k, s0.col.l⟩, s0.shift, s0.shift2, ⟨s0.x.a, s0.x.n, s0.x.k, s0.x.l⟩, ⟨s0.y.a, s0.y.n, s0.y.k, s0.y.l⟩, s0.bins, ⟨s0.ops.a, s0.ops.n, s0.ops.k, s0.ops.l⟩, s0.max_⟩ : Stage), [], q3, alA, h8, om, ⟨hs0.weights.of_mem mS, hs0.row.of_mem mS, hs0.col.of_mem mS, hs0.x.of_mem mS, (fun z hz => (hs0.xD z hz).of_mem mS), hs0.y.of_mem mS, (fun z hz => (hs0.yD z hz).of_mem mS), hs0.ops.of_mem mS⟩, ⟨⟨nb, nb, nb, nb, nb, nb, nb, nb, nb, nb, nb⟩, ⟨by have h := hsB.2.1.1; dsimp only; omega, hsB.2.1.2⟩, ⟨by have h := hsB.2.2.1.1; dsimp only; omega, hsB.2.2.1.2⟩, ⟨by have h := hsB.2.2.2.1.1; dsimp only; omega, hsB.2.2.2.1.2⟩, ⟨by have h := hsB.2.2.2.2.1.1; dsimp only; omega, hsB.2.2.2.2.1.2⟩, ⟨by have h := hsB.2.2.2.2.2.1.1; dsimp only; omega, hsB.2.2.2.2.2.1.2⟩, ⟨by have h := hsB.2.2.2.2.2.2.1; dsimp only; omega, hsB.2.2.2.2.2.2.2⟩⟩⟩
 refine cF _ (beq_eq_false_iff_ne.2 o3) ?_
 refine sR <| pu2 <| nT ?_
 by_cases w3 : (g0 : Int) = 5
 ·refine cT _ (beq_iff_eq.2 w3) ?_
  refine regionE <| pu2 ?_
  try dsimp only [List.set, List.eraseIdx, Value.cells] at b0
  refine sF #[Pt p 0, I 10] Try.call19 (Calls.mono (tape_next W _ _ _ _ _ d0 _ _ [] (RdT.flat (hR.up 3 (by rfl))) om (Sat.flat1 b0) 10 om) ?_)
  rintro _ _ ⟨x3, rfl, _, i8, _, y3⟩
  refine ⟨_, rfl, ?_⟩
  have q1 := Sat.unflat1 y3; clear y3
  try dsimp only [List.set, List.eraseIdx, Value.cells] at q1
  try dsimp only [List.set, List.eraseIdx, Value.cells] at q1
  refine sF #[Pt p 0, I x3] Try.call43 (Calls.mono (tg_weights W _ _ _ _ _ i8 _ _ [] (RdT.flat (hR.up 3 (by rfl))) om (Sat.flat1 q1) x3 om) ?_)
  rintro _ _ ⟨c1, d1, e1, j8, z3, rfl, r1, a4, b4, _, c4⟩
  refine ⟨_, rfl, ?_⟩
  have d4 := Sat.unflat2 c4; clear c4
  try dsimp only [List.set, List.eraseIdx, Value.cells] at d4
  have hn_zs_115 := r1.len; have hl_zs_115 := r1.le
  refine pu1 ?_
  refine sT1 d4 3 8 (.slice c1 d1 e1) #[I s0.kind, I s0.a, I s0.b, .bool s0.barrier, I s0.edgePolicy, I s0.edgeFill, I s0.kW, I s0.kH, .slice c1 d1 e1, .slice s0.row.a s0.row.n s0.row.k, .slice s0.col.a s0.col.n s0.col.k, I s0.shift, I s0.shift2, .slice s0.x.a s0.x.n s0.x.k, .slice s0.y.a s0.y.n s0.y.k, I s0.bins, .slice s0.ops.a s0.ops.n s0.ops.k, I s0.max_] Try.sizeOf22 ?_
  intro _ e4
  try dsimp only [List.set, List.eraseIdx, Value.cells] at e4
  refine nB ?_
  have f4 := ((((((e4.pick 5 rfl).pick 5 rfl).pick 3 rfl).pick 4 rfl).pick 5 rfl).pick 5 rfl)
  try dsimp only [List.set, List.eraseIdx, Value.cells] at f4
  have k8 : Sat W _ ([(p, .cells #[.slice a n k, I b4] 46 (0, 0))] :: [(a0, .cells #[I s0.kind, I s0.a, I s0.b, .bool s0.barrier, I s0.edgePolicy, I s0.edgeFill, I s0.kW, I s0.kH, .slice c1 d1 e1, .slice s0.row.a s0.row.n s0.row.k, .slice s0.col.a s0.col.n s0.col.k, I s0.shift, I s0.shift2, .slice s0.x.a s0.x.n s0.x.k, .slice s0.y.a s0.y.n s0.y.k, I s0.bins, .slice s0.ops.a s0.ops.n s0.ops.k, I s0.max_] 61 (0, 0))] :: [(c0, .cells #[I 0, I 0, I 0, .bool false, I 0, I 0, I 0, I 0, .slice none 0 0, .slice none 0 0, .slice none 0 0, I 0, I 0, .slice none 0 0, .slice none 0 0, I 0, .slice none 0 0, I 0] 61 (0, 0))] :: (z3) :: J :: H :: F) := Sat.perm f4 (by simp)
  exact ⟨(⟨s0.kind, s0.a, s0.b, s0.barrier, s0.edgePolicy, s0.edgeFill, s0.kW, s0.kH, ⟨c1, d1, e1, j8⟩, ⟨s0.row.a, s0.row.n, s0.row.k, s0.row.l⟩, ⟨s0.col.a, s0.col.n, s0.col.k, s0.col.l⟩, s0.shift, s0.shift2, ⟨s0.x.a, s0.x.n, s0.x.k, s0.x.l⟩, ⟨s0.y.a, s0.y.n, s0.y.k, s0.y.l⟩, s0.bins, ⟨s0.ops.a, s0.ops.n, s0.ops.k, s0.ops.l⟩, s0.max_⟩ : Stage), (z3), b4, alA, k8, om, ⟨r1.of_mem mS, hs0.row.of_mem mS, hs0.col.of_mem mS, hs0.x.of_mem mS, (fun z hz => (hs0.xD z hz).of_mem mS), hs0.y.of_mem mS, (fun z hz => (hs0.yD z hz).of_mem mS), hs0.ops.of_mem mS⟩, ⟨⟨nb, nb, nb, nb, nb, nb, nb, nb, nb, nb, nb⟩, ⟨by have h := a4.1; dsimp only; omega, a4.2⟩, ⟨by have h := hsB.2.2.1.1; dsimp only; omega, hsB.2.2.1.2⟩, ⟨by have h := hsB.2.2.2.1.1; dsimp only; omega, hsB.2.2.2.1.2⟩, ⟨by have h := hsB.2.2.2.2.1.1; dsimp only; omega, hsB.2.2.2.2.1.2⟩, ⟨by have h := hsB.2.2.2.2.2.1.1; dsimp only; omega, hsB.2.2.2.2.2.1.2⟩, ⟨by have h := hsB.2.2.2.2.2.2.1; dsimp only; omega, hsB.2.2.2.2.2.2.2⟩⟩⟩
 refine cF _ (beq_eq_false_iff_ne.2 w3) ?_
 refine sR <| pu2 <| nT ?_
 by_cases g4 : (g0 : Int) = 6
 ·refine cT _ (beq_iff_eq.2 g4) ?_
  refine regionE <| pu2 ?_
  try dsimp only [List.set, List.eraseIdx, Value.cells] at b0
  refine sF #[Pt p 0, I 11] Try.call19 (Calls.mono (tape_next W _ _ _ _ _ d0 _ _ [] (RdT.flat (hR.up 3 (by rfl))) om (Sat.flat1 b0) 11 om) ?_)
  rintro _ _ ⟨h4, rfl, _, l8, _, i4⟩
  refine ⟨_, rfl, ?_⟩
  have s1 := Sat.unflat1 i4; clear i4
  try dsimp only [List.set, List.eraseIdx, Value.cells] at s1
  try dsimp only [List.set, List.eraseIdx, Value.cells] at s1
  refine sF #[Pt p 0, I h4] Try.call43 (Calls.mono (tg_weights W _ _ _ _ _ l8 _ _ [] (RdT.flat (hR.up 3 (by rfl))) om (Sat.flat1 s1) h4 om) ?_)
  rintro _ _ ⟨f1, g1, h1, m8, j4, rfl, t1, k4, l4, _, m4⟩
  refine ⟨_, rfl, ?_⟩
  have n4 := Sat.unflat2 m4; clear m4
  try dsimp only [List.set, List.eraseIdx, Value.cells] at n4
  have hn_zs_139 := t1.len; have hl_zs_139 := t1.le
  refine pu1 ?_
  refine sT1 n4 3 9 (.slice f1 g1 h1) #[I s0.kind, I s0.a, I s0.b, .bool s0.barrier, I s0.edgePolicy, I s0.edgeFill, I s0.kW, I s0.kH, .slice s0.weights.a s0.weights.n s0.weights.k, .slice f1 g1 h1, .slice s0.col.a s0.col.n s0.col.k, I s0.shift, I s0.shift2, .slice s0.x.a s0.x.n s0.x.k, .slice s0.y.a s0.y.n s0.y.k, I s0.bins, .slice s0.ops.a s0.ops.n s0.ops.k, I s0.max_] Try.sizeOf22 ?_
  intro _ o4
  try dsimp only [List.set, List.eraseIdx, Value.cells] at o4
  refine nB ?_
  have p4 := ((((((o4.pick 5 rfl).pick 5 rfl).pick 3 rfl).pick 4 rfl).pick 5 rfl).pick 5 rfl)
  try dsimp only [List.set, List.eraseIdx, Value.cells] at p4
  have n8 : Sat W _ ([(p, .cells #[.slice a n k, I l4] 46 (0, 0))] :: [(a0, .cells #[I s0.kind, I s0.a, I s0.b, .bool s0.barrier, I s0.edgePolicy, I s0.edgeFill, I s0.kW, I s0.kH, .slice s0.weights.a s0.weights.n s0.weights.k, .slice f1 g1 h1, .slice s0.col.a s0.col.n s0.col.k, I s0.shift, I s0.shift2, .slice s0.x.a s0.x.n s0.x.k, .slice s0.y.a s0.y.n s0.y.k, I s0.bins, .slice s0.ops.a s0.ops.n s0.ops.k, I s0.max_] 61 (0, 0))] :: [(c0, .cells #[I 0, I 0, I 0, .bool false, I 0, I 0, I 0, I 0, .slice none 0 0, .slice none 0 0, .slice none 0 0, I 0, I 0, .slice none 0 0, .slice none 0 0, I 0, .slice none 0 0, I 0] 61 (0, 0))] :: (j4) :: J :: H :: F) := Sat.perm p4 (by simp)
  exact ⟨(⟨s0.kind, s0.a, s0.b, s0.barrier, s0.edgePolicy, s0.edgeFill, s0.kW, s0.kH, ⟨s0.weights.a, s0.weights.n, s0.weights.k, s0.weights.l⟩, ⟨f1, g1, h1, m8⟩, ⟨s0.col.a, s0.col.n, s0.col.k, s0.col.l⟩, s0.shift, s0.shift2, ⟨s0.x.a, s0.x.n, s0.x.k, s0.x.l⟩, ⟨s0.y.a, s0.y.n, s0.y.k, s0.y.l⟩, s0.bins, ⟨s0.ops.a, s0.ops.n, s0.ops.k, s0.ops.l⟩, s0.max_⟩ : Stage), (j4), l4, alA, n8, om, ⟨hs0.weights.of_mem mS, t1.of_mem mS, hs0.col.of_mem mS, hs0.x.of_mem mS, (fun z hz => (hs0.xD z hz).of_mem mS), hs0.y.of_mem mS, (fun z hz => (hs0.yD z hz).of_mem mS), hs0.ops.of_mem mS⟩, ⟨⟨nb, nb, nb, nb, nb, nb, nb, nb, nb, nb, nb⟩, ⟨by have h := hsB.2.1.1; dsimp only; omega, hsB.2.1.2⟩, ⟨by have h := k4.1; dsimp only; omega, k4.2⟩, ⟨by have h := hsB.2.2.2.1.1; dsimp only; omega, hsB.2.2.2.1.2⟩, ⟨by have h := hsB.2.2.2.2.1.1; dsimp only; omega, hsB.2.2.2.2.1.2⟩, ⟨by have h := hsB.2.2.2.2.2.1.1; dsimp only; omega, hsB.2.2.2.2.2.1.2⟩, ⟨by have h := hsB.2.2.2.2.2.2.1; dsimp only; omega, hsB.2.2.2.2.2.2.2⟩⟩⟩
 refine cF _ (beq_eq_false_iff_ne.2 g4) ?_
 refine sR <| pu2 <| nT ?_
 by_cases q4 : (g0 : Int) = 7
 ·refine cT _ (beq_iff_eq.2 q4) ?_
  refine regionE <| pu1 ?_
  refine sBS b0 #[I 0, I (-1), I 25, I 24] Try.runUnderlying22 Try.sizeOf3 Try.zeroValue3 ?_
  intro o8 _ p8
  have r4 := (p8.pick 1 rfl)
  try dsimp only [List.set, List.eraseIdx, Value.cells] at r4
  refine sF #[Pt p 0, .slice (At o8 0) 4 4] Try.call26 (Calls.mono (tape_pick W _ _ _ _ _ d0 _ _ [] (RdT.flat (hR.up 4 (by rfl))) om (Sat.flat1 r4) _ _ _ [0, -1, 25, 24] (RdT.flat (RdT.blk (enc := encI) (sz := 1) (xs := [0, -1, 25, 24]) (fun _ => (by rfl)) 4 0 rfl rfl rfl om)) om om) ?_)
  rintro _ _ ⟨k0, rfl, q8, r8, _, s4⟩
  refine ⟨_, rfl, ?_⟩
  have t4 := Sat.unflat1 s4; clear s4
  try dsimp only [List.set, List.eraseIdx, Value.cells] at t4
  have ad : (k0 : Int) = 0 ∨ (k0 : Int) = (-1) ∨ (k0 : Int) = 25 ∨ (k0 : Int) = 24 := by simpa using q8
  refine pu1 ?_
  refine sBS t4 #[I 0, I 25, I 3] Try.runUnderlying22 Try.sizeOf3 Try.zeroValue3 ?_
  intro s8 _ t8
  have u4 := (t8.pick 1 rfl)
  try dsimp only [List.set, List.eraseIdx, Value.cells] at u4
  refine sF #[Pt p 0, .slice (At s8 0) 3 3] Try.call26 (Calls.mono (tape_pick W _ _ _ _ _ r8 _ _ [] (RdT.flat (hR.up 5 (by rfl))) om (Sat.flat1 u4) _ _ _ [0, 25, 3] (RdT.flat (RdT.blk (enc := encI) (sz := 1) (xs := [0, 25, 3]) (fun _ => (by rfl)) 3 0 rfl rfl rfl om)) om om) ?_)
  rintro _ _ ⟨o0, rfl, u8, v4, _, w4⟩
  refine ⟨_, rfl, ?_⟩
  have x4 := Sat.unflat1 w4; clear w4
  try dsimp only [List.set, List.eraseIdx, Value.cells] at x4
  have ed : (o0 : Int) = 0 ∨ (o0 : Int) = 25 ∨ (o0 : Int) = 3 := by simpa using u8
  refine pu1 ?_
  refine sT1 x4 4 11 (I k0) #[I s0.kind, I s0.a, I s0.b, .bool s0.barrier, I s0.edgePolicy, I s0.edgeFill, I s0.kW, I s0.kH, .slice s0.weights.a s0.weights.n s0.weights.k, .slice s0.row.a s0.row.n s0.row.k, .slice s0.col.a s0.col.n s0.col.k, I k0, I s0.shift2, .slice s0.x.a s0.x.n s0.x.k, .slice s0.y.a s0.y.n s0.y.k, I s0.bins, .slice s0.ops.a s0.ops.n s0.ops.k, I s0.max_] Try.sizeOf3 ?_
  intro _ y4
  try dsimp only [List.set, List.eraseIdx, Value.cells] at y4
  refine pu1 ?_
  refine sT1 y4 4 12 (I o0) #[I s0.kind, I s0.a, I s0.b, .bool s0.barrier, I s0.edgePolicy, I s0.edgeFill, I s0.kW, I s0.kH, .slice s0.weights.a s0.weights.n s0.weights.k, .slice s0.row.a s0.row.n s0.row.k, .slice s0.col.a s0.col.n s0.col.k, I k0, I o0, .slice s0.x.a s0.x.n s0.x.k, .slice s0.y.a s0.y.n s0.y.k, I s0.bins, .slice s0.ops.a s0.ops.n s0.ops.k, I s0.max_] Try.sizeOf3 ?_
  intro _ z4
  try dsimp only [List.set, List.eraseIdx, Value.cells] at z4
  refine nB ?_
  have a5 := (((((((z4.pick 6 rfl).pick 6 rfl).pick 5 rfl).pick 6 rfl).pick 4 rfl).dropAt 5 rfl).dropAt 5 rfl)
  try dsimp only [List.set, List.eraseIdx, Value.cells] at a5
  have v8 : Sat W _ ([(p, .cells #[.slice a n k, I v4] 46 (0, 0))] :: [(a0, .cells #[I s0.kind, I s0.a, I s0.b, .bool s0.barrier, I s0.edgePolicy, I s0.edgeFill, I s0.kW, I s0.kH, .slice s0.weights.a s0.weights.n s0.weights.k, .slice s0.row.a s0.row.n s0.row.k, .slice s0.col.a s0.col.n s0.col.k, I k0, I o0, .slice s0.x.a s0.x.n s0.x.k, .slice s0.y.a s0.y.n s0.y.k, I s0.bins, .slice s0.ops.a s0.ops.n s0.ops.k, I s0.max_] 61 (0, 0))] :: [(c0, .cells #[I 0, I 0, I 0, .bool false, I 0, I 0, I 0, I 0, .slice none 0 0, .slice none 0 0, .slice none 0 0, I 0, I 0, .slice none 0 0, .slice none 0 0, I 0, .slice none 0 0, I 0] 61 (0, 0))] :: [] :: J :: H :: F) := Sat.perm a5 (by simp)
  exact ⟨(⟨s0.kind, s0.a, s0.b, s0.barrier, s0.edgePolicy, s0.edgeFill, s0.kW, s0.kH, ⟨s0.weights.a, s0.weights.n, s0.weights.k, s0.weights.l⟩, ⟨s0.row.a, s0.row.n, s0.row.k, s0.row.l⟩, ⟨s0.col.a, s0.col.n, s0.col.k, s0.col.l⟩, k0, o0, ⟨s0.x.a, s0.x.n, s0.x.k, s0.x.l⟩, ⟨s0.y.a, s0.y.n, s0.y.k, s0.y.l⟩, s0.bins, ⟨s0.ops.a, s0.ops.n, s0.ops.k, s0.ops.l⟩, s0.max_⟩ : Stage), [], v4, alA, v8, om, ⟨hs0.weights.of_mem mS, hs0.row.of_mem mS, hs0.col.of_mem mS, hs0.x.of_mem mS, (fun z hz => (hs0.xD z hz).of_mem mS), hs0.y.of_mem mS, (fun z hz => (hs0.yD z hz).of_mem mS), hs0.ops.of_mem mS⟩, ⟨⟨nb, nb, nb, nb, nb, nb, nb, nb, nb, nb, nb⟩, ⟨by have h := hsB.2.1.1; dsimp only; omega, hsB.2.1.2⟩, ⟨by have h := hsB.2.2.1.1; dsimp only; omega, hsB.2.2.1.2⟩, ⟨by have h := hsB.2.2.2.1.1; dsimp only; omega, hsB.2.2.2.1.2⟩, ⟨by have h := hsB.2.2.2.2.1.1; dsimp only; omega, hsB.2.2.2.2.1.2⟩, ⟨by have h := hsB.2.2.2.2.2.1.1; dsimp only; omega, hsB.2.2.2.2.2.1.2⟩, ⟨by have h := hsB.2.2.2.2.2.2.1; dsimp only; omega, hsB.2.2.2.2.2.2.2⟩⟩⟩
 refine cF _ (beq_eq_false_iff_ne.2 q4) ?_
 refine sR <| pu2 <| nT ?_
 by_cases b5 : (g0 : Int) = 8
 ·refine cT _ (beq_iff_eq.2 b5) ?_
  refine regionE ?_
  refine sBS b0 #[] Try.runUnderlying58 Try.sizeOf94 Try.zeroValue94 ?_
  intro w8 _ c5
  refine pu1 ?_
  refine sL c5 3 13 (.slice s0.x.a s0.x.n s0.x.k) (Try.isAgg58 _) ?_
  have x8 := OwnT.blk (enc := encTap) (sz := 2) (b := w8) (c := #[]) (E := 94) (xs := []) fR 0 rfl rfl rfl om
  refine sApp (nb := 32) c5 x8 0 (hs0.x.up 4 rfl) Try.underlying58 (i := Try.t94) kr fR ?_
  intro _ _ _ _ y8 d5
  try dsimp only [List.set, List.eraseIdx, Value.cells] at d5
  refine pu1 ?_
  refine sBS d5 #[I (-129), I 0, I 256, I 257] Try.runUnderlying22 Try.sizeOf3 Try.zeroValue3 ?_
  intro z8 _ a9
  have e5 := (a9.pick 2 rfl)
  try dsimp only [List.set, List.eraseIdx, Value.cells] at e5
  refine sF #[Pt p 0, .slice (At z8 0) 4 4] Try.call26 (Calls.mono (tape_pick W _ _ _ _ _ d0 _ _ [] (RdT.flat (hR.up 5 (by rfl))) om (Sat.flat1 e5) _ _ _ [-129, 0, 256, 257] (RdT.flat (RdT.blk (enc := encI) (sz := 1) (xs := [-129, 0, 256, 257]) (fun _ => (by rfl)) 4 0 rfl rfl rfl om)) om om) ?_)
  rintro _ _ ⟨p0, rfl, b9, c9, _, f5⟩
  refine ⟨_, rfl, ?_⟩
  have g5 := Sat.unflat1 f5; clear f5
  try dsimp only [List.set, List.eraseIdx, Value.cells] at g5
  have qd : (p0 : Int) = (-129) ∨ (p0 : Int) = 0 ∨ (p0 : Int) = 256 ∨ (p0 : Int) = 257 := by simpa using b9
  refine pu2 ?_
  refine sBS g5 #[I 0, I 1, I 8, I 9] Try.runUnderlying22 Try.sizeOf3 Try.zeroValue3 ?_
  intro d9 _ e9
  have h5 := (e9.pick 1 rfl)
  try dsimp only [List.set, List.eraseIdx, Value.cells] at h5
  refine sF #[Pt p 0, .slice (At d9 0) 4 4] Try.call26 (Calls.mono (tape_pick W _ _ _ _ _ c9 _ _ [] (RdT.flat (hR.up 6 (by rfl))) om (Sat.flat1 h5) _ _ _ [0, 1, 8, 9] (RdT.flat (RdT.blk (enc := encI) (sz := 1) (xs := [0, 1, 8, 9]) (fun _ => (by rfl)) 4 0 rfl rfl rfl om)) om om) ?_)
  rintro _ _ ⟨u0, rfl, f9, g9, _, i5⟩
  refine ⟨_, rfl, ?_⟩
  have u1 := Sat.unflat1 i5; clear i5
  try dsimp only [List.set, List.eraseIdx, Value.cells] at u1
  have ud : (u0 : Int) = 0 ∨ (u0 : Int) = 1 ∨ (u0 : Int) = 8 ∨ (u0 : Int) = 9 := by simpa using f9
  try dsimp only [List.set, List.eraseIdx, Value.cells] at u1
  refine sF #[Pt p 0, I u0] Try.call43 (Calls.mono (tg_weights W _ _ _ _ _ g9 _ _ [] (RdT.flat (hR.up 6 (by rfl))) om (Sat.flat1 u1) u0 om) ?_)
  rintro _ _ ⟨v1, w1, x1, j5, k5, rfl, y1, l5, m5, _, n5⟩
  refine ⟨_, rfl, ?_⟩
  have o5 := Sat.unflat2 n5; clear n5
  try dsimp only [List.set, List.eraseIdx, Value.cells] at o5
  have hn_zs_221 := y1.len; have hl_zs_221 := y1.le
  refine pu1 ?_
  refine sBS o5 #[I p0, .slice v1 w1 x1] Try.runUnderlying58 Try.sizeOf94 Try.zeroValue94 ?_
  intro _ _ h9
  refine sApp (nb := 32) h9 y8 5 (RdT.blk (enc := encTap) (sz := 2) (xs := [(⟨p0, ⟨v1, w1, x1, j5⟩⟩ : Tap)]) fR 1 0 rfl rfl rfl om) Try.underlying58 (i := Try.t94) kr fR ?_
  intro i1 j1 z1 _ i9 p5
  try dsimp only [List.set, List.eraseIdx, Value.cells] at p5
  refine pu1 ?_
  refine sT1 p5 7 13 (.slice i1 ((0 + s0.x.n) + 1) j1) #[I s0.kind, I s0.a, I s0.b, .bool s0.barrier, I s0.edgePolicy, I s0.edgeFill, I s0.kW, I s0.kH, .slice s0.weights.a s0.weights.n s0.weights.k, .slice s0.row.a s0.row.n s0.row.k, .slice s0.col.a s0.col.n s0.col.k, I s0.shift, I s0.shift2, .slice i1 ((0 + s0.x.n) + 1) j1, .slice s0.y.a s0.y.n s0.y.k, I s0.bins, .slice s0.ops.a s0.ops.n s0.ops.k, I s0.max_] Try.sizeOf58 ?_
  intro _ q5
  try dsimp only [List.set, List.eraseIdx, Value.cells] at q5
  refine nB ?_
  have r5 := ((((((((((q5.pick 9 rfl).pick 9 rfl).pick 4 rfl).pick 7 rfl).pick 8 rfl).pick 9 rfl).pick 7 rfl).dropAt 7 rfl).dropAt 7 rfl).dropAt 7 rfl)
  try dsimp only [List.set, List.eraseIdx, Value.cells] at r5
  have j9 : Sat W _ ([(p, .cells #[.slice a n k, I m5] 46 (0, 0))] :: [(a0, .cells #[I s0.kind, I s0.a, I s0.b, .bool s0.barrier, I s0.edgePolicy, I s0.edgeFill, I s0.kW, I s0.kH, .slice s0.weights.a s0.weights.n s0.weights.k, .slice s0.row.a s0.row.n s0.row.k, .slice s0.col.a s0.col.n s0.col.k, I s0.shift, I s0.shift2, .slice i1 ((0 + s0.x.n) + 1) j1, .slice s0.y.a s0.y.n s0.y.k, I s0.bins, .slice s0.ops.a s0.ops.n s0.ops.k, I s0.max_] 61 (0, 0))] :: [(c0, .cells #[I 0, I 0, I 0, .bool false, I 0, I 0, I 0, I 0, .slice none 0 0, .slice none 0 0, .slice none 0 0, I 0, I 0, .slice none 0 0, .slice none 0 0, I 0, .slice none 0 0, I 0] 61 (0, 0))] :: (z1 ++ k5) :: J :: H :: F) := Sat.perm r5 (by simp)
  exact ⟨(⟨s0.kind, s0.a, s0.b, s0.barrier, s0.edgePolicy, s0.edgeFill, s0.kW, s0.kH, ⟨s0.weights.a, s0.weights.n, s0.weights.k, s0.weights.l⟩, ⟨s0.row.a, s0.row.n, s0.row.k, s0.row.l⟩, ⟨s0.col.a, s0.col.n, s0.col.k, s0.col.l⟩, s0.shift, s0.shift2, ⟨i1, ((0 + s0.x.n) + 1), j1, (([] ++ s0.x.l) ++ [(⟨p0, ⟨v1, w1, x1, j5⟩⟩ : Tap)])⟩, ⟨s0.y.a, s0.y.n, s0.y.k, s0.y.l⟩, s0.bins, ⟨s0.ops.a, s0.ops.n, s0.ops.k, s0.ops.l⟩, s0.max_⟩ : Stage), (z1 ++ k5), m5, alA, j9, om, ⟨hs0.weights.of_mem mS, hs0.row.of_mem mS, hs0.col.of_mem mS, (i9.rdAt (cs := [z1]) 0 rfl).of_mem mS, (by
    intro z hz
    rcases List.mem_append.1 hz with h | h
    ·rw [List.nil_append] at h; exact (hs0.xD z h).of_mem mS
    ·simp only [List.mem_singleton] at h; rw [h]; exact ⟨y1.of_mem mS⟩), hs0.y.of_mem mS, (fun z hz => (hs0.yD z hz).of_mem mS), hs0.ops.of_mem mS⟩, ⟨⟨nb, nb, nb, nb, nb, nb, nb, nb, nb, nb, nb⟩, ⟨by have h := hsB.2.1.1; dsimp only; omega, hsB.2.1.2⟩, ⟨by have h := hsB.2.2.1.1; dsimp only; omega, hsB.2.2.1.2⟩, ⟨by have h := hsB.2.2.2.1.1; dsimp only; omega, hsB.2.2.2.1.2⟩, ⟨by have h := hsB.2.2.2.2.1.1; simp; omega, mem_snoc (base_any hsB.2.2.2.2.1.2) ⟨nb, by have h := l5.1; dsimp only; omega, l5.2⟩⟩, ⟨by have h := hsB.2.2.2.2.2.1.1; dsimp only; omega, hsB.2.2.2.2.2.1.2⟩, ⟨by have h := hsB.2.2.2.2.2.2.1; dsimp only; omega, hsB.2.2.2.2.2.2.2⟩⟩⟩
 refine cF _ (beq_eq_false_iff_ne.2 b5) ?_
 refine sR <| pu2 <| nT ?_
 by_cases s5 : (g0 : Int) = 9
 ·refine cT _ (beq_iff_eq.2 s5) ?_
  refine regionE <| pu1 ?_
  refine sBS b0 #[I 0, I 1, I 128, I 129] Try.runUnderlying22 Try.sizeOf3 Try.zeroValue3 ?_
  intro k9 _ l9
  have t5 := (l9.pick 1 rfl)
  try dsimp only [List.set, List.eraseIdx, Value.cells] at t5
  refine sF #[Pt p 0, .slice (At k9 0) 4 4] Try.call26 (Calls.mono (tape_pick W _ _ _ _ _ d0 _ _ [] (RdT.flat (hR.up 4 (by rfl))) om (Sat.flat1 t5) _ _ _ [0, 1, 128, 129] (RdT.flat (RdT.blk (enc := encI) (sz := 1) (xs := [0, 1, 128, 129]) (fun _ => (by rfl)) 4 0 rfl rfl rfl om)) om om) ?_)
  rintro _ _ ⟨m0, rfl, m9, u5, _, v5⟩
  refine ⟨_, rfl, ?_⟩
  have w5 := Sat.unflat1 v5; clear v5
  try dsimp only [List.set, List.eraseIdx, Value.cells] at w5
  have ee : (m0 : Int) = 0 ∨ (m0 : Int) = 1 ∨ (m0 : Int) = 128 ∨ (m0 : Int) = 129 := by simpa using m9
  refine pu1 ?_
  refine sT1 w5 3 15 (I m0) #[I s0.kind, I s0.a, I s0.b, .bool s0.barrier, I s0.edgePolicy, I s0.edgeFill, I s0.kW, I s0.kH, .slice s0.weights.a s0.weights.n s0.weights.k, .slice s0.row.a s0.row.n s0.row.k, .slice s0.col.a s0.col.n s0.col.k, I s0.shift, I s0.shift2, .slice s0.x.a s0.x.n s0.x.k, .slice s0.y.a s0.y.n s0.y.k, I m0, .slice s0.ops.a s0.ops.n s0.ops.k, I s0.max_] Try.sizeOf3 ?_
  intro _ x5
  try dsimp only [List.set, List.eraseIdx, Value.cells] at x5
  refine nB ?_
  have y5 := ((((((x5.pick 5 rfl).pick 5 rfl).pick 4 rfl).pick 5 rfl).pick 4 rfl).dropAt 5 rfl)
  try dsimp only [List.set, List.eraseIdx, Value.cells] at y5
  have n9 : Sat W _ ([(p, .cells #[.slice a n k, I u5] 46 (0, 0))] :: [(a0, .cells #[I s0.kind, I s0.a, I s0.b, .bool s0.barrier, I s0.edgePolicy, I s0.edgeFill, I s0.kW, I s0.kH, .slice s0.weights.a s0.weights.n s0.weights.k, .slice s0.row.a s0.row.n s0.row.k, .slice s0.col.a s0.col.n s0.col.k, I s0.shift, I s0.shift2, .slice s0.x.a s0.x.n s0.x.k, .slice s0.y.a s0.y.n s0.y.k, I m0, .slice s0.ops.a s0.ops.n s0.ops.k, I s0.max_] 61 (0, 0))] :: [(c0, .cells #[I 0, I 0, I 0, .bool false, I 0, I 0, I 0, I 0, .slice none 0 0, .slice none 0 0, .slice none 0 0, I 0, I 0, .slice none 0 0, .slice none 0 0, I 0, .slice none 0 0, I 0] 61 (0, 0))] :: [] :: J :: H :: F) := Sat.perm y5 (by simp)
  exact ⟨(⟨s0.kind, s0.a, s0.b, s0.barrier, s0.edgePolicy, s0.edgeFill, s0.kW, s0.kH, ⟨s0.weights.a, s0.weights.n, s0.weights.k, s0.weights.l⟩, ⟨s0.row.a, s0.row.n, s0.row.k, s0.row.l⟩, ⟨s0.col.a, s0.col.n, s0.col.k, s0.col.l⟩, s0.shift, s0.shift2, ⟨s0.x.a, s0.x.n, s0.x.k, s0.x.l⟩, ⟨s0.y.a, s0.y.n, s0.y.k, s0.y.l⟩, m0, ⟨s0.ops.a, s0.ops.n, s0.ops.k, s0.ops.l⟩, s0.max_⟩ : Stage), [], u5, alA, n9, om, ⟨hs0.weights.of_mem mS, hs0.row.of_mem mS, hs0.col.of_mem mS, hs0.x.of_mem mS, (fun z hz => (hs0.xD z hz).of_mem mS), hs0.y.of_mem mS, (fun z hz => (hs0.yD z hz).of_mem mS), hs0.ops.of_mem mS⟩, ⟨⟨nb, nb, nb, nb, nb, nb, nb, nb, nb, nb, nb⟩, ⟨by have h := hsB.2.1.1; dsimp only; omega, hsB.2.1.2⟩, ⟨by have h := hsB.2.2.1.1; dsimp only; omega, hsB.2.2.1.2⟩, ⟨by have h := hsB.2.2.2.1.1; dsimp only; omega, hsB.2.2.2.1.2⟩, ⟨by have h := hsB.2.2.2.2.1.1; dsimp only; omega, hsB.2.2.2.2.1.2⟩, ⟨by have h := hsB.2.2.2.2.2.1.1; dsimp only; omega, hsB.2.2.2.2.2.1.2⟩, ⟨by have h := hsB.2.2.2.2.2.2.1; dsimp only; omega, hsB.2.2.2.2.2.2.2⟩⟩⟩
 refine cF _ (beq_eq_false_iff_ne.2 s5) ?_
 refine sR <| pu2 <| nT ?_
 by_cases z5 : (g0 : Int) = 10
 ·refine cT _ (beq_iff_eq.2 z5) ?_
  refine regionE ?_
  refine sBS b0 #[] Try.runUnderlying59 Try.sizeOf66 Try.zeroValue66 ?_
  intro o9 _ a6
  refine pu1 ?_
  refine sL a6 3 16 (.slice s0.ops.a s0.ops.n s0.ops.k) (Try.isAgg59 _) ?_
  have p9 := OwnT.blk (enc := encPOp) (sz := 2) (b := o9) (c := #[]) (E := 66) (xs := []) fR 0 rfl rfl rfl om
  refine sApp (nb := 16) a6 p9 0 (hs0.ops.up 4 rfl) Try.underlying59 (i := Try.t66) kr fR ?_
  intro _ _ _ _ q9 b6
  try dsimp only [List.set, List.eraseIdx, Value.cells] at b6
  refine pu1 ?_
  have c6 := (b6.pick 1 rfl)
  try dsimp only [List.set, List.eraseIdx, Value.cells] at c6
  refine sF #[Pt p 0, I 14] Try.call19 (Calls.mono (tape_next W _ _ _ _ _ d0 _ _ [] (RdT.flat (hR.up 4 (by rfl))) om (Sat.flat1 c6) 14 om) ?_)
  rintro _ _ ⟨k1, rfl, _, r9, _, d6⟩
  refine ⟨_, rfl, ?_⟩
  have e6 := Sat.unflat1 d6; clear d6
  try dsimp only [List.set, List.eraseIdx, Value.cells] at e6
  refine sSub k1 1 ?_
  refine pu1 ?_
  refine sBS e6 #[I 0, I 1, I 25, I (-5)] Try.runUnderlying22 Try.sizeOf3 Try.zeroValue3 ?_
  intro s9 _ t9
  have f6 := (t9.pick 1 rfl)
  try dsimp only [List.set, List.eraseIdx, Value.cells] at f6
  refine sF #[Pt p 0, .slice (At s9 0) 4 4] Try.call26 (Calls.mono (tape_pick W _ _ _ _ _ r9 _ _ [] (RdT.flat (hR.up 5 (by rfl))) om (Sat.flat1 f6) _ _ _ [0, 1, 25, -5] (RdT.flat (RdT.blk (enc := encI) (sz := 1) (xs := [0, 1, 25, -5]) (fun _ => (by rfl)) 4 0 rfl rfl rfl om)) om om) ?_)
  rintro _ _ ⟨q0, rfl, u9, g6, _, h6⟩
  refine ⟨_, rfl, ?_⟩
  have i6 := Sat.unflat1 h6; clear h6
  try dsimp only [List.set, List.eraseIdx, Value.cells] at i6
  have se : (q0 : Int) = 0 ∨ (q0 : Int) = 1 ∨ (q0 : Int) = 25 ∨ (q0 : Int) = (-5) := by simpa using u9
  refine pu1 ?_
  refine sBS i6 #[I (k1 - 1), I q0] Try.runUnderlying59 Try.sizeOf66 Try.zeroValue66 ?_
  intro _ _ v9
  refine sApp (nb := 16) v9 q9 3 (RdT.blk (enc := encPOp) (sz := 2) (xs := [(⟨(k1 - 1), q0⟩ : POp)]) fR 1 0 rfl rfl rfl om) Try.underlying59 (i := Try.t66) kr fR ?_
  intro l1 m1 a2 _ w9 j6
  try dsimp only [List.set, List.eraseIdx, Value.cells] at j6
  refine pu1 ?_
  refine sT1 j6 5 16 (.slice l1 ((0 + s0.ops.n) + 1) m1) #[I s0.kind, I s0.a, I s0.b, .bool s0.barrier, I s0.edgePolicy, I s0.edgeFill, I s0.kW, I s0.kH, .slice s0.weights.a s0.weights.n s0.weights.k, .slice s0.row.a s0.row.n s0.row.k, .slice s0.col.a s0.col.n s0.col.k, I s0.shift, I s0.shift2, .slice s0.x.a s0.x.n s0.x.k, .slice s0.y.a s0.y.n s0.y.k, I s0.bins, .slice l1 ((0 + s0.ops.n) + 1) m1, I s0.max_] Try.sizeOf59 ?_
  intro _ k6
  try dsimp only [List.set, List.eraseIdx, Value.cells] at k6
  refine nB ?_
  have l6 := ((((((((k6.pick 7 rfl).pick 7 rfl).pick 5 rfl).pick 6 rfl).pick 7 rfl).pick 6 rfl).dropAt 6 rfl).dropAt 6 rfl)
  try dsimp only [List.set, List.eraseIdx, Value.cells] at l6
  have x9 : Sat W _ ([(p, .cells #[.slice a n k, I g6] 46 (0, 0))] :: [(a0, .cells #[I s0.kind, I s0.a, I s0.b, .bool s0.barrier, I s0.edgePolicy, I s0.edgeFill, I s0.kW, I s0.kH, .slice s0.weights.a s0.weights.n s0.weights.k, .slice s0.row.a s0.row.n s0.row.k, .slice s0.col.a s0.col.n s0.col.k, I s0.shift, I s0.shift2, .slice s0.x.a s0.x.n s0.x.k, .slice s0.y.a s0.y.n s0.y.k, I s0.bins, .slice l1 ((0 + s0.ops.n) + 1) m1, I s0.max_] 61 (0, 0))] :: [(c0, .cells #[I 0, I 0, I 0, .bool false, I 0, I 0, I 0, I 0, .slice none 0 0, .slice none 0 0, .slice none 0 0, I 0, I 0, .slice none 0 0, .slice none 0 0, I 0, .slice none 0 0, I 0] 61 (0, 0))] :: (a2) :: J :: H :: F) := Sat.perm l6 (by simp)
  exact ⟨(⟨s0.kind, s0.a, s0.b, s0.barrier, s0.edgePolicy, s0.edgeFill, s0.kW, s0.kH, ⟨s0.weights.a, s0.weights.n, s0.weights.k, s0.weights.l⟩, ⟨s0.row.a, s0.row.n, s0.row.k, s0.row.l⟩, ⟨s0.col.a, s0.col.n, s0.col.k, s0.col.l⟩, s0.shift, s0.shift2, ⟨s0.x.a, s0.x.n, s0.x.k, s0.x.l⟩, ⟨s0.y.a, s0.y.n, s0.y.k, s0.y.l⟩, s0.bins, ⟨l1, ((0 + s0.ops.n) + 1), m1, (([] ++ s0.ops.l) ++ [(⟨(k1 - 1), q0⟩ : POp)])⟩, s0.max_⟩ : Stage), (a2), g6, alA, x9, om, ⟨hs0.weights.of_mem mS, hs0.row.of_mem mS, hs0.col.of_mem mS, hs0.x.of_mem mS, (fun z hz => (hs0.xD z hz).of_mem mS), hs0.y.of_mem mS, (fun z hz => (hs0.yD z hz).of_mem mS), (w9.rdAt (cs := [a2]) 0 rfl).of_mem mS⟩, ⟨⟨nb, nb, nb, nb, nb, nb, nb, nb, nb, nb, nb⟩, ⟨by have h := hsB.2.1.1; dsimp only; omega, hsB.2.1.2⟩, ⟨by have h := hsB.2.2.1.1; dsimp only; omega, hsB.2.2.1.2⟩, ⟨by have h := hsB.2.2.2.1.1; dsimp only; omega, hsB.2.2.2.1.2⟩, ⟨by have h := hsB.2.2.2.2.1.1; dsimp only; omega, hsB.2.2.2.2.1.2⟩, ⟨by have h := hsB.2.2.2.2.2.1.1; dsimp only; omega, hsB.2.2.2.2.2.1.2⟩, ⟨by have h := hsB.2.2.2.2.2.2.1; simp; omega, mem_snoc (base_any hsB.2.2.2.2.2.2.2) ⟨nb, nb⟩⟩⟩⟩
 refine cF _ (beq_eq_false_iff_ne.2 z5) ?_
 refine sR <| pu2 <| nT ?_
 by_cases m6 : (g0 : Int) = 11
 ·refine cT _ (beq_iff_eq.2 m6) ?_
  refine regionE <| pu1 ?_
  refine sBS b0 #[I 0, I 1, I 4294967296, I 4294967297] Try.runUnderlying22 Try.sizeOf3 Try.zeroValue3 ?_
  intro y9 _ z9
  have n6 := (z9.pick 1 rfl)
  try dsimp only [List.set, List.eraseIdx, Value.cells] at n6
  refine sF #[Pt p 0, .slice (At y9 0) 4 4] Try.call26 (Calls.mono (tape_pick W _ _ _ _ _ d0 _ _ [] (RdT.flat (hR.up 4 (by rfl))) om (Sat.flat1 n6) _ _ _ [0, 1, 4294967296, 4294967297] (RdT.flat (RdT.blk (enc := encI) (sz := 1) (xs := [0, 1, 4294967296, 4294967297]) (fun _ => (by rfl)) 4 0 rfl rfl rfl om)) om om) ?_)
  rintro _ _ ⟨n0, rfl, aa, o6, _, p6⟩
  refine ⟨_, rfl, ?_⟩
  have q6 := Sat.unflat1 p6; clear p6
  try dsimp only [List.set, List.eraseIdx, Value.cells] at q6
  have af : (n0 : Int) = 0 ∨ (n0 : Int) = 1 ∨ (n0 : Int) = 4294967296 ∨ (n0 : Int) = 4294967297 := by simpa using aa
  refine pu1 ?_
  refine sT1 q6 3 17 (I n0) #[I s0.kind, I s0.a, I s0.b, .bool s0.barrier, I s0.edgePolicy, I s0.edgeFill, I s0.kW, I s0.kH, .slice s0.weights.a s0.weights.n s0.weights.k, .slice s0.row.a s0.row.n s0.row.k, .slice s0.col.a s0.col.n s0.col.k, I s0.shift, I s0.shift2, .slice s0.x.a s0.x.n s0.x.k, .slice s0.y.a s0.y.n s0.y.k, I s0.bins, .slice s0.ops.a s0.ops.n s0.ops.k, I n0] Try.sizeOf3 ?_
  intro _ r6
  try dsimp only [List.set, List.eraseIdx, Value.cells] at r6
  refine nB ?_
  have s6 := ((((((r6.pick 5 rfl).pick 5 rfl).pick 4 rfl).pick 5 rfl).pick 4 rfl).dropAt 5 rfl)
  try dsimp only [List.set, List.eraseIdx, Value.cells] at s6
  have ba : Sat W _ ([(p, .cells #[.slice a n k, I o6] 46 (0, 0))] :: [(a0, .cells #[I s0.kind, I s0.a, I s0.b, .bool s0.barrier, I s0.edgePolicy, I s0.edgeFill, I s0.kW, I s0.kH, .slice s0.weights.a s0.weights.n s0.weights.k, .slice s0.row.a s0.row.n s0.row.k, .slice s0.col.a s0.col.n s0.col.k, I s0.shift, I s0.shift2, .slice s0.x.a s0.x.n s0.x.k, .slice s0.y.a s0.y.n s0.y.k, I s0.bins, .slice s0.ops.a s0.ops.n s0.ops.k, I n0] 61 (0, 0))] :: [(c0, .cells #[I 0, I 0, I 0, .bool false, I 0, I 0, I 0, I 0, .slice none 0 0, .slice none 0 0, .slice none 0 0, I 0, I 0, .slice none 0 0, .slice none 0 0, I 0, .slice none 0 0, I 0] 61 (0, 0))] :: [] :: J :: H :: F) := Sat.perm s6 (by simp)
  exact ⟨(⟨s0.kind, s0.a, s0.b, s0.barrier, s0.edgePolicy, s0.edgeFill, s0.kW, s0.kH, ⟨s0.weights.a, s0.weights.n, s0.weights.k, s0.weights.l⟩, ⟨s0.row.a, s0.row.n, s0.row.k, s0.row.l⟩, ⟨s0.col.a, s0.col.n, s0.col.k, s0.col.l⟩, s0.shift, s0.shift2, ⟨s0.x.a, s0.x.n, s0.x.k, s0.x.l⟩, ⟨s0.y.a, s0.y.n, s0.y.k, s0.y.l⟩, s0.bins, ⟨s0.ops.a, s0.ops.n, s0.ops.k, s0.ops.l⟩, n0⟩ : Stage), [], o6, alA, ba, om, ⟨hs0.weights.of_mem mS, hs0.row.of_mem mS, hs0.col.of_mem mS, hs0.x.of_mem mS, (fun z hz => (hs0.xD z hz).of_mem mS), hs0.y.of_mem mS, (fun z hz => (hs0.yD z hz).of_mem mS), hs0.ops.of_mem mS⟩, ⟨⟨nb, nb, nb, nb, nb, nb, nb, nb, nb, nb, nb⟩, ⟨by have h := hsB.2.1.1; dsimp only; omega, hsB.2.1.2⟩, ⟨by have h := hsB.2.2.1.1; dsimp only; omega, hsB.2.2.1.2⟩, ⟨by have h := hsB.2.2.2.1.1; dsimp only; omega, hsB.2.2.2.1.2⟩, ⟨by have h := hsB.2.2.2.2.1.1; dsimp only; omega, hsB.2.2.2.2.1.2⟩, ⟨by have h := hsB.2.2.2.2.2.1.1; dsimp only; omega, hsB.2.2.2.2.2.1.2⟩, ⟨by have h := hsB.2.2.2.2.2.2.1; dsimp only; omega, hsB.2.2.2.2.2.2.2⟩⟩⟩
 refine cF _ (beq_eq_false_iff_ne.2 m6) ?_
 refine sR <| pu2 <| nT ?_
 by_cases t6 : (g0 : Int) = 12
 rotate_left
 ·refine cF _ (beq_eq_false_iff_ne.2 t6) ?_
  refine regionE <| pu1 ?_
  refine sL b0 2 3 (.bool s0.barrier) (Try.isAgg4 _) ?_
  refine pu2 ?_
  refine sT1 b0 2 3 (.bool (!s0.barrier)) #[I s0.kind, I s0.a, I s0.b, .bool (!s0.barrier), I s0.edgePolicy, I s0.edgeFill, I s0.kW, I s0.kH, .slice s0.weights.a s0.weights.n s0.weights.k, .slice s0.row.a s0.row.n s0.row.k, .slice s0.col.a s0.col.n s0.col.k, I s0.shift, I s0.shift2, .slice s0.x.a s0.x.n s0.x.k, .slice s0.y.a s0.y.n s0.y.k, I s0.bins, .slice s0.ops.a s0.ops.n s0.ops.k, I s0.max_] Try.sizeOf4 ?_
  intro _ u6
  try dsimp only [List.set, List.eraseIdx, Value.cells] at u6
  refine nB ?_
  have v6 := (((((u6.pick 4 rfl).pick 4 rfl).pick 3 rfl).pick 4 rfl).pick 4 rfl)
  try dsimp only [List.set, List.eraseIdx, Value.cells] at v6
  have ca : Sat W _ ([(p, .cells #[.slice a n k, I d0] 46 (0, 0))] :: [(a0, .cells #[I s0.kind, I s0.a, I s0.b, .bool (!s0.barrier), I s0.edgePolicy, I s0.edgeFill, I s0.kW, I s0.kH, .slice s0.weights.a s0.weights.n s0.weights.k, .slice s0.row.a s0.row.n s0.row.k, .slice s0.col.a s0.col.n s0.col.k, I s0.shift, I s0.shift2, .slice s0.x.a s0.x.n s0.x.k, .slice s0.y.a s0.y.n s0.y.k, I s0.bins, .slice s0.ops.a s0.ops.n s0.ops.k, I s0.max_] 61 (0, 0))] :: [(c0, .cells #[I 0, I 0, I 0, .bool false, I 0, I 0, I 0, I 0, .slice none 0 0, .slice none 0 0, .slice none 0 0, I 0, I 0, .slice none 0 0, .slice none 0 0, I 0, .slice none 0 0, I 0] 61 (0, 0))] :: [] :: J :: H :: F) := Sat.perm v6 (by simp)
  exact ⟨(⟨s0.kind, s0.a, s0.b, (!s0.barrier), s0.edgePolicy, s0.edgeFill, s0.kW, s0.kH, ⟨s0.weights.a, s0.weights.n, s0.weights.k, s0.weights.l⟩, ⟨s0.row.a, s0.row.n, s0.row.k, s0.row.l⟩, ⟨s0.col.a, s0.col.n, s0.col.k, s0.col.l⟩, s0.shift, s0.shift2, ⟨s0.x.a, s0.x.n, s0.x.k, s0.x.l⟩, ⟨s0.y.a, s0.y.n, s0.y.k, s0.y.l⟩, s0.bins, ⟨s0.ops.a, s0.ops.n, s0.ops.k, s0.ops.l⟩, s0.max_⟩ : Stage), [], d0, alA, ca, om, ⟨hs0.weights.of_mem mS, hs0.row.of_mem mS, hs0.col.of_mem mS, hs0.x.of_mem mS, (fun z hz => (hs0.xD z hz).of_mem mS), hs0.y.of_mem mS, (fun z hz => (hs0.yD z hz).of_mem mS), hs0.ops.of_mem mS⟩, ⟨⟨nb, nb, nb, nb, nb, nb, nb, nb, nb, nb, nb⟩, ⟨by have h := hsB.2.1.1; dsimp only; omega, hsB.2.1.2⟩, ⟨by have h := hsB.2.2.1.1; dsimp only; omega, hsB.2.2.1.2⟩, ⟨by have h := hsB.2.2.2.1.1; dsimp only; omega, hsB.2.2.2.1.2⟩, ⟨by have h := hsB.2.2.2.2.1.1; dsimp only; omega, hsB.2.2.2.2.1.2⟩, ⟨by have h := hsB.2.2.2.2.2.1.1; dsimp only; omega, hsB.2.2.2.2.2.1.2⟩, ⟨by have h := hsB.2.2.2.2.2.2.1; dsimp only; omega, hsB.2.2.2.2.2.2.2⟩⟩⟩
 refine cT _ (beq_iff_eq.2 t6) ?_
 refine sR ?_
 refine sBS b0 #[] Try.runUnderlying22 Try.sizeOf3 Try.zeroValue3 ?_
 intro da _ w6
 refine pu1 ?_
 refine sL w6 3 8 (.slice s0.weights.a s0.weights.n s0.weights.k) (Try.isAgg22 _) ?_
 have ea := OwnT.blk (enc := encI) (sz := 1) (b := da) (c := #[]) (E := 3) (xs := []) fR 0 rfl rfl rfl om
 refine sApp (nb := 8) w6 ea 0 (hs0.weights.up 4 rfl) Try.underlying22 (i := Try.t3) kr fR ?_
 intro e0 f0 b2 _ x0 x6
 try dsimp only [List.set, List.eraseIdx, Value.cells] at x6
 refine pu1 ?_
 refine sT1 x6 3 8 (.slice e0 (0 + s0.weights.n) f0) #[I s0.kind, I s0.a, I s0.b, .bool s0.barrier, I s0.edgePolicy, I s0.edgeFill, I s0.kW, I s0.kH, .slice e0 (0 + s0.weights.n) f0, .slice s0.row.a s0.row.n s0.row.k, .slice s0.col.a s0.col.n s0.col.k, I s0.shift, I s0.shift2, .slice s0.x.a s0.x.n s0.x.k, .slice s0.y.a s0.y.n s0.y.k, I s0.bins, .slice s0.ops.a s0.ops.n s0.ops.k, I s0.max_] Try.sizeOf22 ?_
 intro _ v0
 try dsimp only [List.set, List.eraseIdx, Value.cells] at v0
 refine nT <| sR <| pu1 ?_
 refine sL v0 3 8 (.slice e0 (0 + s0.weights.n) f0) (Try.isAgg22 _) ?_
 refine pu2 <| nT ?_
 by_cases y6 : ((((0 + s0.weights.n) : Nat) : Int) : Int) > 0
 rotate_left
 ·refine cF _ (decide_eq_false y6) ?_
  refine skipE <| blockK_n <| thenK_n ?_
  have z6 := ((((((v0.pick 5 rfl).pick 5 rfl).pick 2 rfl).pick 4 rfl).pick 5 rfl).pick 5 rfl)
  try dsimp only [List.set, List.eraseIdx, Value.cells] at z6
  have fa : Sat W _ ([(p, .cells #[.slice a n k, I d0] 46 (0, 0))] :: [(a0, .cells #[I s0.kind, I s0.a, I s0.b, .bool s0.barrier, I s0.edgePolicy, I s0.edgeFill, I s0.kW, I s0.kH, .slice e0 (0 + s0.weights.n) f0, .slice s0.row.a s0.row.n s0.row.k, .slice s0.col.a s0.col.n s0.col.k, I s0.shift, I s0.shift2, .slice s0.x.a s0.x.n s0.x.k, .slice s0.y.a s0.y.n s0.y.k, I s0.bins, .slice s0.ops.a s0.ops.n s0.ops.k, I s0.max_] 61 (0, 0))] :: [(c0, .cells #[I 0, I 0, I 0, .bool false, I 0, I 0, I 0, I 0, .slice none 0 0, .slice none 0 0, .slice none 0 0, I 0, I 0, .slice none 0 0, .slice none 0 0, I 0, .slice none 0 0, I 0] 61 (0, 0))] :: (b2) :: J :: H :: F) := Sat.perm z6 (by simp)
  exact ⟨(⟨s0.kind, s0.a, s0.b, s0.barrier, s0.edgePolicy, s0.edgeFill, s0.kW, s0.kH, ⟨e0, (0 + s0.weights.n), f0, ([] ++ s0.weights.l)⟩, ⟨s0.row.a, s0.row.n, s0.row.k, s0.row.l⟩, ⟨s0.col.a, s0.col.n, s0.col.k, s0.col.l⟩, s0.shift, s0.shift2, ⟨s0.x.a, s0.x.n, s0.x.k, s0.x.l⟩, ⟨s0.y.a, s0.y.n, s0.y.k, s0.y.l⟩, s0.bins, ⟨s0.ops.a, s0.ops.n, s0.ops.k, s0.ops.l⟩, s0.max_⟩ : Stage), (b2), d0, alA, fa, om, ⟨(x0.rdAt (cs := [b2]) 0 rfl).of_mem mS, hs0.row.of_mem mS, hs0.col.of_mem mS, hs0.x.of_mem mS, (fun z hz => (hs0.xD z hz).of_mem mS), hs0.y.of_mem mS, (fun z hz => (hs0.yD z hz).of_mem mS), hs0.ops.of_mem mS⟩, ⟨⟨nb, nb, nb, nb, nb, nb, nb, nb, nb, nb, nb⟩, ⟨by have h := hsB.2.1.1; simp; omega, base_any hsB.2.1.2⟩, ⟨by have h := hsB.2.2.1.1; dsimp only; omega, hsB.2.2.1.2⟩, ⟨by have h := hsB.2.2.2.1.1; dsimp only; omega, hsB.2.2.2.1.2⟩, ⟨by have h := hsB.2.2.2.2.1.1; dsimp only; omega, hsB.2.2.2.2.1.2⟩, ⟨by have h := hsB.2.2.2.2.2.1.1; dsimp only; omega, hsB.2.2.2.2.2.1.2⟩, ⟨by have h := hsB.2.2.2.2.2.2.1; dsimp only; omega, hsB.2.2.2.2.2.2.2⟩⟩⟩
 refine cT _ (decide_eq_true y6) ?_
 refine drawP [6, 8, 9, 11] [(1, ⟨a0, 8, none⟩, .slice e0 (0 + s0.weights.n) f0), (4, ⟨a0, 8, none⟩, .slice e0 (0 + s0.weights.n) f0)] (Plan.sts [0, 2, 3, 7] <| Plan.sts [1] <| Plan.sts [4] <| Plan.sts [5] <| .fk 6 8 (.ef 8 <| .ef 9 <| Plan.sts [10] <| .ef 11 <| .fin) (.ef 6 <| .ef 9 <| Plan.sts [10] <| .ef 11 <| .fin)) rfl kr ⟨.inr (v0.cell 3 rfl rfl), .inr (v0.cell 3 rfl rfl), trivial⟩ ?_
 have a7 := v0.drew
 refine qU [0, 2, 3, 7] ?_
 refine qS (.slice e0 (0 + s0.weights.n) f0) rfl rfl rfl (fun w hF => Y_load rfl (Try.isAgg22 w) kr (hF 0 _ _ rfl)) ?_
 refine qS (.slice e0 (0 + s0.weights.n) f0) rfl rfl rfl (fun w hF => Y_load rfl (Try.isAgg22 w) kr (hF 1 _ _ rfl)) ?_
 refine qU [5] ?_
 refine qF ?_ ?_
 rotate_left
 ·refine qO rfl ?_
  refine sBS a7 #[I 32767, I (-32768), I 0] Try.runUnderlying22 Try.sizeOf3 Try.zeroValue3 ?_
  intro ga _ c2
  refine nilO ⟨⟨.inr (c2.cell 4 rfl rfl), .inr (c2.cell 4 rfl rfl), trivial⟩, ?_⟩
  refine qO rfl ?_
  have b7 := (c2.pick 2 rfl)
  try dsimp only [List.set, List.eraseIdx, Value.cells] at b7
  refine sF #[Pt p 0, I (((0 + s0.weights.n) : Nat) : Int)] Try.call19 (Calls.mono (tape_next W _ _ _ _ _ d0 _ _ [] (RdT.flat (hR.up 5 (by rfl))) om (Sat.flat1 b7) (((0 + s0.weights.n) : Nat) : Int) om) ?_)
  rintro _ _ ⟨y0, rfl, _, ha, _, c7⟩
  refine ⟨_, rfl, ?_⟩
  have z0 := Sat.unflat1 c7; clear c7
  try dsimp only [List.set, List.eraseIdx, Value.cells] at z0
  refine nilO ⟨⟨.inr (z0.cell 4 rfl rfl), .inr (z0.cell 4 rfl rfl), trivial⟩, ?_⟩
  refine qO rfl ?_
  try dsimp only [List.set, List.eraseIdx, Value.cells] at z0
  refine sF #[Pt p 0, .slice (At ga 0) 3 3] Try.call26 (Calls.mono (tape_pick W _ _ _ _ _ ha _ _ [] (RdT.flat (hR.up 5 (by rfl))) om (Sat.flat1 z0) _ _ _ [32767, -32768, 0] (RdT.flat (RdT.blk (enc := encI) (sz := 1) (xs := [32767, -32768, 0]) (fun _ => (by rfl)) 3 0 rfl rfl rfl om)) om om) ?_)
  rintro _ _ ⟨r0, rfl, ia, d7, _, e7⟩
  refine ⟨_, rfl, ?_⟩
  have n1 := Sat.unflat1 e7; clear e7
  try dsimp only [List.set, List.eraseIdx, Value.cells] at n1
  have pf : (r0 : Int) = 32767 ∨ (r0 : Int) = (-32768) ∨ (r0 : Int) = 0 := by simpa using ia
  refine nilO ⟨⟨.inr (n1.cell 4 rfl rfl), .inr (n1.cell 4 rfl rfl), trivial⟩, ?_⟩
  obtain ⟨ja, ka, la, ma, qf, na, oa⟩ := OwnT.elem x0 y0
  refine qS (.pointer (some ⟨ka, la + (y0).toNat * 1, none⟩)) rfl rfl rfl (fun w _ => Y_idx (a := e0) (i := y0) (len := (0 + s0.weights.n)) (cap := f0) rfl Try.runUnderlying22 Try.sizeOf3 kr kr na) ?_
  refine qO rfl ?_
  refine sStF n1 x0 oa 2 (y0).toNat 0 ja r0 ma (I r0) [I r0] Try.sizeOf3 ?_
  intro _ d2 pa f7
  try dsimp only [List.set, List.eraseIdx, Value.cells] at f7
  refine nilO ⟨dA, ?_⟩
  refine qN ?_
  refine blockK_n <| thenK_n ?_
  have g7 := (((((((f7.pick 6 rfl).pick 6 rfl).pick 4 rfl).pick 5 rfl).pick 6 rfl).pick 5 rfl).dropAt 6 rfl)
  try dsimp only [List.set, List.eraseIdx, Value.cells] at g7
  have qa : Sat W _ ([(p, .cells #[.slice a n k, I d7] 46 (0, 0))] :: [(a0, .cells #[I s0.kind, I s0.a, I s0.b, .bool s0.barrier, I s0.edgePolicy, I s0.edgeFill, I s0.kW, I s0.kH, .slice e0 (0 + s0.weights.n) f0, .slice s0.row.a s0.row.n s0.row.k, .slice s0.col.a s0.col.n s0.col.k, I s0.shift, I s0.shift2, .slice s0.x.a s0.x.n s0.x.k, .slice s0.y.a s0.y.n s0.y.k, I s0.bins, .slice s0.ops.a s0.ops.n s0.ops.k, I s0.max_] 61 (0, 0))] :: [(c0, .cells #[I 0, I 0, I 0, .bool false, I 0, I 0, I 0, I 0, .slice none 0 0, .slice none 0 0, .slice none 0 0, I 0, I 0, .slice none 0 0, .slice none 0 0, I 0, .slice none 0 0, I 0] 61 (0, 0))] :: (d2) :: J :: H :: F) := Sat.perm g7 (by simp)
  exact ⟨(⟨s0.kind, s0.a, s0.b, s0.barrier, s0.edgePolicy, s0.edgeFill, s0.kW, s0.kH, ⟨e0, (0 + s0.weights.n), f0, (([] ++ s0.weights.l).set ((y0).toNat) r0)⟩, ⟨s0.row.a, s0.row.n, s0.row.k, s0.row.l⟩, ⟨s0.col.a, s0.col.n, s0.col.k, s0.col.l⟩, s0.shift, s0.shift2, ⟨s0.x.a, s0.x.n, s0.x.k, s0.x.l⟩, ⟨s0.y.a, s0.y.n, s0.y.k, s0.y.l⟩, s0.bins, ⟨s0.ops.a, s0.ops.n, s0.ops.k, s0.ops.l⟩, s0.max_⟩ : Stage), (d2), d7, alA, qa, om, ⟨(pa.rdAt (cs := [d2]) 0 rfl).of_mem mS, hs0.row.of_mem mS, hs0.col.of_mem mS, hs0.x.of_mem mS, (fun z hz => (hs0.xD z hz).of_mem mS), hs0.y.of_mem mS, (fun z hz => (hs0.yD z hz).of_mem mS), hs0.ops.of_mem mS⟩, ⟨⟨nb, nb, nb, nb, nb, nb, nb, nb, nb, nb, nb⟩, ⟨by have h := hsB.2.1.1; simp; omega, mem_set (base_any hsB.2.1.2) nb⟩, ⟨by have h := hsB.2.2.1.1; dsimp only; omega, hsB.2.2.1.2⟩, ⟨by have h := hsB.2.2.2.1.1; dsimp only; omega, hsB.2.2.2.1.2⟩, ⟨by have h := hsB.2.2.2.2.1.1; dsimp only; omega, hsB.2.2.2.2.1.2⟩, ⟨by have h := hsB.2.2.2.2.2.1.1; dsimp only; omega, hsB.2.2.2.2.2.1.2⟩, ⟨by have h := hsB.2.2.2.2.2.2.1; dsimp only; omega, hsB.2.2.2.2.2.2.2⟩⟩⟩
 refine qO rfl ?_
 have h7 := (a7.pick 1 rfl)
 try dsimp only [List.set, List.eraseIdx, Value.cells] at h7
 refine sF #[Pt p 0, I (((0 + s0.weights.n) : Nat) : Int)] Try.call19 (Calls.mono (tape_next W _ _ _ _ _ d0 _ _ [] (RdT.flat (hR.up 4 (by rfl))) om (Sat.flat1 h7) (((0 + s0.weights.n) : Nat) : Int) om) ?_)
 rintro _ _ ⟨a1, rfl, _, ra, _, i7⟩
 refine ⟨_, rfl, ?_⟩
 have o1 := Sat.unflat1 i7; clear i7
 try dsimp only [List.set, List.eraseIdx, Value.cells] at o1
 refine nilO ⟨⟨.inr (o1.cell 3 rfl rfl), .inr (o1.cell 3 rfl rfl), trivial⟩, ?_⟩
 refine qO rfl ?_
 refine sBS o1 #[I 32767, I (-32768), I 0] Try.runUnderlying22 Try.sizeOf3 Try.zeroValue3 ?_
 intro sa _ e2
 refine nilO ⟨⟨.inr (e2.cell 4 rfl rfl), .inr (e2.cell 4 rfl rfl), trivial⟩, ?_⟩
 refine qO rfl ?_
 have j7 := (e2.pick 1 rfl)
 try dsimp only [List.set, List.eraseIdx, Value.cells] at j7
 refine sF #[Pt p 0, .slice (At sa 0) 3 3] Try.call26 (Calls.mono (tape_pick W _ _ _ _ _ ra _ _ [] (RdT.flat (hR.up 5 (by rfl))) om (Sat.flat1 j7) _ _ _ [32767, -32768, 0] (RdT.flat (RdT.blk (enc := encI) (sz := 1) (xs := [32767, -32768, 0]) (fun _ => (by rfl)) 3 0 rfl rfl rfl om)) om om) ?_)
 rintro _ _ ⟨t0, rfl, ta, k7, _, l7⟩
 refine ⟨_, rfl, ?_⟩
 have p1 := Sat.unflat1 l7; clear l7
 try dsimp only [List.set, List.eraseIdx, Value.cells] at p1
 have yf : (t0 : Int) = 32767 ∨ (t0 : Int) = (-32768) ∨ (t0 : Int) = 0 := by simpa using ta
 refine nilO ⟨⟨.inr (p1.cell 4 rfl rfl), .inr (p1.cell 4 rfl rfl), trivial⟩, ?_⟩
 obtain ⟨ua, va, wa, xa, zf, ya, za⟩ := OwnT.elem x0 a1
 refine qS (.pointer (some ⟨va, wa + (a1).toNat * 1, none⟩)) rfl rfl rfl (fun w _ => Y_idx (a := e0) (i := a1) (len := (0 + s0.weights.n)) (cap := f0) rfl Try.runUnderlying22 Try.sizeOf3 kr kr ya) ?_
 refine qO rfl ?_
 refine sStF p1 x0 za 2 (a1).toNat 0 ua t0 xa (I t0) [I t0] Try.sizeOf3 ?_
 intro _ f2 ab m7
 try dsimp only [List.set, List.eraseIdx, Value.cells] at m7
 refine nilO ⟨dA, ?_⟩
 refine qN ?_
 refine blockK_n <| thenK_n ?_
 have n7 := (((((((m7.pick 6 rfl).pick 6 rfl).pick 4 rfl).pick 5 rfl).pick 6 rfl).pick 5 rfl).dropAt 6 rfl)
 try dsimp only [List.set, List.eraseIdx, Value.cells] at n7
 have bb : Sat W _ ([(p, .cells #[.slice a n k, I k7] 46 (0, 0))] :: [(a0, .cells #[I s0.kind, I s0.a, I s0.b, .bool s0.barrier, I s0.edgePolicy, I s0.edgeFill, I s0.kW, I s0.kH, .slice e0 (0 + s0.weights.n) f0, .slice s0.row.a s0.row.n s0.row.k, .slice s0.col.a s0.col.n s0.col.k, I s0.shift, I s0.shift2, .slice s0.x.a s0.x.n s0.x.k, .slice s0.y.a s0.y.n s0.y.k, I s0.bins, .slice s0.ops.a s0.ops.n s0.ops.k, I s0.max_] 61 (0, 0))] :: [(c0, .cells #[I 0, I 0, I 0, .bool false, I 0, I 0, I 0, I 0, .slice none 0 0, .slice none 0 0, .slice none 0 0, I 0, I 0, .slice none 0 0, .slice none 0 0, I 0, .slice none 0 0, I 0] 61 (0, 0))] :: (f2) :: J :: H :: F) := Sat.perm n7 (by simp)
 exact ⟨(⟨s0.kind, s0.a, s0.b, s0.barrier, s0.edgePolicy, s0.edgeFill, s0.kW, s0.kH, ⟨e0, (0 + s0.weights.n), f0, (([] ++ s0.weights.l).set ((a1).toNat) t0)⟩, ⟨s0.row.a, s0.row.n, s0.row.k, s0.row.l⟩, ⟨s0.col.a, s0.col.n, s0.col.k, s0.col.l⟩, s0.shift, s0.shift2, ⟨s0.x.a, s0.x.n, s0.x.k, s0.x.l⟩, ⟨s0.y.a, s0.y.n, s0.y.k, s0.y.l⟩, s0.bins, ⟨s0.ops.a, s0.ops.n, s0.ops.k, s0.ops.l⟩, s0.max_⟩ : Stage), (f2), k7, alA, bb, om, ⟨(ab.rdAt (cs := [f2]) 0 rfl).of_mem mS, hs0.row.of_mem mS, hs0.col.of_mem mS, hs0.x.of_mem mS, (fun z hz => (hs0.xD z hz).of_mem mS), hs0.y.of_mem mS, (fun z hz => (hs0.yD z hz).of_mem mS), hs0.ops.of_mem mS⟩, ⟨⟨nb, nb, nb, nb, nb, nb, nb, nb, nb, nb, nb⟩, ⟨by have h := hsB.2.1.1; simp; omega, mem_set (base_any hsB.2.1.2) nb⟩, ⟨by have h := hsB.2.2.1.1; dsimp only; omega, hsB.2.2.1.2⟩, ⟨by have h := hsB.2.2.2.1.1; dsimp only; omega, hsB.2.2.2.1.2⟩, ⟨by have h := hsB.2.2.2.2.1.1; dsimp only; omega, hsB.2.2.2.2.1.2⟩, ⟨by have h := hsB.2.2.2.2.2.1.1; dsimp only; omega, hsB.2.2.2.2.2.1.2⟩, ⟨by have h := hsB.2.2.2.2.2.2.1; dsimp only; omega, hsB.2.2.2.2.2.2.2⟩⟩⟩
end Go.Proofs.Ytcddcpaodcjecaa
