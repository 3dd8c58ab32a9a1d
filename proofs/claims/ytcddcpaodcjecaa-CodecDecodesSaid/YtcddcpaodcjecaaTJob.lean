import Derived.Test.YtcddcpaodcjecaaTGen
namespace Go.Proofs.Ytcddcpaodcjecaa
open Go Go.E
set_option linter.unusedVariables false
set_option linter.unusedSimpArgs false
set_option linter.unnecessarySimpa false
set_option maxRecDepth 100000
set_option maxHeartbeats 2000000

-- squeezed
def planeG (z : Plane) : Prop := planeOK z.v = true ∧ planeB z
def jobB (k : Nat) (q : Job) : Prop := (q.inputs.l.length ≤ 2 ∧ ∀ z ∈ q.inputs.l, planeB z ∧ numB z.w ∧ numB z.h ∧ numB z.max_) ∧ (q.stages.l.length ≤ 4 ∧ ∀ z ∈ q.stages.l, stageB k z) ∧ (q.outputs.l.length ≤ 2 + k ∧ ∀ z ∈ q.outputs.l, numB z) ∧ numB q.priority
theorem planeG_num {z : Plane} (h : planeG z) : planeB z ∧ numB z.w ∧ numB z.h ∧ numB z.max_ := by
  have h1 := h.1
  unfold planeOK at h1
  rw [Bool.and_eq_true] at h1
  have h2 := (of_decide_eq_true h1.1).1
  unfold sizeP at h2
  simp only [Plane.v] at h2
  refine ⟨h.2, ?_, ?_, ?_⟩ <;> unfold numB <;> omega
theorem all_planeG {l : List Plane} (h : ∀ z ∈ l, planeG z) : (l.map Plane.v).all planeOK = true := by
  rw [List.all_eq_true]
  intro x hx
  obtain ⟨z, hz, rfl⟩ := List.mem_map.1 hx
  exact (h z hz).1
theorem tg_job (W w : World) (p : Nat) (a : Option Addr) (n k : Nat) (i : Int) (xs : List Int) (H : Chunk) (F : List Chunk) (hR : RdT encI 1 [H] a n k xs) (hi : 0 ≤ i ∧ i ≤ n) (hS : Sat W w ([(p, .cells #[.slice a n k, I i] 46 (0, 0))] :: H :: F)) (m0 : Int) (hm0 : 1 ≤ m0 ∧ m0 ≤ 4) :
  Calls Try.prog 9 #[Pt p 0, I m0] w fun e w' => ∃ (q : Job) (G : Chunk), e = .returned (.agg (encJob q).toArray) ∧ (Job.Ok [G] q) ∧ (jobB 0 q) ∧ (Good (q.inputs.l.map Plane.v) (q.stages.l.map Stage.v) q.priority ∧ ∃ l0, runS ((q.inputs.l.map Plane.v).map shpOf) (q.stages.l.map Stage.v) = some l0) ∧ ∃ i' : Int, (0 ≤ i' ∧ i' ≤ n) ∧ Sat W w' ([(p, .cells #[.slice a n k, I i'] 46 (0, 0))] :: G :: H :: F) := by
 have hle := hR.le
 refine callsE (n := 151) Try.func9 rfl rfl (Nat.le_of_ble_eq_true rfl) ?_
 refine sR ?_
 refine sAlloc hS Try.zeroValue28 ?_
 intro n0 _ m6
 refine nT <| sR <| pu1 ?_
 have v2 := (m6.pick 1 rfl)
 try dsimp only [List.set, List.eraseIdx, Value.cells] at v2
 refine sF #[Pt p 0, I 4] Try.call19 (Calls.mono (tape_next W _ _ _ _ _ i _ _ [] (RdT.flat (hR.up 1 (by rfl))) om (Sat.flat1 v2) 4 om) ?_)
 rintro _ _ ⟨v0, rfl, _, n6, _, w2⟩
 refine ⟨_, rfl, ?_⟩
 have x2 := Sat.unflat1 w2; clear w2
 try dsimp only [List.set, List.eraseIdx, Value.cells] at x2
 refine pu1 ?_
 refine sAlloc x2 Try.zeroValue28 ?_
 intro i0 _ o6
 refine sTw o6 0 [.slice none 0 0, .slice none 0 0, .slice none 0 0, I v0] Try.sizeOf28 ?_
 intro _ y2
 try dsimp only [List.set, List.eraseIdx, Value.cells] at y2
 refine nT <| sR <| pu1 ?_
 have z2 := (y2.pick 1 rfl)
 try dsimp only [List.set, List.eraseIdx, Value.cells] at z2
 refine sF #[Pt p 0] Try.call20 (Calls.mono (tg_plane W _ _ _ _ _ n6 _ _ [] (RdT.flat (hR.up 2 (by rfl))) om (Sat.flat1 z2) ) ?_)
 rintro _ _ ⟨b0, k1, rfl, b3, l1, p6, _, d3⟩
 refine ⟨_, rfl, ?_⟩
 have e3 := Sat.unflat2 d3; clear d3
 try dsimp only [List.set, List.eraseIdx, Value.cells] at e3
 refine sAlloc e3 Try.zeroValue49 ?_
 intro f3 _ q6
 refine sT q6 0 0 (.agg (encPlane b0).toArray) (encPlane b0) (encPlane b0).toArray Try.sizeOf49 ?_
 intro _ g3
 refine nT <| sR ?_
 refine sLA g3 0 0 [I b0.w, I b0.h, I b0.max_, .slice b0.pix.a b0.pix.n b0.pix.k] (Try.isAgg49 _) (Try.sizeOf49 _) ?_
 refine sBS g3 (encPlane b0).toArray Try.runUnderlying25 Try.sizeOf49 Try.zeroValue49 ?_
 intro q0 _ r6
 refine pu1 ?_
 refine sT1 r6 4 0 (.slice (At q0 0) 1 1) #[.slice (At q0 0) 1 1, .slice none 0 0, .slice none 0 0, I v0] Try.sizeOf25 ?_
 intro _ h3
 try dsimp only [List.set, List.eraseIdx, Value.cells] at h3
 refine nT ?_
 refine cutE (fun ρ w => ∃ (ai : Option Addr) (ni : Nat) (ki : Nat) (Iq : List Plane) (GI : Chunk) (pr : Int) (itc : Int), AllAt ρ [(0, Pt p 0), (1, I m0), (4, Pt n0 0), (5, Pt i0 0)] ∧ Sat W w ([(p, .cells #[.slice a n k, I itc] 46 (0, 0))] :: [(i0, .cells #[.slice ai ni ki, .slice none 0 0, .slice none 0 0, I pr] 28 (0, 0))] :: [(n0, .cells #[.slice none 0 0, .slice none 0 0, .slice none 0 0, I 0] 28 (0, 0))] :: GI :: H :: F) ∧ (0 ≤ itc ∧ itc ≤ n) ∧ RdT encPlane 4 [GI] ai ni ki Iq ∧ (∀ z ∈ Iq, Plane.Ok [GI] z) ∧ ((1 ≤ Iq.length ∧ Iq.length ≤ 2) ∧ ∀ z ∈ Iq, planeG z) ∧ (0 ≤ pr ∧ pr < 4)) ?_ ?_
 ·refine sR <| pu1 ?_
  have i3 := (h3.pick 2 rfl)
  try dsimp only [List.set, List.eraseIdx, Value.cells] at i3
  refine sF #[Pt p 0, I 2] Try.call19 (Calls.mono (tape_next W _ _ _ _ _ p6 _ _ [] (RdT.flat (hR.up 5 (by rfl))) om (Sat.flat1 i3) 2 om) ?_)
  rintro _ _ ⟨s6, rfl, _, q1, _, j3⟩
  refine ⟨_, rfl, ?_⟩
  have z0 := Sat.unflat1 j3; clear j3
  try dsimp only [List.set, List.eraseIdx, Value.cells] at z0
  refine pu1 <| nT ?_
  by_cases l3 : (s6 : Int) = 0
  rotate_left
  ·refine cF _ (beq_eq_false_iff_ne.2 l3) ?_
   refine kT ?_
   have m3 := (((((((z0.pick 6 rfl).pick 4 rfl).pick 3 rfl).pick 6 rfl).pick 6 rfl).pick 5 rfl).dropAt 6 rfl)
   try dsimp only [List.set, List.eraseIdx, Value.cells] at m3
   have t6 : Sat W _ ([(p, .cells #[.slice a n k, I q1] 46 (0, 0))] :: [(i0, .cells #[.slice (At q0 0) 1 1, .slice none 0 0, .slice none 0 0, I v0] 28 (0, 0))] :: [(n0, .cells #[.slice none 0 0, .slice none 0 0, .slice none 0 0, I 0] 28 (0, 0))] :: ([(q0, .cells (encPlane b0).toArray 49 (0, 0))] ++ k1) :: (H :: F)) := Sat.perm m3 (by simp)
   exact ⟨(At q0 0), 1, 1, [b0], ([(q0, .cells (encPlane b0).toArray 49 (0, 0))] ++ k1), v0, q1, alA, t6, om, ((RdT.blk (cs := [[(q0, .cells (encPlane b0).toArray 49 (0, 0))]]) (enc := encPlane) (sz := 4) (xs := [b0]) fR 1 0 rfl rfl rfl om).of_mem mS), (by
     intro z hz
     simp only [List.mem_cons, List.mem_append, List.not_mem_nil, or_false] at hz
     subst hz; exact b3.of_mem mS), ⟨by simp, (by
     intro z hz
     simp only [List.mem_cons, List.mem_append, List.not_mem_nil, or_false] at hz
     subst hz; exact ⟨l1.2.2.1, l1.2.2.2⟩)⟩, om⟩
  refine cT _ (beq_iff_eq.2 l3) ?_
  refine drawE [7, 8, 9, 11] [(1, ⟨i0, 0, none⟩, .slice (At q0 0) 1 1), (4, ⟨f3, 0, none⟩, I b0.w), (6, ⟨f3, 1, none⟩, I b0.h)] [(true, [0, 2, 3, 5]), (true, [1]), (true, [4]), (true, [6]), (false, [7]), (false, [8]), (false, [9]), (true, [10]), (false, [11])] rfl kr ⟨.inr (z0.cell 4 rfl rfl), .inr (z0.cell 2 rfl rfl), .inr (z0.cell 2 rfl rfl), trivial⟩ ?_
  have o3 := z0.drew
  refine wU [0, 2, 3, 5] ?_
  refine wS (.slice (At q0 0) 1 1) rfl rfl rfl (fun w hF => Y_load rfl (Try.isAgg25 w) kr (hF 0 _ _ rfl)) ?_
  refine wS (I b0.w) rfl rfl rfl (fun w hF => Y_load rfl (Try.isAgg3 w) kr (hF 1 _ _ rfl)) ?_
  refine wS (I b0.h) rfl rfl rfl (fun w hF => Y_load rfl (Try.isAgg3 w) kr (hF 2 _ _ rfl)) ?_
  refine wO rfl ?_
  try dsimp only [List.set, List.eraseIdx, Value.cells] at o3
  refine sF #[Pt p 0, I b0.w, I b0.h] Try.call21 (Calls.mono (tg_sized W _ _ _ _ _ q1 _ _ [] (RdT.flat (hR.up 5 (by rfl))) om (Sat.flat1 o3) b0.w b0.h om) ?_)
  rintro _ _ ⟨r1, p3, rfl, u6, q3, r3, _, s3⟩
  refine ⟨_, rfl, ?_⟩
  have s1 := Sat.unflat2 s3; clear s3
  try dsimp only [List.set, List.eraseIdx, Value.cells] at s1
  refine nilO ⟨⟨.inr (s1.cell 5 rfl rfl), dI, dI, trivial⟩, ?_⟩
  refine wO rfl ?_
  refine sBS s1 (encPlane r1).toArray Try.runUnderlying25 Try.sizeOf49 Try.zeroValue49 ?_
  intro _ _ u3
  refine nilO ⟨⟨.inr (u3.cell 6 rfl rfl), dI, dI, trivial⟩, ?_⟩
  refine wO rfl ?_
  have v6 := OwnT.blk (enc := encPlane) (sz := 4) (b := q0) (c := #[I b0.w, I b0.h, I b0.max_, .slice b0.pix.a b0.pix.n b0.pix.k]) (E := 49) (xs := [b0]) fR 1 rfl rfl rfl om
  refine sApp (nb := 48) u3 v6 3 (RdT.blk (enc := encPlane) (sz := 4) (xs := [r1]) fR 1 0 rfl rfl rfl om) Try.underlying25 (i := Try.t49) kr fR ?_
  intro m1 n1 t1 _ w6 v3
  try dsimp only [List.set, List.eraseIdx, Value.cells] at v3
  refine nilO ⟨dA, ?_⟩
  refine wU [10] ?_
  refine wO rfl ?_
  refine sT1 v3 6 0 (.slice m1 (1 + 1) n1) #[.slice m1 (1 + 1) n1, .slice none 0 0, .slice none 0 0, I v0] Try.sizeOf25 ?_
  intro _ w3
  try dsimp only [List.set, List.eraseIdx, Value.cells] at w3
  refine nilO ⟨dA, ?_⟩
  refine wN ?_
  refine thenK_n ?_
  have x3 := (((((((((w3.pick 8 rfl).pick 3 rfl).pick 6 rfl).pick 5 rfl).pick 8 rfl).pick 8 rfl).pick 7 rfl).dropAt 7 rfl).dropAt 7 rfl)
  try dsimp only [List.set, List.eraseIdx, Value.cells] at x3
  have x6 : Sat W _ ([(p, .cells #[.slice a n k, I r3] 46 (0, 0))] :: [(i0, .cells #[.slice m1 (1 + 1) n1, .slice none 0 0, .slice none 0 0, I v0] 28 (0, 0))] :: [(n0, .cells #[.slice none 0 0, .slice none 0 0, .slice none 0 0, I 0] 28 (0, 0))] :: (t1 ++ k1 ++ p3) :: (H :: F)) := Sat.perm x3 (by simp)
  exact ⟨m1, (1 + 1), n1, ([b0] ++ [r1]), (t1 ++ k1 ++ p3), v0, r3, alA, x6, om, ((w6.rdAt (cs := [t1]) 0 rfl).of_mem mS), (by
    intro z hz
    simp only [List.mem_cons, List.mem_append, List.not_mem_nil, or_false] at hz
    rcases hz with rfl | rfl
    ·exact b3.of_mem mS
    ·exact u6.of_mem mS), ⟨by simp, (by
    intro z hz
    simp only [List.mem_cons, List.mem_append, List.not_mem_nil, or_false] at hz
    rcases hz with rfl | rfl
    ·exact ⟨l1.2.2.1, l1.2.2.2⟩
    ·exact ⟨q3.2.2.1, q3.2.2.2⟩)⟩, om⟩
 rintro ρ _ ⟨ai, ni, ki, Iq, GI, pr, itc, hA, y3, hitc, hRi, hDi, hGi, hpr⟩
 refine cAnchor hA (fun ρ => ?_)
 clear hA
 refine seqE <| sR <| pu2 ?_
 try dsimp only [List.set, List.eraseIdx, Value.cells] at y3
 refine sF #[Pt p 0, I m0] Try.call19 (Calls.mono (tape_next W _ _ _ _ _ itc _ _ [] (RdT.flat (hR.up 3 (by rfl))) om (Sat.flat1 y3) m0 om) ?_)
 rintro _ _ ⟨z3, rfl, _, y6, _, a4⟩
 refine ⟨_, rfl, ?_⟩
 have b4 := Sat.unflat1 a4; clear a4
 try dsimp only [List.set, List.eraseIdx, Value.cells] at b4
 refine sAdd 1 z3 ?_
 refine pu1 <| nT <| blockE ?_
 have d4 := Sat.nilc b4
 try dsimp only [List.set, List.eraseIdx, Value.cells] at d4
 refine loopE (γ := Nat × Int × (List Stage) × (Option Addr) × Nat × Nat × Chunk × (List Shape) × Int) (fun ⟨u, j, ss, sa, sn, sk, Gs, l0, itu⟩ ρ w => AllAt ρ [(0, Pt p 0), (1, I m0), (4, Pt n0 0), (5, Pt i0 0), (7, I j)] ∧ Sat W w (Gs :: [(p, .cells #[.slice a n k, I itu] 46 (0, 0))] :: [(i0, .cells #[.slice ai ni ki, .slice sa sn sk, .slice none 0 0, I pr] 28 (0, 0))] :: [(n0, .cells #[.slice none 0 0, .slice none 0 0, .slice none 0 0, I 0] 28 (0, 0))] :: GI :: H :: F) ∧ u ≤ 4 ∧ (RdT encStage 18 [Gs] sa sn sk ss) ∧ (∀ z ∈ ss, Stage.Ok [Gs] z) ∧ (∀ z ∈ ss, stageB 0 z) ∧ (Good (Iq.map Plane.v) (ss.map Stage.v) pr) ∧ (runS ((Iq.map Plane.v).map shpOf) (ss.map Stage.v) = some l0) ∧ (ss.length = u) ∧ ((u : Int) + j ≤ 4) ∧ (0 ≤ itu ∧ itu ≤ n)) (fun ⟨u, j, ss, sa, sn, sk, Gs, l0, itu⟩ => 4 - u) (0, (1 + z3), [], none, 0, 0, [], ((Iq.map Plane.v).map shpOf), y6) ⟨alA, d4, om, RdT.nil (enc := encStage) (sz := 18) fR _, (by intro z hz; cases hz), (by intro z hz; cases hz), ⟨all_planeG hGi.2, by rw [List.length_map]; exact hGi.1, by simp, hpr, by intro m s h; simp at h⟩, by rfl, by rfl, om, om⟩ ?_
 skip
 rintro ⟨u, j, ss, sa, sn, sk, Gs, l0, itu⟩ ρ _ ⟨hA, f1, hu, hRs, hDs, hBs, hgood, hrun, hsl, hj, hitu⟩
 refine cAnchor hA (fun ρ => ?_)
 clear hA
 refine seqE <| sR <| pu2 <| nT ?_
 by_cases e4 : (j : Int) > 0
 rotate_left
 ·refine cF _ (decide_eq_false e4) ?_
  refine exitE (xB <| ?_)
  refine thenK_n <| seqE ?_
  have hn_i := hRi.len; have hn_s := hRs.len
  refine regionE <| pu1 ?_
  refine sL f1 2 0 (.slice ai ni ki) (Try.isAgg25 _) ?_
  refine pu2 ?_
  refine sL f1 2 1 (.slice sa sn sk) (Try.isAgg26 _) ?_
  refine pu1 ?_
  refine sAdd ((ni : Nat) : Int) ((sn : Nat) : Int) ?_
  refine pu1 <| nT <| sR <| pu1 ?_
  refine sSub (((ni : Nat) : Int) + ((sn : Nat) : Int)) 1 ?_
  refine sBS f1 #[I ((((ni : Nat) : Int) + ((sn : Nat) : Int)) - 1)] Try.runUnderlying22 Try.sizeOf3 Try.zeroValue3 ?_
  intro o0 _ z6
  refine pu1 ?_
  refine sT1 z6 3 2 (.slice (At o0 0) 1 1) #[.slice ai ni ki, .slice sa sn sk, .slice (At o0 0) 1 1, I pr] Try.sizeOf22 ?_
  intro _ f4
  try dsimp only [List.set, List.eraseIdx, Value.cells] at f4
  refine nT <| seqE <| sR <| pu1 ?_
  have g4 := (f4.pick 2 rfl)
  try dsimp only [List.set, List.eraseIdx, Value.cells] at g4
  refine sF #[Pt p 0, I 3] Try.call19 (Calls.mono (tape_next W _ _ _ _ _ itu _ _ [] (RdT.flat (hR.up 5 (by rfl))) om (Sat.flat1 g4) 3 om) ?_)
  rintro _ _ ⟨a7, rfl, _, h4, _, i4⟩
  refine ⟨_, rfl, ?_⟩
  have g1 := Sat.unflat1 i4; clear i4
  try dsimp only [List.set, List.eraseIdx, Value.cells] at g1
  refine pu1 <| nT ?_
  by_cases j4 : (a7 : Int) = 0
  rotate_left
  ·refine cF _ (beq_eq_false_iff_ne.2 j4) ?_
   refine kT <| sR ?_
   refine sLA g1 3 0 [.slice ai ni ki, .slice sa sn sk, .slice (At o0 0) 1 1, I pr] (Try.isAgg28 _) (Try.sizeOf28 _) ?_
   refine sTw g1 4 [.slice ai ni ki, .slice sa sn sk, .slice (At o0 0) 1 1, I pr] Try.sizeOf28 ?_
   intro _ u1
   try dsimp only [List.set, List.eraseIdx, Value.cells] at u1
   refine nT <| retE <| retN (vs := [.agg #[.slice ai ni ki, .slice sa sn sk, .slice (At o0 0) 1 1, I pr]]) rfl (.cons (.cell _ _ _ _ kr (lvA u1 4 0 [.slice ai ni ki, .slice sa sn sk, .slice (At o0 0) 1 1, I pr] (Try.isAgg28 _) (Try.sizeOf28 _) rfl rfl rfl)) .nil) ?_
   have k4 := (((((((u1.pick 6 rfl).pick 2 rfl).pick 6 rfl).pick 4 rfl).pick 4 rfl).dropAt 5 rfl).dropAt 5 rfl)
   try dsimp only [List.set, List.eraseIdx, Value.cells] at k4
   have b7 : Sat W _ ([(p, .cells #[.slice a n k, I h4] 46 (0, 0))] :: (Gs ++ GI ++ [(o0, .cells #[I ((((ni : Nat) : Int) + ((sn : Nat) : Int)) - 1)] 3 (0, 0))]) :: (H :: F)) := Sat.perm k4 (by simp)
   have l4 := (((b7.pick 2 rfl).pick 2 rfl).pick 2 rfl)
   try dsimp only [List.set, List.eraseIdx, Value.cells] at l4
   exact ⟨(⟨⟨ai, ni, ki, Iq⟩, ⟨sa, sn, sk, ss⟩, ⟨(At o0 0), 1, 1, [((((ni : Nat) : Int) + ((sn : Nat) : Int)) - 1)]⟩, pr⟩ : Job), (Gs ++ GI ++ [(o0, .cells #[I ((((ni : Nat) : Int) + ((sn : Nat) : Int)) - 1)] 3 (0, 0))]), rfl, ⟨hRi.of_mem mS, (fun z hz => (hDi z hz).of_mem mS), hRs.of_mem mS, (fun z hz => (hDs z hz).of_mem mS), (RdT.blk (cs := [[(o0, .cells #[I ((((ni : Nat) : Int) + ((sn : Nat) : Int)) - 1)] 3 (0, 0))]]) (enc := encI) (sz := 1) (xs := [((((ni : Nat) : Int) + ((sn : Nat) : Int)) - 1)]) fR 1 0 rfl rfl rfl om).of_mem mS⟩, ⟨⟨hGi.1.2, fun z hz => planeG_num (hGi.2 z hz)⟩, ⟨by dsimp only; omega, hBs⟩, ⟨by simp, (by intro z hz; simp only [List.mem_cons, List.mem_append, List.not_mem_nil, or_false] at hz; subst hz; unfold numB; omega)⟩, by unfold numB; dsimp only; omega⟩, ⟨hgood, l0, hrun⟩, _, om, l4⟩
  refine cT _ (beq_iff_eq.2 j4) ?_
  refine drawE [4, 5, 6, 8] [(1, ⟨i0, 2, none⟩, .slice (At o0 0) 1 1)] [(true, [0, 2, 3]), (true, [1]), (false, [4]), (false, [5]), (false, [6]), (true, [7]), (false, [8])] rfl kr ⟨.inr (g1.cell 3 rfl rfl), trivial⟩ ?_
  have m4 := g1.drew
  refine wU [0, 2, 3] ?_
  refine wS (.slice (At o0 0) 1 1) rfl rfl rfl (fun w hF => Y_load rfl (Try.isAgg22 w) kr (hF 0 _ _ rfl)) ?_
  refine wO rfl ?_
  try dsimp only [List.set, List.eraseIdx, Value.cells] at m4
  refine sF #[Pt p 0, I (((ni : Nat) : Int) + ((sn : Nat) : Int))] Try.call19 (Calls.mono (tape_next W _ _ _ _ _ h4 _ _ [] (RdT.flat (hR.up 5 (by rfl))) om (Sat.flat1 m4) (((ni : Nat) : Int) + ((sn : Nat) : Int)) om) ?_)
  rintro _ _ ⟨v1, rfl, _, c7, _, n4⟩
  refine ⟨_, rfl, ?_⟩
  have w1 := Sat.unflat1 n4; clear n4
  try dsimp only [List.set, List.eraseIdx, Value.cells] at w1
  refine nilO ⟨⟨.inr (w1.cell 3 rfl rfl), trivial⟩, ?_⟩
  refine wO rfl ?_
  refine sBS w1 #[I v1] Try.runUnderlying22 Try.sizeOf3 Try.zeroValue3 ?_
  intro _ _ o4
  refine nilO ⟨⟨.inr (o4.cell 4 rfl rfl), trivial⟩, ?_⟩
  refine wO rfl ?_
  have d7 := OwnT.blk (enc := encI) (sz := 1) (b := o0) (c := #[I ((((ni : Nat) : Int) + ((sn : Nat) : Int)) - 1)]) (E := 3) (xs := [((((ni : Nat) : Int) + ((sn : Nat) : Int)) - 1)]) fR 1 rfl rfl rfl om
  refine sApp (nb := 8) o4 d7 2 (RdT.blk (enc := encI) (sz := 1) (xs := [v1]) fR 1 0 rfl rfl rfl om) Try.underlying22 (i := Try.t3) kr fR ?_
  intro w0 x0 x1 _ e7 p4
  try dsimp only [List.set, List.eraseIdx, Value.cells] at p4
  refine nilO ⟨dA, ?_⟩
  refine wU [7] ?_
  refine wO rfl ?_
  refine sT1 p4 4 2 (.slice w0 (1 + 1) x0) #[.slice ai ni ki, .slice sa sn sk, .slice w0 (1 + 1) x0, I pr] Try.sizeOf22 ?_
  intro _ y1
  try dsimp only [List.set, List.eraseIdx, Value.cells] at y1
  refine nilO ⟨dA, ?_⟩
  refine wN ?_
  refine thenK_n <| sR ?_
  refine sLA y1 4 0 [.slice ai ni ki, .slice sa sn sk, .slice w0 (1 + 1) x0, I pr] (Try.isAgg28 _) (Try.sizeOf28 _) ?_
  refine sTw y1 5 [.slice ai ni ki, .slice sa sn sk, .slice w0 (1 + 1) x0, I pr] Try.sizeOf28 ?_
  intro _ z1
  try dsimp only [List.set, List.eraseIdx, Value.cells] at z1
  refine nT <| retE <| retN (vs := [.agg #[.slice ai ni ki, .slice sa sn sk, .slice w0 (1 + 1) x0, I pr]]) rfl (.cons (.cell _ _ _ _ kr (lvA z1 5 0 [.slice ai ni ki, .slice sa sn sk, .slice w0 (1 + 1) x0, I pr] (Try.isAgg28 _) (Try.sizeOf28 _) rfl rfl rfl)) .nil) ?_
  have q4 := ((((((((z1.pick 7 rfl).pick 3 rfl).pick 7 rfl).pick 5 rfl).pick 5 rfl).dropAt 5 rfl).dropAt 5 rfl).dropAt 5 rfl)
  try dsimp only [List.set, List.eraseIdx, Value.cells] at q4
  have f7 : Sat W _ ([(p, .cells #[.slice a n k, I c7] 46 (0, 0))] :: (Gs ++ GI ++ x1) :: (H :: F)) := Sat.perm q4 (by simp)
  have r4 := (((f7.pick 2 rfl).pick 2 rfl).pick 2 rfl)
  try dsimp only [List.set, List.eraseIdx, Value.cells] at r4
  exact ⟨(⟨⟨ai, ni, ki, Iq⟩, ⟨sa, sn, sk, ss⟩, ⟨w0, (1 + 1), x0, ([((((ni : Nat) : Int) + ((sn : Nat) : Int)) - 1)] ++ [v1])⟩, pr⟩ : Job), (Gs ++ GI ++ x1), rfl, ⟨hRi.of_mem mS, (fun z hz => (hDi z hz).of_mem mS), hRs.of_mem mS, (fun z hz => (hDs z hz).of_mem mS), (e7.rdAt (cs := [x1]) 0 rfl).of_mem mS⟩, ⟨⟨hGi.1.2, fun z hz => planeG_num (hGi.2 z hz)⟩, ⟨by dsimp only; omega, hBs⟩, ⟨by simp, (by intro z hz; simp only [List.mem_cons, List.mem_append, List.not_mem_nil, or_false] at hz; rcases hz with rfl | rfl <;> (unfold numB; omega))⟩, by unfold numB; dsimp only; omega⟩, ⟨hgood, l0, hrun⟩, _, om, r4⟩
 refine cT _ (decide_eq_true e4) ?_
 refine kT <| seqE <| blockE <| seqE ?_
 have hn_i := hRi.len; have hn_s := hRs.len
 refine regionE <| pu1 ?_
 refine sLA f1 2 0 [.slice ai ni ki, .slice sa sn sk, .slice none 0 0, I pr] (Try.isAgg28 _) (Try.sizeOf28 _) ?_
 have s4 := (f1.pick 1 rfl)
 try dsimp only [List.set, List.eraseIdx, Value.cells] at s4
 refine sF #[Pt p 0, .agg #[.slice ai ni ki, .slice sa sn sk, .slice none 0 0, I pr]] Try.call22 (Calls.mono (tg_shapes W _ _ _ _ _ itu _ _ [] (RdT.flat (hR.up 4 (by rfl))) om (Sat.flat1 s4) (⟨⟨ai, ni, ki, Iq⟩, ⟨sa, sn, sk, ss⟩, ⟨none, 0, 0, []⟩, pr⟩ : Job) ⟨(RdT.flat (hRi.up 3 (by rfl))), (fun z hz => (hDi z hz).of_mem (mem_flat1 3 (by rfl))), (RdT.flat (hRs.up 0 (by rfl))), (fun z hz => (hDs z hz).of_mem (mem_flat1 0 (by rfl))), (RdT.nil (enc := encI) (sz := 1) fR _)⟩ l0 hgood hrun) ?_)
 rintro _ _ ⟨j0, c0, k0, a2, rfl, h1, g7, _, t4⟩
 refine ⟨_, rfl, ?_⟩
 have b2 := Sat.unflat2 t4; clear t4
 try dsimp only [List.set, List.eraseIdx, Value.cells] at b2
 have hn_az_88 := h1.len; have hl_az_88 := h1.le
 refine pu1 <| nilO ?_
 have hsz := runS_sz (ss.map Stage.v) _ l0 (shpOf_sz (all_planeG hGi.2)) hrun
 have hlen0 : (((Iq.map Plane.v)).length : Int) + ((ss.map Stage.v)).length = ((c0 : Nat) : Int) := by have h := hsz.2; have h2 := hn_az_88; simp only [List.length_map] at h ⊢; omega
 have hlen1 : (Iq.length : Int) + ss.length = ((c0 : Nat) : Int) := by have h := hlen0; simp only [List.length_map] at h; exact h
 refine thenK_n <| sR <| pu3 ?_
 try dsimp only [List.set, List.eraseIdx, Value.cells] at b2
 refine sF #[Pt p 0, I ((c0 : Nat) : Int)] Try.call19 (Calls.mono (tape_next W _ _ _ _ _ g7 _ _ [] (RdT.flat (hR.up 5 (by rfl))) om (Sat.flat1 b2) ((c0 : Nat) : Int) om) ?_)
 rintro _ _ ⟨h7, rfl, _, i7, _, u4⟩
 refine ⟨_, rfl, ?_⟩
 have c2 := Sat.unflat1 u4; clear u4
 try dsimp only [List.set, List.eraseIdx, Value.cells] at c2
 refine pu1 <| nT ?_
 refine cutE (fun ρ w => ∃ (av : Int) (itA : Int), AllAt ρ [(0, Pt p 0), (1, I m0), (4, Pt n0 0), (5, Pt i0 0), (7, I j), (46, Pt p 0), (48, .slice j0 c0 k0), (8, .slice j0 c0 k0), (49, Pt p 0), (50, .slice j0 c0 k0), (9, I av)] ∧ Sat W w ([(p, .cells #[.slice a n k, I itA] 46 (0, 0))] :: a2 :: Gs :: [(i0, .cells #[.slice ai ni ki, .slice sa sn sk, .slice none 0 0, I pr] 28 (0, 0))] :: [(n0, .cells #[.slice none 0 0, .slice none 0 0, .slice none 0 0, I 0] 28 (0, 0))] :: GI :: H :: F) ∧ (0 ≤ itA ∧ itA ≤ n) ∧ (0 ≤ av ∧ av < c0)) ?_ ?_
 ·refine sR <| pu1 ?_
  try dsimp only [List.set, List.eraseIdx, Value.cells] at c2
  refine sF #[Pt p 0, I 2] Try.call19 (Calls.mono (tape_next W _ _ _ _ _ i7 _ _ [] (RdT.flat (hR.up 5 (by rfl))) om (Sat.flat1 c2) 2 om) ?_)
  rintro _ _ ⟨j7, rfl, _, v4, _, w4⟩
  refine ⟨_, rfl, ?_⟩
  have d2 := Sat.unflat1 w4; clear w4
  try dsimp only [List.set, List.eraseIdx, Value.cells] at d2
  refine pu1 <| nT ?_
  by_cases x4 : (j7 : Int) = 0
  rotate_left
  ·refine cF _ (beq_eq_false_iff_ne.2 x4) ?_
   refine kT ?_
   have y4 := (((((((d2.pick 6 rfl).pick 6 rfl).pick 6 rfl).pick 6 rfl).pick 6 rfl).pick 6 rfl).pick 6 rfl)
   try dsimp only [List.set, List.eraseIdx, Value.cells] at y4
   exact ⟨h7, v4, alA, y4, om, om⟩
  refine cT _ (beq_iff_eq.2 x4) ?_
  refine regionE <| pu2 ?_
  refine sSub ((c0 : Nat) : Int) 1 ?_
  refine pu1 <| nT ?_
  have z4 := (((((((d2.pick 6 rfl).pick 6 rfl).pick 6 rfl).pick 6 rfl).pick 6 rfl).pick 6 rfl).pick 6 rfl)
  try dsimp only [List.set, List.eraseIdx, Value.cells] at z4
  exact ⟨(((c0 : Nat) : Int) - 1), v4, alA, z4, om, om⟩
 rintro ρ _ ⟨av, itA, hA, a5, hitA, hvA⟩
 refine cAnchor hA (fun ρ => ?_)
 clear hA
 refine sR <| pu3 ?_
 try dsimp only [List.set, List.eraseIdx, Value.cells] at a5
 refine sF #[Pt p 0, I ((c0 : Nat) : Int)] Try.call19 (Calls.mono (tape_next W _ _ _ _ _ itA _ _ [] (RdT.flat (hR.up 5 (by rfl))) om (Sat.flat1 a5) ((c0 : Nat) : Int) om) ?_)
 rintro _ _ ⟨i1, rfl, _, e2, _, b5⟩
 refine ⟨_, rfl, ?_⟩
 have r0 := Sat.unflat1 b5; clear b5
 try dsimp only [List.set, List.eraseIdx, Value.cells] at r0
 refine pu1 <| nT ?_
 refine cutE (fun ρ w => ∃ (bv : Int) (itB : Int), AllAt ρ [(0, Pt p 0), (1, I m0), (4, Pt n0 0), (5, Pt i0 0), (7, I j), (46, Pt p 0), (48, .slice j0 c0 k0), (8, .slice j0 c0 k0), (49, Pt p 0), (50, .slice j0 c0 k0), (9, I av), (59, Pt p 0), (60, .slice j0 c0 k0), (10, I bv)] ∧ Sat W w ([(p, .cells #[.slice a n k, I itB] 46 (0, 0))] :: a2 :: Gs :: [(i0, .cells #[.slice ai ni ki, .slice sa sn sk, .slice none 0 0, I pr] 28 (0, 0))] :: [(n0, .cells #[.slice none 0 0, .slice none 0 0, .slice none 0 0, I 0] 28 (0, 0))] :: GI :: H :: F) ∧ (0 ≤ itB ∧ itB ≤ n) ∧ (bv = -1 ∨ (0 ≤ bv ∧ bv < c0))) ?_ ?_
 ·refine seqE ?_
  obtain ⟨s0, a1, b1, k7, f2, g2⟩ := RdT.elem h1 av
  have hsz_x_122 := hsz.1 s0 (List.mem_of_getElem? k7)
  obtain ⟨t0, c1, d1, l7, i2, j2⟩ := RdT.elem h1 i1
  have hsz_x_128 := hsz.1 t0 (List.mem_of_getElem? l7)
  by_cases c5 : (s0.w : Int) = t0.w
  rotate_left
  ·refine drawE [] [(4, ⟨a1, b1 + 0, none⟩, I s0.w), (9, ⟨c1, d1 + 0, none⟩, I t0.w)] [(true, [0, 1]), (true, [2]), (true, [3, 5, 6]), (true, [7]), (true, [8]), (true, [4]), (true, [9]), (true, [10, 11]), (true, [12, 13, 14, 15, 17, 18, 19, 20, 16, 21, 22, 23])] rfl kr ⟨.inr ((f2.up 1 rfl).cell r0 (k := 0) rfl), .inr ((i2.up 1 rfl).cell r0 (k := 0) rfl), trivial⟩ ?_
   have m7 := r0.drew
   refine wU [0, 1] ?_
   refine wS (.pointer (some ⟨a1, b1, none⟩)) rfl rfl rfl (fun w _ => Y_idx (a := j0) (i := av) (len := c0) (cap := k0) rfl Try.runUnderlying52 Try.sizeOf55 kr kr g2) ?_
   refine wU [3, 5, 6] ?_
   refine wS (.pointer (some ⟨c1, d1, none⟩)) rfl rfl rfl (fun w _ => Y_idx (a := j0) (i := i1) (len := c0) (cap := k0) rfl Try.runUnderlying52 Try.sizeOf55 kr kr j2) ?_
   refine wU [8] ?_
   refine wS (I s0.w) rfl rfl rfl (fun w hF => Y_load rfl (Try.isAgg3 w) kr (hF 0 _ _ rfl)) ?_
   refine wS (I t0.w) rfl rfl rfl (fun w hF => Y_load rfl (Try.isAgg3 w) kr (hF 1 _ _ rfl)) ?_
   refine wU [10, 11] ?_
   refine wFix 74 _ true (bne_iff_ne.2 c5) ?_
   refine wU [12, 13, 14, 15, 17, 18, 19, 20, 16, 21, 22, 23] ?_
   refine wN ?_
   refine thenK_n <| cTt <| regionE <| pu1 <| nT ?_
   have d5 := (((((((m7.pick 6 rfl).pick 6 rfl).pick 6 rfl).pick 6 rfl).pick 6 rfl).pick 6 rfl).pick 6 rfl)
   try dsimp only [List.set, List.eraseIdx, Value.cells] at d5
   exact ⟨-1, e2, alA, d5, om, om⟩
  refine drawE [] [(4, ⟨a1, b1 + 0, none⟩, I s0.w), (9, ⟨c1, d1 + 0, none⟩, I t0.w), (16, ⟨a1, b1 + 1, none⟩, I s0.h), (21, ⟨c1, d1 + 1, none⟩, I t0.h)] [(true, [0, 1]), (true, [2]), (true, [3, 5, 6]), (true, [7]), (true, [8]), (true, [4]), (true, [9]), (true, [10, 11]), (true, [12, 13]), (true, [14]), (true, [15, 17, 18]), (true, [19]), (true, [20]), (true, [16]), (true, [21]), (true, [22, 23])] rfl kr ⟨.inr ((f2.up 1 rfl).cell r0 (k := 0) rfl), .inr ((i2.up 1 rfl).cell r0 (k := 0) rfl), .inr ((f2.up 1 rfl).cell r0 (k := 1) rfl), .inr ((i2.up 1 rfl).cell r0 (k := 1) rfl), trivial⟩ ?_
  have e5 := r0.drew
  refine wU [0, 1] ?_
  refine wS (.pointer (some ⟨a1, b1, none⟩)) rfl rfl rfl (fun w _ => Y_idx (a := j0) (i := av) (len := c0) (cap := k0) rfl Try.runUnderlying52 Try.sizeOf55 kr kr g2) ?_
  refine wU [3, 5, 6] ?_
  refine wS (.pointer (some ⟨c1, d1, none⟩)) rfl rfl rfl (fun w _ => Y_idx (a := j0) (i := i1) (len := c0) (cap := k0) rfl Try.runUnderlying52 Try.sizeOf55 kr kr j2) ?_
  refine wU [8] ?_
  refine wS (I s0.w) rfl rfl rfl (fun w hF => Y_load rfl (Try.isAgg3 w) kr (hF 0 _ _ rfl)) ?_
  refine wS (I t0.w) rfl rfl rfl (fun w hF => Y_load rfl (Try.isAgg3 w) kr (hF 1 _ _ rfl)) ?_
  refine wU [10, 11] ?_
  refine wFix 74 _ false (bne_eq_false_iff_eq.2 c5) ?_
  refine wU [12, 13] ?_
  refine wSg (.pointer (some ⟨a1, b1, none⟩)) rfl rfl rfl ⟨_, rfl, rfl, kr⟩ (fun w _ => Y_idx (a := j0) (i := av) (len := c0) (cap := k0) rfl Try.runUnderlying52 Try.sizeOf55 kr kr g2) ?_
  refine wU [15, 17, 18] ?_
  refine wSg (.pointer (some ⟨c1, d1, none⟩)) rfl rfl rfl ⟨_, rfl, rfl, kr⟩ (fun w _ => Y_idx (a := j0) (i := i1) (len := c0) (cap := k0) rfl Try.runUnderlying52 Try.sizeOf55 kr kr j2) ?_
  refine wU [20] ?_
  refine wSg (I s0.h) rfl rfl rfl ⟨_, rfl, rfl, kr⟩ (fun w hF => Y_load rfl (Try.isAgg3 w) kr (hF 2 _ _ rfl)) ?_
  refine wSg (I t0.h) rfl rfl rfl ⟨_, rfl, rfl, kr⟩ (fun w hF => Y_load rfl (Try.isAgg3 w) kr (hF 3 _ _ rfl)) ?_
  refine wU [22, 23] ?_
  refine wN ?_
  refine thenK_n ?_
  by_cases f5 : (s0.h : Int) = t0.h
  ·refine cF _ (bne_eq_false_iff_eq.2 f5) ?_
   refine kT ?_
   have g5 := (((((((e5.pick 6 rfl).pick 6 rfl).pick 6 rfl).pick 6 rfl).pick 6 rfl).pick 6 rfl).pick 6 rfl)
   try dsimp only [List.set, List.eraseIdx, Value.cells] at g5
   exact ⟨i1, e2, alA, g5, om, om⟩
  refine cT _ (bne_iff_ne.2 f5) ?_
  refine regionE <| pu1 <| nT ?_
  have h5 := (((((((e5.pick 6 rfl).pick 6 rfl).pick 6 rfl).pick 6 rfl).pick 6 rfl).pick 6 rfl).pick 6 rfl)
  try dsimp only [List.set, List.eraseIdx, Value.cells] at h5
  exact ⟨-1, e2, alA, h5, om, om⟩
 rintro ρ _ ⟨bv, itB, hA, k2, hitB, hvB⟩
 refine cAnchor hA (fun ρ => ?_)
 clear hA
 refine sR <| pu4 ?_
 refine sIdx h1 av Try.runUnderlying52 Try.sizeOf55 ?_
 intro u0 n7 o7 p7 q7
 have hsz_x_143 := hsz.1 u0 (List.mem_of_getElem? p7)
 refine sLpA k2 (q7.up 1 rfl) 0 [I u0.w, I u0.h, I u0.max_] (Try.isAgg55 _) (Try.sizeOf55 _) ?_
 refine pu1 ?_
 try dsimp only [List.set, List.eraseIdx, Value.cells] at k2
 refine sF #[Pt p 0, I av, .agg #[I u0.w, I u0.h, I u0.max_], I bv] Try.call23 (Calls.mono (tg_stage W _ _ _ _ _ itB _ _ [] (RdT.flat (hR.up 5 (by rfl))) om (Sat.flat1 k2) av u0 bv ‹_› (by unfold numB; omega)) ?_)
 rintro _ _ ⟨a0, i5, rfl, j5, r7, k5, o1, _, l5⟩
 refine ⟨_, rfl, ?_⟩
 have m5 := Sat.unflat2 l5; clear l5
 try dsimp only [List.set, List.eraseIdx, Value.cells] at m5
 refine sAlloc m5 Try.zeroValue61 ?_
 intro f0 _ s7
 refine sT s7 0 0 (.agg (encStage a0).toArray) (encStage a0) (encStage a0).toArray Try.sizeOf61 ?_
 intro _ n5
 refine nT <| sR ?_
 refine sLA n5 5 0 [.slice ai ni ki, .slice sa sn sk, .slice none 0 0, I pr] (Try.isAgg28 _) (Try.sizeOf28 _) ?_
 refine sAlloc n5 Try.zeroValue28 ?_
 intro p1 _ t7
 refine sTw t7 0 [.slice ai ni ki, .slice sa sn sk, .slice none 0 0, I pr] Try.sizeOf28 ?_
 intro _ d0
 try dsimp only [List.set, List.eraseIdx, Value.cells] at d0
 refine nT ?_
 refine cutE (fun ρ w => ∃ (a3 : Option Addr) (n3 : Nat) (k3 : Nat) (c3 : Chunk), AllAt ρ [(0, Pt p 0), (1, I m0), (4, Pt n0 0), (5, Pt i0 0), (7, I j), (46, Pt p 0), (48, .slice j0 c0 k0), (8, .slice j0 c0 k0), (49, Pt p 0), (50, .slice j0 c0 k0), (9, I av), (59, Pt p 0), (60, .slice j0 c0 k0), (87, Pt p 0), (89, .slice j0 c0 k0), (91, .pointer (some ⟨n7, o7, none⟩)), (11, Pt f0 0), (12, Pt p1 0)] ∧ Sat W w (c3 :: [(p1, .cells #[.slice ai ni ki, .slice a3 n3 k3, .slice none 0 0, I pr] 28 (0, 0))] :: [(f0, .cells (encStage a0).toArray 61 (0, 0))] :: [(p, .cells #[.slice a n k, I o1] 46 (0, 0))] :: i5 :: a2 :: Gs :: [(i0, .cells #[.slice ai ni ki, .slice sa sn sk, .slice none 0 0, I pr] 28 (0, 0))] :: [(n0, .cells #[.slice none 0 0, .slice none 0 0, .slice none 0 0, I 0] 28 (0, 0))] :: GI :: H :: F) ∧ OwnT encStage 61 18 a3 n3 k3 (ss ++ [a0]) c3) ?_ ?_
 rotate_left
 ·rintro ρ _ ⟨a3, n3, k3, c3, hA, u7, hO3⟩
  refine cAnchor hA (fun ρ => ?_)
  clear hA
  refine seqE ?_
  have hn3 := hO3.len; simp only [List.length_append, List.length_singleton] at hn3; have hl3 := hO3.le
  refine regionE ?_
  refine sBS u7 #[I 0] Try.runUnderlying22 Try.sizeOf3 Try.zeroValue3 ?_
  intro y0 _ v7
  refine pu1 ?_
  refine sT1 v7 2 2 (.slice (At y0 0) 1 1) #[.slice ai ni ki, .slice a3 n3 k3, .slice (At y0 0) 1 1, I pr] Try.sizeOf22 ?_
  intro _ m2
  try dsimp only [List.set, List.eraseIdx, Value.cells] at m2
  refine nT ?_
  refine cutE (fun ρ w => ∃ (q2 : Stage) (l2 : List Shape) (c4 : Chunk) (Gq2 : Chunk), AllAt ρ [(0, Pt p 0), (1, I m0), (4, Pt n0 0), (5, Pt i0 0), (7, I j), (12, Pt p1 0)] ∧ Sat W w (c4 :: Gq2 :: [(p, .cells #[.slice a n k, I o1] 46 (0, 0))] :: [(i0, .cells #[.slice ai ni ki, .slice sa sn sk, .slice none 0 0, I pr] 28 (0, 0))] :: [(n0, .cells #[.slice none 0 0, .slice none 0 0, .slice none 0 0, I 0] 28 (0, 0))] :: [(p1, .cells #[.slice ai ni ki, .slice a3 n3 k3, .slice (At y0 0) 1 1, I pr] 28 (0, 0))] :: Gs :: GI :: H :: F) ∧ OwnT encStage 61 18 a3 n3 k3 (ss ++ [q2]) c4 ∧ Stage.Ok [Gq2] q2 ∧ stageB 0 q2 ∧ Good (Iq.map Plane.v) ((ss ++ [q2]).map Stage.v) pr ∧ runS ((Iq.map Plane.v).map shpOf) ((ss ++ [q2]).map Stage.v) = some l2) ?_ ?_
  rotate_left
  ·rintro ρ _ ⟨q2, l2, c4, Gq2, hA, o5, hO4, hq2ok, hq2B, hg2, hr2⟩
   refine cAnchor hA (fun ρ => ?_)
   clear hA
   have hn4 := hO4.len; simp only [List.length_append, List.length_singleton] at hn4
   refine regionE <| pu1 ?_
   refine sL o5 5 1 (.slice a3 n3 k3) (Try.isAgg26 _) ?_
   refine pu1 ?_
   refine sT1 o5 3 1 (.slice a3 n3 k3) #[.slice ai ni ki, .slice a3 n3 k3, .slice none 0 0, I pr] Try.sizeOf26 ?_
   intro _ p5
   try dsimp only [List.set, List.eraseIdx, Value.cells] at p5
   refine nB <| regionE <| pu1 ?_
   refine sSub j 1 ?_
   refine pu1 <| nT ?_
   have q5 := (((((((((p5.pick 8 rfl).pick 8 rfl).pick 6 rfl).pick 6 rfl).pick 6 rfl).pick 8 rfl).pick 7 rfl).pick 7 rfl).dropAt 8 rfl)
   try dsimp only [List.set, List.eraseIdx, Value.cells] at q5
   have w7 : Sat W _ ((c4 ++ Gq2 ++ Gs) :: ([(p, .cells #[.slice a n k, I o1] 46 (0, 0))] :: [(i0, .cells #[.slice ai ni ki, .slice a3 n3 k3, .slice none 0 0, I pr] 28 (0, 0))] :: [(n0, .cells #[.slice none 0 0, .slice none 0 0, .slice none 0 0, I 0] 28 (0, 0))] :: GI :: H :: F)) := Sat.perm q5 (by simp)
   exact ⟨(u + 1, (j - 1), (ss ++ [q2]), a3, n3, k3, (c4 ++ Gq2 ++ Gs), l2, o1), od, alA, w7, om, ((hO4.rdAt (cs := [c4]) 0 rfl).of_mem mS), (by
     intro z hz
     rcases List.mem_append.1 hz with h | h
     ·exact (hDs z h).of_mem mS
     ·simp only [List.mem_singleton] at h; subst h; exact hq2ok.of_mem mS), mem_snoc hBs hq2B, hg2, hr2, by simp; omega, om, om⟩
  refine sR ?_
  refine sLA m2 2 0 [.slice ai ni ki, .slice a3 n3 k3, .slice (At y0 0) 1 1, I pr] (Try.isAgg28 _) (Try.sizeOf28 _) ?_
  refine sF #[.agg #[.slice ai ni ki, .slice a3 n3 k3, .slice (At y0 0) 1 1, I pr]] Try.call24 (Calls.mono (r17_checkj W _ _ [] (⟨⟨ai, ni, ki, Iq⟩, ⟨a3, n3, k3, (ss ++ [a0])⟩, ⟨(At y0 0), 1, 1, [0]⟩, pr⟩ : Job) ⟨(RdT.flat (hRi.up 10 (by rfl))), (fun z hz => (hDi z hz).of_mem (mem_flat1 10 (by rfl))), (RdT.flat (hO3.rdAt 1 (by rfl))), (fun z hz => by
    rcases List.mem_append.1 hz with h | h
    ·exact (hDs z h).of_mem (mem_flat1 7 (by rfl))
    ·simp only [List.mem_singleton] at h; rw [h]; exact j5.of_mem (mem_flat1 5 (by rfl))), (RdT.flat (RdT.blk (enc := encI) (sz := 1) (xs := [0]) (fun _ => (by rfl)) 1 0 rfl rfl rfl om))⟩ (od) (Sat.flat m2)) ?_)
  rintro _ _ ⟨rfl, r5⟩
  refine ⟨_, rfl, ?_⟩
  have n2 := Sat.unflat r5; clear r5
  try dsimp only [List.set, List.eraseIdx, Value.cells] at n2
  refine pu5 <| nT <| sR <| pu2 <| nT ?_
  by_cases s5 : ((shpV (⟨⟨ai, ni, ki, Iq⟩, ⟨a3, n3, k3, (ss ++ [a0])⟩, ⟨(At y0 0), 1, 1, [0]⟩, pr⟩ : Job).v).2.2 : Int) = 0
  ·refine cF _ (bne_eq_false_iff_eq.2 s5) ?_
   refine kT ?_
   have hsrc : ∀ x ∈ srcs a0.v, 0 ≤ x ∧ x < (((Iq.map Plane.v)).length : Int) + ((ss.map Stage.v)).length := by
    intro x hx
    have hab := k5
    have e1 : (((Iq.map Plane.v)).length : Int) + ((ss.map Stage.v)).length = (c0 : Nat) := hlen0
    rw [e1]
    unfold srcs at hx
    split at hx
    ·rename_i ht
     have ht2 := ht.2
     simp only [Stage.v] at ht2
     simp only [List.mem_cons, List.not_mem_nil, or_false, Stage.v] at hx
     rcases hx with rfl | rfl <;> omega
    ·simp only [List.mem_singleton, Stage.v] at hx
     subst hx; omega
   have hg2 : Good (Iq.map Plane.v) ((ss ++ [a0]).map Stage.v) pr := by rw [List.map_append]; exact hgood.snoc (by simp; omega) hsrc
   have hr2 : ∃ l2, runS ((Iq.map Plane.v).map shpOf) ((ss ++ [a0]).map Stage.v) = some l2 := by
    cases hrr : runS ((Iq.map Plane.v).map shpOf) ((ss ++ [a0]).map Stage.v) with
    | some l => exact ⟨l, rfl⟩
    | none => exact absurd ‹_› ((shp_run hg2 (by simp)).2 hrr)
   obtain ⟨l2, hr2⟩ := hr2
   have t5 := ((((((((((((n2.pick 11 rfl).pick 11 rfl).pick 9 rfl).pick 5 rfl).pick 11 rfl).pick 11 rfl).pick 9 rfl).pick 10 rfl).pick 9 rfl).dropAt 9 rfl).dropAt 9 rfl).dropAt 9 rfl)
   try dsimp only [List.set, List.eraseIdx, Value.cells] at t5
   exact ⟨a0, l2, c3, i5, alA, t5, hO3, j5, r7, hg2, hr2⟩
  refine cT _ (bne_iff_ne.2 s5) ?_
  refine sR <| pu2 ?_
  refine sBS n2 #[I 0, I 0] Try.runUnderlying59 Try.sizeOf66 Try.zeroValue66 ?_
  intro p0 _ x7
  refine pu1 ?_
  refine sTw x7 4 [I 6, I av, I (-1), .bool false, I 0, I 0, I 0, I 0, .slice none 0 0, .slice none 0 0, .slice none 0 0, I 0, I 0, .slice none 0 0, .slice none 0 0, I 0, .slice (At p0 0) 1 1, I 255] Try.sizeOf61 ?_
  intro _ j1
  try dsimp only [List.set, List.eraseIdx, Value.cells] at j1
  refine nT <| regionE <| pu1 ?_
  refine sL j1 3 1 (.slice a3 n3 k3) (Try.isAgg26 _) ?_
  refine pu1 ?_
  refine sL j1 3 1 (.slice a3 n3 k3) (Try.isAgg26 _) ?_
  refine pu1 ?_
  refine sSub ((n3 : Nat) : Int) 1 ?_
  refine sLA j1 4 0 [I 6, I av, I (-1), .bool false, I 0, I 0, I 0, I 0, .slice none 0 0, .slice none 0 0, .slice none 0 0, I 0, I 0, .slice none 0 0, .slice none 0 0, I 0, .slice (At p0 0) 1 1, I 255] (Try.isAgg61 _) (Try.sizeOf61 _) ?_
  refine sIdxO hO3 (((n3 : Nat) : Int) - 1) ((((n3 : Nat) : Int) - 1)).toNat Try.runUnderlying26 Try.sizeOf61 ?_
  intro y7 _ _ z7 _ a8
  refine sStF j1 hO3 a8 2 ((((n3 : Nat) : Int) - 1)).toNat 0 y7 (⟨6, av, -1, false, 0, 0, 0, 0, ⟨none, 0, 0, []⟩, ⟨none, 0, 0, []⟩, ⟨none, 0, 0, []⟩, 0, 0, ⟨none, 0, 0, []⟩, ⟨none, 0, 0, []⟩, 0, ⟨(At p0 0), 1, 1, [(⟨0, 0⟩ : POp)]⟩, 255⟩ : Stage) z7 (.agg #[I 6, I av, I (-1), .bool false, I 0, I 0, I 0, I 0, .slice none 0 0, .slice none 0 0, .slice none 0 0, I 0, I 0, .slice none 0 0, .slice none 0 0, I 0, .slice (At p0 0) 1 1, I 255]) [I 6, I av, I (-1), .bool false, I 0, I 0, I 0, I 0, .slice none 0 0, .slice none 0 0, .slice none 0 0, I 0, I 0, .slice none 0 0, .slice none 0 0, I 0, .slice (At p0 0) 1 1, I 255] Try.sizeOf61 ?_
  intro _ b8 c8 u5
  try dsimp only [List.set, List.eraseIdx, Value.cells] at u5
  refine nT ?_
  have hsrc : ∀ x ∈ srcs a0.v, 0 ≤ x ∧ x < (((Iq.map Plane.v)).length : Int) + ((ss.map Stage.v)).length := by
   intro x hx
   have hab := k5
   have e1 : (((Iq.map Plane.v)).length : Int) + ((ss.map Stage.v)).length = (c0 : Nat) := hlen0
   rw [e1]
   unfold srcs at hx
   split at hx
   ·rename_i ht
    have ht2 := ht.2
    simp only [Stage.v] at ht2
    simp only [List.mem_cons, List.not_mem_nil, or_false, Stage.v] at hx
    rcases hx with rfl | rfl <;> omega
   ·simp only [List.mem_singleton, Stage.v] at hx
    subst hx; omega
  have hg2 : Good (Iq.map Plane.v) (((ss ++ [(⟨6, av, -1, false, 0, 0, 0, 0, ⟨none, 0, 0, []⟩, ⟨none, 0, 0, []⟩, ⟨none, 0, 0, []⟩, 0, 0, ⟨none, 0, 0, []⟩, ⟨none, 0, 0, []⟩, 0, ⟨(At p0 0), 1, 1, [(⟨0, 0⟩ : POp)]⟩, 255⟩ : Stage)])).map Stage.v) pr := by rw [List.map_append]; exact hgood.snoc (by simp; omega) (by
    intro x hx
    have h0 : srcs (Stage.v (⟨6, av, -1, false, 0, 0, 0, 0, ⟨none, 0, 0, []⟩, ⟨none, 0, 0, []⟩, ⟨none, 0, 0, []⟩, 0, 0, ⟨none, 0, 0, []⟩, ⟨none, 0, 0, []⟩, 0, ⟨(At p0 0), 1, 1, [(⟨0, 0⟩ : POp)]⟩, 255⟩ : Stage)) = [av] := by unfold srcs; rw [if_neg (by unfold twoP; simp [Stage.v])]; rfl
    rw [h0] at hx; simp only [List.mem_singleton] at hx; subst hx; rw [hlen0]; omega)
  have hr2 : ∃ l2, runS ((Iq.map Plane.v).map shpOf) (((ss ++ [(⟨6, av, -1, false, 0, 0, 0, 0, ⟨none, 0, 0, []⟩, ⟨none, 0, 0, []⟩, ⟨none, 0, 0, []⟩, 0, 0, ⟨none, 0, 0, []⟩, ⟨none, 0, 0, []⟩, 0, ⟨(At p0 0), 1, 1, [(⟨0, 0⟩ : POp)]⟩, 255⟩ : Stage)])).map Stage.v) = some l2 := by rw [List.map_append]; exact good_safe (a := av) hgood hrun (by rw [hlen0]; omega)
  have hset : (ss ++ [a0]).set (((((n3 : Nat) : Int) - 1)).toNat) (⟨6, av, -1, false, 0, 0, 0, 0, ⟨none, 0, 0, []⟩, ⟨none, 0, 0, []⟩, ⟨none, 0, 0, []⟩, 0, 0, ⟨none, 0, 0, []⟩, ⟨none, 0, 0, []⟩, 0, ⟨(At p0 0), 1, 1, [(⟨0, 0⟩ : POp)]⟩, 255⟩ : Stage) = ss ++ [(⟨6, av, -1, false, 0, 0, 0, 0, ⟨none, 0, 0, []⟩, ⟨none, 0, 0, []⟩, ⟨none, 0, 0, []⟩, 0, 0, ⟨none, 0, 0, []⟩, ⟨none, 0, 0, []⟩, 0, ⟨(At p0 0), 1, 1, [(⟨0, 0⟩ : POp)]⟩, 255⟩ : Stage)] := by rw [List.set_append_right _ _ om, show (((((n3 : Nat) : Int) - 1)).toNat) - ss.length = 0 from by omega]; rfl
  obtain ⟨l2, hr2⟩ := hr2
  have v5 := (((((((((((((u5.pick 12 rfl).pick 12 rfl).pick 10 rfl).pick 6 rfl).pick 12 rfl).pick 12 rfl).pick 10 rfl).pick 7 rfl).pick 9 rfl).dropAt 9 rfl).dropAt 9 rfl).dropAt 9 rfl).dropAt 9 rfl)
  try dsimp only [List.set, List.eraseIdx, Value.cells] at v5
  exact ⟨(⟨6, av, -1, false, 0, 0, 0, 0, ⟨none, 0, 0, []⟩, ⟨none, 0, 0, []⟩, ⟨none, 0, 0, []⟩, 0, 0, ⟨none, 0, 0, []⟩, ⟨none, 0, 0, []⟩, 0, ⟨(At p0 0), 1, 1, [(⟨0, 0⟩ : POp)]⟩, 255⟩ : Stage), l2, b8, [(p0, .cells #[I 0, I 0] 66 (0, 0))], alA, v5, (by have h := c8; rw [hset] at h; exact h), ⟨RdT.nil (enc := encI) (sz := 1) fR _, RdT.nil (enc := encI) (sz := 1) fR _, RdT.nil (enc := encI) (sz := 1) fR _, RdT.nil (enc := encTap) (sz := 2) fR _, (fun z hz => by cases hz), RdT.nil (enc := encTap) (sz := 2) fR _, (fun z hz => by cases hz), (RdT.blk (cs := [[(p0, .cells #[I 0, I 0] 66 (0, 0))]]) (enc := encPOp) (sz := 2) (xs := [(⟨0, 0⟩ : POp)]) fR 1 0 rfl rfl rfl om)⟩, ⟨⟨nb, nb, nb, nb, nb, nb, nb, nb, nb, nb, nb⟩, ⟨by simp, fun z hz => by cases hz⟩, ⟨by simp, fun z hz => by cases hz⟩, ⟨by simp, fun z hz => by cases hz⟩, ⟨by simp, fun z hz => by cases hz⟩, ⟨by simp, fun z hz => by cases hz⟩, ⟨by simp, (by intro z hz; simp only [List.mem_singleton] at hz; subst hz; unfold opB numB; dsimp only; omega)⟩⟩, hg2, hr2⟩
 refine drawP [0, 3, 5, 6, 8] [(2, ⟨i0, 1, none⟩, .slice sa sn sk), (4, ⟨f0, 0, none⟩, I a0.kind), (4, ⟨f0, 1, none⟩, I a0.a), (4, ⟨f0, 2, none⟩, I a0.b), (4, ⟨f0, 3, none⟩, .bool a0.barrier), (4, ⟨f0, 4, none⟩, I a0.edgePolicy), (4, ⟨f0, 5, none⟩, I a0.edgeFill), (4, ⟨f0, 6, none⟩, I a0.kW), (4, ⟨f0, 7, none⟩, I a0.kH), (4, ⟨f0, 8, none⟩, .slice a0.weights.a a0.weights.n a0.weights.k), (4, ⟨f0, 9, none⟩, .slice a0.row.a a0.row.n a0.row.k), (4, ⟨f0, 10, none⟩, .slice a0.col.a a0.col.n a0.col.k), (4, ⟨f0, 11, none⟩, I a0.shift), (4, ⟨f0, 12, none⟩, I a0.shift2), (4, ⟨f0, 13, none⟩, .slice a0.x.a a0.x.n a0.x.k), (4, ⟨f0, 14, none⟩, .slice a0.y.a a0.y.n a0.y.k), (4, ⟨f0, 15, none⟩, I a0.bins), (4, ⟨f0, 16, none⟩, .slice a0.ops.a a0.ops.n a0.ops.k), (4, ⟨f0, 17, none⟩, I a0.max_)] (Plan.sts [1] <| Plan.sts [2] <| Plan.sts [4] <| .fk 0 5 (.fk 3 5 (.ef 5 <| .ef 6 <| Plan.sts [7] <| .ef 8 <| .fin) (.ef 3 <| .ef 6 <| Plan.sts [7] <| .ef 8 <| .fin)) (.ef 0 <| .ef 3 <| .ef 6 <| Plan.sts [7] <| .ef 8 <| .fin)) rfl kr ⟨.inr (d0.cell 6 rfl rfl), .inr (d0.cell 1 rfl rfl), .inr (d0.cell 1 rfl rfl), .inr (d0.cell 1 rfl rfl), .inr (d0.cell 1 rfl rfl), .inr (d0.cell 1 rfl rfl), .inr (d0.cell 1 rfl rfl), .inr (d0.cell 1 rfl rfl), .inr (d0.cell 1 rfl rfl), .inr (d0.cell 1 rfl rfl), .inr (d0.cell 1 rfl rfl), .inr (d0.cell 1 rfl rfl), .inr (d0.cell 1 rfl rfl), .inr (d0.cell 1 rfl rfl), .inr (d0.cell 1 rfl rfl), .inr (d0.cell 1 rfl rfl), .inr (d0.cell 1 rfl rfl), .inr (d0.cell 1 rfl rfl), .inr (d0.cell 1 rfl rfl), trivial⟩ ?_
 have w5 := d0.drew
 refine qU [1] ?_
 refine qS (.slice sa sn sk) rfl rfl rfl (fun w hF => Y_load rfl (Try.isAgg26 w) kr (hF 0 _ _ rfl)) ?_
 refine qS (.agg (encStage a0).toArray) rfl rfl rfl (fun w hF => Y_loadF rfl (Try.isAgg61 w) (Try.sizeOf61 w) kr rfl ⟨hF 1 _ _ rfl, hF 2 _ _ rfl, hF 3 _ _ rfl, hF 4 _ _ rfl, hF 5 _ _ rfl, hF 6 _ _ rfl, hF 7 _ _ rfl, hF 8 _ _ rfl, hF 9 _ _ rfl, hF 10 _ _ rfl, hF 11 _ _ rfl, hF 12 _ _ rfl, hF 13 _ _ rfl, hF 14 _ _ rfl, hF 15 _ _ rfl, hF 16 _ _ rfl, hF 17 _ _ rfl, hF 18 _ _ rfl, trivial⟩) ?_
 refine qF ?_ ?_
 rotate_left
 ·refine qO rfl ?_
  refine sBS w5 (encStage a0).toArray Try.runUnderlying26 Try.sizeOf61 Try.zeroValue61 ?_
  intro _ _ x5
  refine nilO ⟨⟨.inr (x5.cell 7 rfl rfl), dI, dI, dI, dI, dI, dI, dI, dI, dI, dI, dI, dI, dI, dI, dI, dI, dI, dI, trivial⟩, ?_⟩
  refine qO rfl ?_
  refine sBS x5 #[] Try.runUnderlying26 Try.sizeOf61 Try.zeroValue61 ?_
  intro d8 _ y5
  refine nilO ⟨⟨.inr (y5.cell 8 rfl rfl), dI, dI, dI, dI, dI, dI, dI, dI, dI, dI, dI, dI, dI, dI, dI, dI, dI, dI, trivial⟩, ?_⟩
  refine qO rfl ?_
  have e8 := OwnT.blk (enc := encStage) (sz := 18) (b := d8) (c := #[]) (E := 61) (xs := []) fR 0 rfl rfl rfl om
  refine sApp (nb := 240) y5 e8 0 (hRs.up 7 rfl) Try.underlying26 (i := Try.t61) kr fR ?_
  intro _ _ _ _ f8 z5
  try dsimp only [List.set, List.eraseIdx, Value.cells] at z5
  refine nilO ⟨dA, ?_⟩
  refine qO rfl ?_
  refine sApp (nb := 240) z5 f8 0 (RdT.blk (enc := encStage) (sz := 18) (xs := [a0]) fR 1 1 rfl rfl rfl om) Try.underlying26 (i := Try.t61) kr fR ?_
  intro o2 p2 g8 _ h8 a6
  try dsimp only [List.set, List.eraseIdx, Value.cells] at a6
  refine nilO ⟨dA, ?_⟩
  refine qU [7] ?_
  refine qO rfl ?_
  refine sT1 a6 2 1 (.slice o2 ((0 + sn) + 1) p2) #[.slice ai ni ki, .slice o2 ((0 + sn) + 1) p2, .slice none 0 0, I pr] Try.sizeOf26 ?_
  intro _ b6
  try dsimp only [List.set, List.eraseIdx, Value.cells] at b6
  refine nilO ⟨dA, ?_⟩
  refine qN ?_
  refine thenK_n ?_
  have c6 := ((((((((((((b6.pick 11 rfl).pick 11 rfl).pick 11 rfl).pick 11 rfl).pick 11 rfl).pick 11 rfl).pick 11 rfl).pick 11 rfl).pick 11 rfl).pick 11 rfl).pick 10 rfl).dropAt 11 rfl)
  try dsimp only [List.set, List.eraseIdx, Value.cells] at c6
  exact ⟨o2, ((0 + sn) + 1), p2, g8, alA, c6, (by have h := h8; first | exact h | simpa using h)⟩
 refine qO rfl ?_
 refine sBS w5 #[] Try.runUnderlying26 Try.sizeOf61 Try.zeroValue61 ?_
 intro d6 _ e0
 refine nilO ⟨⟨.inr (e0.cell 7 rfl rfl), .inr (e0.cell 2 rfl rfl), .inr (e0.cell 2 rfl rfl), .inr (e0.cell 2 rfl rfl), .inr (e0.cell 2 rfl rfl), .inr (e0.cell 2 rfl rfl), .inr (e0.cell 2 rfl rfl), .inr (e0.cell 2 rfl rfl), .inr (e0.cell 2 rfl rfl), .inr (e0.cell 2 rfl rfl), .inr (e0.cell 2 rfl rfl), .inr (e0.cell 2 rfl rfl), .inr (e0.cell 2 rfl rfl), .inr (e0.cell 2 rfl rfl), .inr (e0.cell 2 rfl rfl), .inr (e0.cell 2 rfl rfl), .inr (e0.cell 2 rfl rfl), .inr (e0.cell 2 rfl rfl), .inr (e0.cell 2 rfl rfl), trivial⟩, ?_⟩
 refine qF ?_ ?_
 rotate_left
 ·refine qO rfl ?_
  refine sBS e0 (encStage a0).toArray Try.runUnderlying26 Try.sizeOf61 Try.zeroValue61 ?_
  intro _ _ e6
  refine nilO ⟨⟨.inr (e6.cell 8 rfl rfl), dI, dI, dI, dI, dI, dI, dI, dI, dI, dI, dI, dI, dI, dI, dI, dI, dI, dI, trivial⟩, ?_⟩
  refine qO rfl ?_
  have i8 := OwnT.blk (enc := encStage) (sz := 18) (b := d6) (c := #[]) (E := 61) (xs := []) fR 0 rfl rfl rfl om
  refine sApp (nb := 240) e6 i8 1 (hRs.up 7 rfl) Try.underlying26 (i := Try.t61) kr fR ?_
  intro _ _ _ _ j8 f6
  try dsimp only [List.set, List.eraseIdx, Value.cells] at f6
  refine nilO ⟨dA, ?_⟩
  refine qO rfl ?_
  refine sApp (nb := 240) f6 j8 1 (RdT.blk (enc := encStage) (sz := 18) (xs := [a0]) fR 1 0 rfl rfl rfl om) Try.underlying26 (i := Try.t61) kr fR ?_
  intro r2 s2 k8 _ l8 g6
  try dsimp only [List.set, List.eraseIdx, Value.cells] at g6
  refine nilO ⟨dA, ?_⟩
  refine qU [7] ?_
  refine qO rfl ?_
  refine sT1 g6 2 1 (.slice r2 ((0 + sn) + 1) s2) #[.slice ai ni ki, .slice r2 ((0 + sn) + 1) s2, .slice none 0 0, I pr] Try.sizeOf26 ?_
  intro _ h6
  try dsimp only [List.set, List.eraseIdx, Value.cells] at h6
  refine nilO ⟨dA, ?_⟩
  refine qN ?_
  refine thenK_n ?_
  have i6 := ((((((((((((h6.pick 11 rfl).pick 11 rfl).pick 11 rfl).pick 11 rfl).pick 11 rfl).pick 11 rfl).pick 11 rfl).pick 11 rfl).pick 11 rfl).pick 11 rfl).pick 11 rfl).dropAt 11 rfl)
  try dsimp only [List.set, List.eraseIdx, Value.cells] at i6
  exact ⟨r2, ((0 + sn) + 1), s2, k8, alA, i6, (by have h := l8; first | exact h | simpa using h)⟩
 refine qO rfl ?_
 have m8 := OwnT.blk (enc := encStage) (sz := 18) (b := d6) (c := #[]) (E := 61) (xs := []) fR 0 rfl rfl rfl om
 refine sApp (nb := 240) e0 m8 0 (hRs.up 6 rfl) Try.underlying26 (i := Try.t61) kr fR ?_
 intro _ _ _ _ n8 g0
 try dsimp only [List.set, List.eraseIdx, Value.cells] at g0
 refine nilO ⟨⟨dI, .inr (g0.cell 2 rfl rfl), .inr (g0.cell 2 rfl rfl), .inr (g0.cell 2 rfl rfl), .inr (g0.cell 2 rfl rfl), .inr (g0.cell 2 rfl rfl), .inr (g0.cell 2 rfl rfl), .inr (g0.cell 2 rfl rfl), .inr (g0.cell 2 rfl rfl), .inr (g0.cell 2 rfl rfl), .inr (g0.cell 2 rfl rfl), .inr (g0.cell 2 rfl rfl), .inr (g0.cell 2 rfl rfl), .inr (g0.cell 2 rfl rfl), .inr (g0.cell 2 rfl rfl), .inr (g0.cell 2 rfl rfl), .inr (g0.cell 2 rfl rfl), .inr (g0.cell 2 rfl rfl), .inr (g0.cell 2 rfl rfl), trivial⟩, ?_⟩
 refine qO rfl ?_
 refine sBS g0 (encStage a0).toArray Try.runUnderlying26 Try.sizeOf61 Try.zeroValue61 ?_
 intro _ _ o8
 refine nilO ⟨dA, ?_⟩
 refine qO rfl ?_
 refine sApp (nb := 240) o8 n8 1 (RdT.blk (enc := encStage) (sz := 18) (xs := [a0]) fR 1 0 rfl rfl rfl om) Try.underlying26 (i := Try.t61) kr fR ?_
 intro t2 u2 p8 _ q8 j6
 try dsimp only [List.set, List.eraseIdx, Value.cells] at j6
 refine nilO ⟨dA, ?_⟩
 refine qU [7] ?_
 refine qO rfl ?_
 refine sT1 j6 2 1 (.slice t2 ((0 + sn) + 1) u2) #[.slice ai ni ki, .slice t2 ((0 + sn) + 1) u2, .slice none 0 0, I pr] Try.sizeOf26 ?_
 intro _ k6
 try dsimp only [List.set, List.eraseIdx, Value.cells] at k6
 refine nilO ⟨dA, ?_⟩
 refine qN ?_
 refine thenK_n ?_
 have l6 := ((((((((((((k6.pick 11 rfl).pick 11 rfl).pick 11 rfl).pick 11 rfl).pick 11 rfl).pick 11 rfl).pick 11 rfl).pick 11 rfl).pick 11 rfl).pick 11 rfl).pick 11 rfl).dropAt 11 rfl)
 try dsimp only [List.set, List.eraseIdx, Value.cells] at l6
 exact ⟨t2, ((0 + sn) + 1), u2, p8, alA, l6, (by have h := q8; first | exact h | simpa using h)⟩
end Go.Proofs.Ytcddcpaodcjecaa
