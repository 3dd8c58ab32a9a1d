import Derived.Test.YtbofcpnngniopaaGreatP2TGen
namespace Go.Proofs.YtbofcpnngniopaaGreat
open Go Go.E
set_option linter.unusedVariables false
set_option linter.unusedSimpArgs false
set_option linter.unnecessarySimpa false
set_option maxRecDepth 100000
set_option maxHeartbeats 2000000
variable {W w : World} {H : Chunk} {F : List Chunk}

-- squeezed
def planeG (z : Plane) : Prop := planeOK z.v = true ∧ planeB z
def jobB (k : Nat) (q : Job) : Prop := (q.inputs.l.length ≤ 2 ∧ ∀ z ∈ q.inputs.l, planeB z ∧ numB z.w ∧ numB z.h ∧ numB z.max_) ∧ (q.stages.l.length ≤ 4 ∧ ∀ z ∈ q.stages.l, stageB k z) ∧ (q.outputs.l.length ≤ 2 + k ∧ ∀ z ∈ q.outputs.l, numB z) ∧ numB q.priority
theorem planeG_num {z : Plane} (h : planeG z) : planeB z ∧ numB z.w ∧ numB z.h ∧ numB z.max_ := by
  have h1 := h.1
  unfold planeOK at h1
  rw [Bool.and_eq_true] at h1
  have h2 := (of_decide_eq_true h1.1).1
  unfold sizeP at h2
  simp only [Plane.v] at h2
  refine ⟨h.2, ?_, ?_, ?_⟩ <;> unfold numB <;> omega
theorem all_planeG {l : List Plane} (h : ∀ z ∈ l, planeG z) : (l.map Plane.v).all planeOK = true := by
  rw [List.all_eq_true]
  intro x hx
  obtain ⟨z, hz, rfl⟩ := List.mem_map.1 hx
  exact (h z hz).1
theorem tg_job {p : Nat} {a : Option Addr} {n k : Nat} {i : Int} {xs : List Int} (hR : RdT encI 1 [H] a n k xs) (hi : 0 ≤ i ∧ i ≤ n) (hS : Sat W w ([(p, .cells #[.slice a n k, I i] 59 (0, 0))] :: H :: F)) (m0 : Int) (hm0 : 1 ≤ m0 ∧ m0 ≤ 4) :
  Calls Tryz.prog 7 #[Pt p 0, I m0] w fun e w' => ∃ (q : Job) (G : Chunk), e = .returned (.agg (encJob q).toArray) ∧ (Job.Ok [G] q) ∧ (jobB 0 q) ∧ (Good (q.inputs.l.map Plane.v) (q.stages.l.map Stage.v) q.priority ∧ ∃ l0, runS ((q.inputs.l.map Plane.v).map shpOf) (q.stages.l.map Stage.v) = some l0) ∧ (1 ≤ q.stages.l.length ∧ (1 ≤ q.outputs.l.length ∧ q.outputs.l.length ≤ 2) ∧ inR ((q.inputs.l.map Plane.v).length + (q.stages.l.map Stage.v).length) q.outputs.l = true) ∧ ∃ i' : Int, (0 ≤ i' ∧ i' ≤ n) ∧ Sat W w' ([(p, .cells #[.slice a n k, I i'] 59 (0, 0))] :: G :: H :: F) := by
 have hle := hR.le
 refine callsA 151 Tryz.func7 rfl ?_
 refine sR ?_
 refine sAlloc hS Tryz.zeroValue28 ?_
 intro i0 _ w3
 refine nT <| sR <| pu1 ?_
 have x3 := (w3.pick 1 rfl)
 refine cX Tryz.call19 (tape_next (RdT.flat (hR.up 1 (by rfl))) om (Sat.flat1 x3) 4 om) ?_
 rintro _ _ ⟨p0, rfl, _, _, _, y3⟩
 have z3 := Sat.unflat1 y3
 refine pu1 ?_
 refine sAlloc z3 Tryz.zeroValue28 ?_
 intro c0 _ a4
 refine sT a4 0 0 (.agg #[.slice none 0 0, .slice none 0 0, .slice none 0 0, I p0]) [.slice none 0 0, .slice none 0 0, .slice none 0 0, I p0] #[.slice none 0 0, .slice none 0 0, .slice none 0 0, I p0] Tryz.sizeOf28 ?_
 intro _ b4
 refine nT <| sR <| pu1 ?_
 have d4 := (b4.pick 1 rfl)
 refine cX Tryz.call20 (tg_plane (RdT.flat (hR.up 2 (by rfl))) om (Sat.flat1 d4) ) ?_
 rintro _ _ ⟨b0, x0, rfl, d2, j1, _, _, e4⟩
 have f4 := Sat.unflat2 e4
 refine sAlloc f4 Tryz.zeroValue38 ?_
 intro e2 _ g4
 refine sT g4 0 0 (.agg (encPlane b0).toArray) (encPlane b0) (encPlane b0).toArray Tryz.sizeOf38 ?_
 intro _ f2
 refine nT <| sR ?_
 refine lA f2 0 0 4 (Tryz.isAgg38 _) (Tryz.sizeOf38 _) ?_
 refine sBS f2 (encPlane b0).toArray Tryz.runUnderlying25 Tryz.sizeOf38 Tryz.zeroValue38 ?_
 intro o0 _ h4
 refine pu1 ?_
 refine tW h4 4 0 (.slice (At o0 0) 1 1) Tryz.sizeOf25 ?_
 intro _ i4
 refine nT ?_
 refine cutA (γ := (Option Addr) × Nat × Nat × (List Plane) × Chunk × Int × Int) (fun ⟨ai, ni, ki, Iq, GI, pr, itc⟩ => [(0, Pt p 0), (1, I m0), (4, Pt i0 0), (5, Pt c0 0)]) (fun ⟨ai, ni, ki, Iq, GI, pr, itc⟩ w => Sat W w ([(p, .cells #[.slice a n k, I itc] 59 (0, 0))] :: [(c0, .cells #[.slice ai ni ki, .slice none 0 0, .slice none 0 0, I pr] 28 (0, 0))] :: [(i0, .cells #[.slice none 0 0, .slice none 0 0, .slice none 0 0, I 0] 28 (0, 0))] :: GI :: H :: F) ∧ (0 ≤ itc ∧ itc ≤ n) ∧ RdT encPlane 4 [GI] ai ni ki Iq ∧ (∀ z ∈ Iq, Plane.Ok [GI] z) ∧ ((1 ≤ Iq.length ∧ Iq.length ≤ 2) ∧ ∀ z ∈ Iq, planeG z) ∧ (0 ≤ pr ∧ pr < 4)) ?_ ?_
 ·refine sR <| pu1 ?_
  have j4 := (i4.pick 2 rfl)
  refine cX Tryz.call19 (tape_next (RdT.flat (hR.up 5 (by rfl))) om (Sat.flat1 j4) 2 om) ?_
  rintro _ _ ⟨k4, rfl, _, s1, _, l4⟩
  have c1 := Sat.unflat1 l4
  refine pu1 <| nT ?_
  refine cE k4 0 (fun m4 => ?_) (fun m4 => ?_)
  rotate_left
  ·refine kT ?_
   have n4 := ((c1.picks [5, 5, 2]).dropAt 4 rfl)
   have o4 : Sat W _ ([(p, .cells #[.slice a n k, I s1] 59 (0, 0))] :: [(c0, .cells #[.slice (At o0 0) 1 1, .slice none 0 0, .slice none 0 0, I p0] 28 (0, 0))] :: [(i0, .cells #[.slice none 0 0, .slice none 0 0, .slice none 0 0, I 0] 28 (0, 0))] :: ([(o0, .cells (encPlane b0).toArray 38 (0, 0))] ++ x0) :: (H :: F)) := Sat.perm (show Sat W _ ([(p, .cells #[.slice a n k, I s1] 59 (0, 0))] :: [(c0, .cells #[.slice (At o0 0) 1 1, .slice none 0 0, .slice none 0 0, I p0] 28 (0, 0))] :: [(i0, .cells #[.slice none 0 0, .slice none 0 0, .slice none 0 0, I 0] 28 (0, 0))] :: [(o0, .cells (encPlane b0).toArray 38 (0, 0))] :: x0 :: H :: F) from n4) (by simp [Value.cells])
   exact ⟨((At o0 0), 1, 1, [b0], ([(o0, .cells (encPlane b0).toArray 38 (0, 0))] ++ x0), p0, s1), alA, o4, om, ((RdT.blk (cs := [[(o0, .cells (encPlane b0).toArray 38 (0, 0))]]) (enc := encPlane) (sz := 4) (xs := [b0]) fR 1 0 rfl rfl rfl om).of_mem mS), (by
     intro z hz
     simp only [List.mem_cons, List.mem_append, List.not_mem_nil, or_false] at hz
     subst hz; exact d2.of_mem mS), ⟨by simp, (by
     intro z hz
     simp only [List.mem_cons, List.mem_append, List.not_mem_nil, or_false] at hz
     subst hz; exact ⟨j1.2.2.1, j1.2.2.2⟩)⟩, om⟩
  refine drawE [7, 8, 9, 11] [(1, ⟨c0, 0, none⟩, .slice (At o0 0) 1 1), (4, ⟨e2, 0, none⟩, I b0.w), (6, ⟨e2, 1, none⟩, I b0.h)] [(true, [0, 2, 3, 5]), (true, [1]), (true, [4]), (true, [6]), (false, [7]), (false, [8]), (false, [9]), (true, [10]), (false, [11])] rfl kr ⟨.inr (c1.cell 4 rfl rfl), .inr (c1.cell 2 rfl rfl), .inr (c1.cell 2 rfl rfl), trivial⟩ ?_
  have p4 := c1.drew
  refine wU [0, 2, 3, 5] ?_
  refine wLd (.slice (At o0 0) 1 1) 0 Tryz.isAgg25 ?_
  refine wLd (I b0.w) 1 Tryz.isAgg3 ?_
  refine wLd (I b0.h) 2 Tryz.isAgg3 ?_
  refine wO rfl ?_
  refine cX Tryz.call21 (tg_sized (RdT.flat (hR.up 5 (by rfl))) om (Sat.flat1 p4) b0.w b0.h om) ?_
  rintro _ _ ⟨t1, u1, rfl, q4, g2, v1, _, r4⟩
  have i2 := Sat.unflat2 r4
  refine nilO ⟨⟨.inr (i2.cell 5 rfl rfl), dI, dI, trivial⟩, ?_⟩
  refine wO rfl ?_
  refine sBS i2 (encPlane t1).toArray Tryz.runUnderlying25 Tryz.sizeOf38 Tryz.zeroValue38 ?_
  intro _ _ j2
  refine nilO ⟨⟨.inr (j2.cell 6 rfl rfl), dI, dI, trivial⟩, ?_⟩
  refine wO rfl ?_
  have s4 := OwnT.blk (enc := encPlane) (sz := 4) (b := o0) (c := #[I b0.w, I b0.h, I b0.max_, .slice b0.pix.a b0.pix.n b0.pix.k]) (E := 38) (xs := [b0]) fR 1 rfl rfl rfl om
  refine sApp (nb := 48) j2 s4 3 (RdT.blk (enc := encPlane) (sz := 4) (xs := [t1]) fR 1 0 rfl rfl rfl om) Tryz.underlying25 (i := Tryz.t38) kr fR ?_
  intro k1 l1 m1 _ t4 u4
  refine nilO ⟨dA, ?_⟩
  refine wU [10] ?_
  refine wO rfl ?_
  refine tW u4 6 0 (.slice k1 (1 + 1) l1) Tryz.sizeOf25 ?_
  intro _ v4
  refine nilO ⟨dA, ?_⟩
  refine wN ?_
  refine thenK_n ?_
  have w4 := ((v4.picks [5, 4, 7, 7, 5]).drops [5, 6])
  have x4 : Sat W _ ([(p, .cells #[.slice a n k, I v1] 59 (0, 0))] :: [(c0, .cells #[.slice k1 (1 + 1) l1, .slice none 0 0, .slice none 0 0, I p0] 28 (0, 0))] :: [(i0, .cells #[.slice none 0 0, .slice none 0 0, .slice none 0 0, I 0] 28 (0, 0))] :: (m1 ++ x0 ++ u1) :: (H :: F)) := Sat.perm (show Sat W _ ([(p, .cells #[.slice a n k, I v1] 59 (0, 0))] :: [(c0, .cells #[.slice k1 (1 + 1) l1, .slice none 0 0, .slice none 0 0, I p0] 28 (0, 0))] :: [(i0, .cells #[.slice none 0 0, .slice none 0 0, .slice none 0 0, I 0] 28 (0, 0))] :: m1 :: x0 :: u1 :: H :: F) from w4) (by simp [Value.cells])
  exact ⟨(k1, (1 + 1), l1, ([b0] ++ [t1]), (m1 ++ x0 ++ u1), p0, v1), alA, x4, om, ((t4.rdAt (cs := [m1]) 0 rfl).of_mem mS), (by
    intro z hz
    simp only [List.mem_cons, List.mem_append, List.not_mem_nil, or_false] at hz
    rcases hz with rfl | rfl
    ·exact d2.of_mem mS
    ·exact q4.of_mem mS), ⟨by simp, (by
    intro z hz
    simp only [List.mem_cons, List.mem_append, List.not_mem_nil, or_false] at hz
    rcases hz with rfl | rfl
    ·exact ⟨j1.2.2.1, j1.2.2.2⟩
    ·exact ⟨g2.2.2.1, g2.2.2.2⟩)⟩, om⟩
 rintro ⟨ai, ni, ki, Iq, GI, pr, itc⟩ ρ _ ⟨y4, hitc, hRi, hDi, hGi, hpr⟩
 refine seqE <| sR <| pu2 ?_
 refine cX Tryz.call19 (tape_next (RdT.flat (hR.up 3 (by rfl))) om (Sat.flat1 y4) m0 om) ?_
 rintro _ _ ⟨k2, rfl, _, z4, _, a5⟩
 have b5 := Sat.unflat1 a5
 refine sAdd 1 k2 ?_
 refine pu1 <| nT <| blockE ?_
 have c5 := Sat.nilc b5
 refine loopA (γ := Nat × Int × (List Stage) × (Option Addr) × Nat × Nat × Chunk × (List Shape) × Int) (fun ⟨u, j, ss, sa, sn, sk, Gs, l0, itu⟩ => [(0, Pt p 0), (4, Pt i0 0), (5, Pt c0 0), (7, I j)]) (fun ⟨u, j, ss, sa, sn, sk, Gs, l0, itu⟩ w => Sat W w (Gs :: [(p, .cells #[.slice a n k, I itu] 59 (0, 0))] :: [(c0, .cells #[.slice ai ni ki, .slice sa sn sk, .slice none 0 0, I pr] 28 (0, 0))] :: [(i0, .cells #[.slice none 0 0, .slice none 0 0, .slice none 0 0, I 0] 28 (0, 0))] :: GI :: H :: F) ∧ u ≤ 4 ∧ (RdT encStage 18 [Gs] sa sn sk ss) ∧ (∀ z ∈ ss, Stage.Ok [Gs] z) ∧ (∀ z ∈ ss, stageB 0 z) ∧ (Good (Iq.map Plane.v) (ss.map Stage.v) pr) ∧ (runS ((Iq.map Plane.v).map shpOf) (ss.map Stage.v) = some l0) ∧ (ss.length = u) ∧ (1 ≤ (u : Int) + j ∧ (u : Int) + j ≤ 4) ∧ (0 ≤ itu ∧ itu ≤ n)) (fun ⟨u, j, ss, sa, sn, sk, Gs, l0, itu⟩ => 4 - u) (0, (1 + k2), [], none, 0, 0, [], ((Iq.map Plane.v).map shpOf), z4) ⟨c5, om, RdT.nil (enc := encStage) (sz := 18) fR _, (by intro z hz; cases hz), (by intro z hz; cases hz), ⟨all_planeG hGi.2, by rw [List.length_map]; exact hGi.1, by simp, hpr, by intro m s h; simp at h⟩, by rfl, by rfl, om, om⟩ ?_
 rintro ⟨u, j, ss, sa, sn, sk, Gs, l0, itu⟩ ρ _ ⟨d1, hu, hRs, hDs, hBs, hgood, hrun, hsl, hj, hitu⟩
 refine seqE <| sR <| pu2 <| nT ?_
 refine cD (j > 0) (fun d5 => ?_) (fun d5 => ?_)
 rotate_left
 ·refine exitE <| xB <| thenK_n <| seqE ?_
  have hn_i := hRi.len; have hn_s := hRs.len
  refine regionE <| pu1 ?_
  refine sL d1 2 0 (.slice ai ni ki) (Tryz.isAgg25 _) ?_
  refine pu2 ?_
  refine sL d1 2 1 (.slice sa sn sk) (Tryz.isAgg26 _) ?_
  refine pu1 ?_
  refine sAdd ((ni : Nat) : Int) ((sn : Nat) : Int) ?_
  refine pu1 <| nT <| sR <| pu1 ?_
  refine sSub (((ni : Nat) : Int) + ((sn : Nat) : Int)) 1 ?_
  refine sBS d1 #[I ((((ni : Nat) : Int) + ((sn : Nat) : Int)) - 1)] Tryz.runUnderlying22 Tryz.sizeOf3 Tryz.zeroValue3 ?_
  intro k0 _ e5
  refine pu1 ?_
  refine tW e5 3 2 (.slice (At k0 0) 1 1) Tryz.sizeOf22 ?_
  intro _ f5
  refine nT <| seqE <| sR <| pu1 ?_
  have g5 := (f5.pick 2 rfl)
  refine cX Tryz.call19 (tape_next (RdT.flat (hR.up 5 (by rfl))) om (Sat.flat1 g5) 3 om) ?_
  rintro _ _ ⟨h5, rfl, _, m2, _, i5⟩
  have n1 := Sat.unflat1 i5
  refine pu1 <| nT ?_
  refine cE h5 0 (fun j5 => ?_) (fun j5 => ?_)
  rotate_left
  ·refine kT <| sR ?_
   refine lA n1 3 0 4 (Tryz.isAgg28 _) (Tryz.sizeOf28 _) ?_
   refine sT n1 4 0 (.agg #[.slice ai ni ki, .slice sa sn sk, .slice (At k0 0) 1 1, I pr]) [.slice ai ni ki, .slice sa sn sk, .slice (At k0 0) 1 1, I pr] #[.slice ai ni ki, .slice sa sn sk, .slice (At k0 0) 1 1, I pr] Tryz.sizeOf28 ?_
   intro _ n2
   refine nT <| retE <| retN (vs := [.agg #[.slice ai ni ki, .slice sa sn sk, .slice (At k0 0) 1 1, I pr]]) rfl (.cons (.cell _ _ _ _ kr (lvA n2 4 0 [.slice ai ni ki, .slice sa sn sk, .slice (At k0 0) 1 1, I pr] (Tryz.isAgg28 _) (Tryz.sizeOf28 _) rfl rfl rfl)) .nil) ?_
   have k5 := ((n2.picks [5, 3, 2]).drops [4, 4])
   have l5 : Sat W _ ([(p, .cells #[.slice a n k, I m2] 59 (0, 0))] :: (Gs ++ GI ++ [(k0, .cells #[I ((((ni : Nat) : Int) + ((sn : Nat) : Int)) - 1)] 3 (0, 0))]) :: (H :: F)) := Sat.perm (show Sat W _ ([(p, .cells #[.slice a n k, I m2] 59 (0, 0))] :: Gs :: GI :: [(k0, .cells #[I ((((ni : Nat) : Int) + ((sn : Nat) : Int)) - 1)] 3 (0, 0))] :: H :: F) from k5) (by simp [Value.cells])
   exact ⟨(⟨⟨ai, ni, ki, Iq⟩, ⟨sa, sn, sk, ss⟩, ⟨(At k0 0), 1, 1, [((((ni : Nat) : Int) + ((sn : Nat) : Int)) - 1)]⟩, pr⟩ : Job), (Gs ++ GI ++ [(k0, .cells #[I ((((ni : Nat) : Int) + ((sn : Nat) : Int)) - 1)] 3 (0, 0))]), rfl, ⟨hRi.of_mem mS, (fun z hz => (hDi z hz).of_mem mS), hRs.of_mem mS, (fun z hz => (hDs z hz).of_mem mS), (RdT.blk (cs := [[(k0, .cells #[I ((((ni : Nat) : Int) + ((sn : Nat) : Int)) - 1)] 3 (0, 0))]]) (enc := encI) (sz := 1) (xs := [((((ni : Nat) : Int) + ((sn : Nat) : Int)) - 1)]) fR 1 0 rfl rfl rfl om).of_mem mS⟩, ⟨⟨hGi.1.2, fun z hz => planeG_num (hGi.2 z hz)⟩, ⟨by dsimp only; omega, hBs⟩, ⟨by simp, (by intro z hz; simp only [List.mem_cons, List.mem_append, List.not_mem_nil, or_false] at hz; subst hz; unfold numB; omega)⟩, by unfold numB; dsimp only; omega⟩, ⟨hgood, l0, hrun⟩, ⟨by dsimp only; omega, ⟨by simp, by simp⟩, by
     unfold inR; rw [List.all_eq_true]; intro z hz
     simp only [List.mem_cons, List.mem_append, List.not_mem_nil, or_false] at hz
     refine decide_eq_true ?_
     simp only [List.length_map]
     subst hz; omega⟩, _, om, l5⟩
  refine drawE [4, 5, 6, 8] [(1, ⟨c0, 2, none⟩, .slice (At k0 0) 1 1)] [(true, [0, 2, 3]), (true, [1]), (false, [4]), (false, [5]), (false, [6]), (true, [7]), (false, [8])] rfl kr ⟨.inr (n1.cell 3 rfl rfl), trivial⟩ ?_
  have m5 := n1.drew
  refine wU [0, 2, 3] ?_
  refine wLd (.slice (At k0 0) 1 1) 0 Tryz.isAgg22 ?_
  refine wO rfl ?_
  refine cX Tryz.call19 (tape_next (RdT.flat (hR.up 5 (by rfl))) om (Sat.flat1 m5) (((ni : Nat) : Int) + ((sn : Nat) : Int)) om) ?_
  rintro _ _ ⟨w1, rfl, _, o2, _, n5⟩
  have p2 := Sat.unflat1 n5
  refine nilO ⟨⟨.inr (p2.cell 3 rfl rfl), trivial⟩, ?_⟩
  refine wO rfl ?_
  refine sBS p2 #[I w1] Tryz.runUnderlying22 Tryz.sizeOf3 Tryz.zeroValue3 ?_
  intro _ _ r2
  refine nilO ⟨⟨.inr (r2.cell 4 rfl rfl), trivial⟩, ?_⟩
  refine wO rfl ?_
  have o5 := OwnT.blk (enc := encI) (sz := 1) (b := k0) (c := #[I ((((ni : Nat) : Int) + ((sn : Nat) : Int)) - 1)]) (E := 3) (xs := [((((ni : Nat) : Int) + ((sn : Nat) : Int)) - 1)]) fR 1 rfl rfl rfl om
  refine sApp (nb := 8) r2 o5 2 (RdT.blk (enc := encI) (sz := 1) (xs := [w1]) fR 1 0 rfl rfl rfl om) Tryz.underlying22 (i := Tryz.t3) kr fR ?_
  intro v0 w0 o1 _ p5 q5
  refine nilO ⟨dA, ?_⟩
  refine wU [7] ?_
  refine wO rfl ?_
  refine tW q5 4 2 (.slice v0 (1 + 1) w0) Tryz.sizeOf22 ?_
  intro _ s2
  refine nilO ⟨dA, ?_⟩
  refine wN ?_
  refine thenK_n <| sR ?_
  refine lA s2 4 0 4 (Tryz.isAgg28 _) (Tryz.sizeOf28 _) ?_
  refine sT s2 5 0 (.agg #[.slice ai ni ki, .slice sa sn sk, .slice v0 (1 + 1) w0, I pr]) [.slice ai ni ki, .slice sa sn sk, .slice v0 (1 + 1) w0, I pr] #[.slice ai ni ki, .slice sa sn sk, .slice v0 (1 + 1) w0, I pr] Tryz.sizeOf28 ?_
  intro _ t2
  refine nT <| retE <| retN (vs := [.agg #[.slice ai ni ki, .slice sa sn sk, .slice v0 (1 + 1) w0, I pr]]) rfl (.cons (.cell _ _ _ _ kr (lvA t2 5 0 [.slice ai ni ki, .slice sa sn sk, .slice v0 (1 + 1) w0, I pr] (Tryz.isAgg28 _) (Tryz.sizeOf28 _) rfl rfl rfl)) .nil) ?_
  have r5 := ((t2.picks [6, 4, 3]).drops [3, 4, 4])
  have s5 : Sat W _ ([(p, .cells #[.slice a n k, I o2] 59 (0, 0))] :: (Gs ++ GI ++ o1) :: (H :: F)) := Sat.perm (show Sat W _ ([(p, .cells #[.slice a n k, I o2] 59 (0, 0))] :: Gs :: GI :: o1 :: H :: F) from r5) (by simp [Value.cells])
  exact ⟨(⟨⟨ai, ni, ki, Iq⟩, ⟨sa, sn, sk, ss⟩, ⟨v0, (1 + 1), w0, ([((((ni : Nat) : Int) + ((sn : Nat) : Int)) - 1)] ++ [w1])⟩, pr⟩ : Job), (Gs ++ GI ++ o1), rfl, ⟨hRi.of_mem mS, (fun z hz => (hDi z hz).of_mem mS), hRs.of_mem mS, (fun z hz => (hDs z hz).of_mem mS), (p5.rdAt (cs := [o1]) 0 rfl).of_mem mS⟩, ⟨⟨hGi.1.2, fun z hz => planeG_num (hGi.2 z hz)⟩, ⟨by dsimp only; omega, hBs⟩, ⟨by simp, (by intro z hz; simp only [List.mem_cons, List.mem_append, List.not_mem_nil, or_false] at hz; rcases hz with rfl | rfl <;> (unfold numB; omega))⟩, by unfold numB; dsimp only; omega⟩, ⟨hgood, l0, hrun⟩, ⟨by dsimp only; omega, ⟨by simp, by simp⟩, by
    unfold inR; rw [List.all_eq_true]; intro z hz
    simp only [List.mem_cons, List.mem_append, List.not_mem_nil, or_false] at hz
    refine decide_eq_true ?_
    simp only [List.length_map]
    rcases hz with rfl | rfl <;> omega⟩, _, om, s5⟩
 refine kT <| seqE <| blockE <| seqE ?_
 have hn_i := hRi.len; have hn_s := hRs.len
 refine regionE <| pu1 ?_
 refine lA d1 2 0 4 (Tryz.isAgg28 _) (Tryz.sizeOf28 _) ?_
 have t5 := (d1.pick 1 rfl)
 refine cX Tryz.call22 (tg_shapes (RdT.flat (hR.up 4 (by rfl))) om (Sat.flat1 t5) (⟨⟨ai, ni, ki, Iq⟩, ⟨sa, sn, sk, ss⟩, ⟨none, 0, 0, []⟩, pr⟩ : Job) ⟨(RdT.flat (hRi.up 3 (by rfl))), (fun z hz => (hDi z hz).of_mem (mem_flat1 3 (by rfl))), (RdT.flat (hRs.up 0 (by rfl))), (fun z hz => (hDs z hz).of_mem (mem_flat1 0 (by rfl))), (RdT.nil (enc := encI) (sz := 1) fR _)⟩ l0 hgood hrun) ?_
 rintro _ _ ⟨s0, j0, t0, x1, rfl, f1, _, _, u5⟩
 have v5 := Sat.unflat2 u5
 have hn_az_88 := f1.len; have hl_az_88 := f1.le
 refine pu1 <| nilO ?_
 have hsz := runS_sz (ss.map Stage.v) _ l0 (shpOf_sz (all_planeG hGi.2)) hrun
 have hlen0 : (((Iq.map Plane.v)).length : Int) + ((ss.map Stage.v)).length = ((j0 : Nat) : Int) := by have h := hsz.2; have h2 := hn_az_88; simp only [List.length_map] at h ⊢; omega
 have hlen1 : (Iq.length : Int) + ss.length = ((j0 : Nat) : Int) := by have h := hlen0; simp only [List.length_map] at h; exact h
 refine thenK_n <| sR <| pu3 ?_
 refine cX Tryz.call19 (tape_next (RdT.flat (hR.up 5 (by rfl))) om (Sat.flat1 v5) ((j0 : Nat) : Int) om) ?_
 rintro _ _ ⟨w5, rfl, _, _, _, x5⟩
 have y5 := Sat.unflat1 x5
 refine pu1 <| nT ?_
 refine cutA (γ := Int × Int) (fun ⟨av, itA⟩ => [(0, Pt p 0), (4, Pt i0 0), (5, Pt c0 0), (7, I j), (8, .slice s0 j0 t0), (9, I av)]) (fun ⟨av, itA⟩ w => Sat W w ([(p, .cells #[.slice a n k, I itA] 59 (0, 0))] :: x1 :: Gs :: [(c0, .cells #[.slice ai ni ki, .slice sa sn sk, .slice none 0 0, I pr] 28 (0, 0))] :: [(i0, .cells #[.slice none 0 0, .slice none 0 0, .slice none 0 0, I 0] 28 (0, 0))] :: GI :: H :: F) ∧ (0 ≤ itA ∧ itA ≤ n) ∧ (0 ≤ av ∧ av < j0)) ?_ ?_
 ·refine sR <| pu1 ?_
  refine cX Tryz.call19 (tape_next (RdT.flat (hR.up 5 (by rfl))) om (Sat.flat1 y5) 2 om) ?_
  rintro _ _ ⟨z5, rfl, _, u2, _, a6⟩
  have v2 := Sat.unflat1 a6
  refine pu1 <| nT ?_
  refine cE z5 0 (fun b6 => ?_) (fun b6 => ?_)
  rotate_left
  ·refine kT ?_
   exact ⟨(w5, u2), alA, v2, om, om⟩
  refine regionE <| pu2 ?_
  refine sSub ((j0 : Nat) : Int) 1 ?_
  refine pu1 <| nT ?_
  exact ⟨((((j0 : Nat) : Int) - 1), u2), alA, v2, om, om⟩
 rintro ⟨av, itA⟩ ρ _ ⟨c6, hitA, hvA⟩
 refine sR <| pu3 ?_
 refine cX Tryz.call19 (tape_next (RdT.flat (hR.up 5 (by rfl))) om (Sat.flat1 c6) ((j0 : Nat) : Int) om) ?_
 rintro _ _ ⟨g1, rfl, _, y1, _, d6⟩
 have u0 := Sat.unflat1 d6
 refine pu1 <| nT ?_
 refine cutA (γ := Int × Int) (fun ⟨bv, itB⟩ => [(0, Pt p 0), (4, Pt i0 0), (5, Pt c0 0), (7, I j), (8, .slice s0 j0 t0), (9, I av), (10, I bv)]) (fun ⟨bv, itB⟩ w => Sat W w ([(p, .cells #[.slice a n k, I itB] 59 (0, 0))] :: x1 :: Gs :: [(c0, .cells #[.slice ai ni ki, .slice sa sn sk, .slice none 0 0, I pr] 28 (0, 0))] :: [(i0, .cells #[.slice none 0 0, .slice none 0 0, .slice none 0 0, I 0] 28 (0, 0))] :: GI :: H :: F) ∧ (0 ≤ itB ∧ itB ≤ n) ∧ (bv = -1 ∨ (0 ≤ bv ∧ bv < j0))) ?_ ?_
 ·refine seqE ?_
  obtain ⟨q0, y0, z0, e6, z1, a2⟩ := RdT.elem f1 av
  have hsz_x_120 := hsz.1 q0 (List.mem_of_getElem? e6)
  obtain ⟨r0, a1, b1, f6, b2, c2⟩ := RdT.elem f1 g1
  have hsz_x_126 := hsz.1 r0 (List.mem_of_getElem? f6)
  by_cases w2 : (q0.w : Int) = r0.w
  rotate_left
  ·refine drawE [] [(4, ⟨y0, z0 + 0, none⟩, I q0.w), (9, ⟨a1, b1 + 0, none⟩, I r0.w)] [(true, [0, 1]), (true, [2]), (true, [3, 5, 6]), (true, [7]), (true, [8]), (true, [4]), (true, [9]), (true, [10, 11]), (true, [12, 13, 14, 15, 17, 18, 19, 20, 16, 21, 22, 23])] rfl kr ⟨.inr ((z1.up 1 rfl).cell u0 (k := 0) rfl), .inr ((b2.up 1 rfl).cell u0 (k := 0) rfl), trivial⟩ ?_
   have g6 := u0.drew
   refine wU [0, 1] ?_
   refine wY (.pointer (some ⟨y0, z0, none⟩)) rfl (fun w _ => Y_idx (a := s0) (i := av) (len := j0) (cap := t0) rfl Tryz.runUnderlying30 Tryz.sizeOf35 kr kr a2) ?_
   refine wU [3, 5, 6] ?_
   refine wY (.pointer (some ⟨a1, b1, none⟩)) rfl (fun w _ => Y_idx (a := s0) (i := g1) (len := j0) (cap := t0) rfl Tryz.runUnderlying30 Tryz.sizeOf35 kr kr c2) ?_
   refine wU [8] ?_
   refine wLd (I q0.w) 0 Tryz.isAgg3 ?_
   refine wLd (I r0.w) 1 Tryz.isAgg3 ?_
   refine wU [10, 11] ?_
   refine wFix 74 _ true (bne_iff_ne.2 w2) ?_
   refine wU [12, 13, 14, 15, 17, 18, 19, 20, 16, 21, 22, 23] ?_
   refine wN ?_
   refine thenK_n <| cTt <| regionE <| pu1 <| nT ?_
   exact ⟨(-1, y1), alA, g6, om, om⟩
  refine drawE [] [(4, ⟨y0, z0 + 0, none⟩, I q0.w), (9, ⟨a1, b1 + 0, none⟩, I r0.w), (16, ⟨y0, z0 + 1, none⟩, I q0.h), (21, ⟨a1, b1 + 1, none⟩, I r0.h)] [(true, [0, 1]), (true, [2]), (true, [3, 5, 6]), (true, [7]), (true, [8]), (true, [4]), (true, [9]), (true, [10, 11]), (true, [12, 13]), (true, [14]), (true, [15, 17, 18]), (true, [19]), (true, [20]), (true, [16]), (true, [21]), (true, [22, 23])] rfl kr ⟨.inr ((z1.up 1 rfl).cell u0 (k := 0) rfl), .inr ((b2.up 1 rfl).cell u0 (k := 0) rfl), .inr ((z1.up 1 rfl).cell u0 (k := 1) rfl), .inr ((b2.up 1 rfl).cell u0 (k := 1) rfl), trivial⟩ ?_
  have x2 := u0.drew
  refine wU [0, 1] ?_
  refine wY (.pointer (some ⟨y0, z0, none⟩)) rfl (fun w _ => Y_idx (a := s0) (i := av) (len := j0) (cap := t0) rfl Tryz.runUnderlying30 Tryz.sizeOf35 kr kr a2) ?_
  refine wU [3, 5, 6] ?_
  refine wY (.pointer (some ⟨a1, b1, none⟩)) rfl (fun w _ => Y_idx (a := s0) (i := g1) (len := j0) (cap := t0) rfl Tryz.runUnderlying30 Tryz.sizeOf35 kr kr c2) ?_
  refine wU [8] ?_
  refine wLd (I q0.w) 0 Tryz.isAgg3 ?_
  refine wLd (I r0.w) 1 Tryz.isAgg3 ?_
  refine wU [10, 11] ?_
  refine wFix 74 _ false (bne_eq_false_iff_eq.2 w2) ?_
  refine wU [12, 13] ?_
  refine wY (.pointer (some ⟨y0, z0, none⟩)) rfl (fun w _ => Y_idx (a := s0) (i := av) (len := j0) (cap := t0) rfl Tryz.runUnderlying30 Tryz.sizeOf35 kr kr a2) ?_
  refine wU [15, 17, 18] ?_
  refine wY (.pointer (some ⟨a1, b1, none⟩)) rfl (fun w _ => Y_idx (a := s0) (i := g1) (len := j0) (cap := t0) rfl Tryz.runUnderlying30 Tryz.sizeOf35 kr kr c2) ?_
  refine wU [20] ?_
  refine wLd (I q0.h) 2 Tryz.isAgg3 ?_
  refine wLd (I r0.h) 3 Tryz.isAgg3 ?_
  refine wU [22, 23] ?_
  refine wN ?_
  refine thenK_n ?_
  refine cN q0.h r0.h (fun h6 => ?_) (fun h6 => ?_)
  ·refine kT ?_
   exact ⟨(g1, y1), alA, x2, om, om⟩
  refine regionE <| pu1 <| nT ?_
  exact ⟨(-1, y1), alA, x2, om, om⟩
 rintro ⟨bv, itB⟩ ρ _ ⟨y2, hitB, hvB⟩
 refine sR <| pu4 ?_
 refine sIdx f1 av Tryz.runUnderlying30 Tryz.sizeOf35 ?_
 intro h1 _ _ i6 j6
 have hsz_x_138 := hsz.1 h1 (List.mem_of_getElem? i6)
 refine sLpA y2 (j6.up 1 rfl) 0 [I h1.w, I h1.h, I h1.max_] (Tryz.isAgg35 _) (Tryz.sizeOf35 _) ?_
 refine pu1 ?_
 refine cX Tryz.call23 (tg_stage (RdT.flat (hR.up 5 (by rfl))) om (Sat.flat1 y2) av h1 bv ‹_› (by unfold numB; omega)) ?_
 rintro _ _ ⟨a0, z2, rfl, b3, k6, d3, i1, _, l6⟩
 have m6 := Sat.unflat2 l6
 refine sAlloc m6 Tryz.zeroValue44 ?_
 intro e0 _ n6
 refine sT n6 0 0 (.agg (encStage a0).toArray) (encStage a0) (encStage a0).toArray Tryz.sizeOf44 ?_
 intro _ e3
 refine nT <| sR ?_
 refine lA e3 5 0 4 (Tryz.isAgg28 _) (Tryz.sizeOf28 _) ?_
 refine sAlloc e3 Tryz.zeroValue28 ?_
 intro p1 _ o6
 refine sT o6 0 0 (.agg #[.slice ai ni ki, .slice sa sn sk, .slice none 0 0, I pr]) [.slice ai ni ki, .slice sa sn sk, .slice none 0 0, I pr] #[.slice ai ni ki, .slice sa sn sk, .slice none 0 0, I pr] Tryz.sizeOf28 ?_
 intro _ f0
 refine nT ?_
 refine cutA (γ := (Option Addr) × Nat × Nat × Chunk) (fun ⟨a3, n3, k3, c3⟩ => [(0, Pt p 0), (4, Pt i0 0), (5, Pt c0 0), (7, I j), (9, I av), (11, Pt e0 0), (12, Pt p1 0)]) (fun ⟨a3, n3, k3, c3⟩ w => Sat W w (c3 :: [(p1, .cells #[.slice ai ni ki, .slice a3 n3 k3, .slice none 0 0, I pr] 28 (0, 0))] :: [(e0, .cells (encStage a0).toArray 44 (0, 0))] :: [(p, .cells #[.slice a n k, I i1] 59 (0, 0))] :: z2 :: x1 :: Gs :: [(c0, .cells #[.slice ai ni ki, .slice sa sn sk, .slice none 0 0, I pr] 28 (0, 0))] :: [(i0, .cells #[.slice none 0 0, .slice none 0 0, .slice none 0 0, I 0] 28 (0, 0))] :: GI :: H :: F) ∧ OwnT encStage 44 18 a3 n3 k3 (ss ++ [a0]) c3) ?_ ?_
 rotate_left
 ·rintro ⟨a3, n3, k3, c3⟩ ρ _ ⟨p6, hO3⟩
  refine seqE ?_
  have hn3 := hO3.len; simp only [List.length_append, List.length_singleton] at hn3; have hl3 := hO3.le
  refine regionE ?_
  refine sBS p6 #[I 0] Tryz.runUnderlying22 Tryz.sizeOf3 Tryz.zeroValue3 ?_
  intro q1 _ q6
  refine pu1 ?_
  refine tW q6 2 2 (.slice (At q1 0) 1 1) Tryz.sizeOf22 ?_
  intro _ f3
  refine nT ?_
  refine cutA (γ := Stage × (List Shape) × Chunk × Chunk) (fun ⟨q2, l2, c4, Gq2⟩ => [(0, Pt p 0), (4, Pt i0 0), (5, Pt c0 0), (7, I j), (12, Pt p1 0)]) (fun ⟨q2, l2, c4, Gq2⟩ w => Sat W w (c4 :: Gq2 :: [(p, .cells #[.slice a n k, I i1] 59 (0, 0))] :: [(c0, .cells #[.slice ai ni ki, .slice sa sn sk, .slice none 0 0, I pr] 28 (0, 0))] :: [(i0, .cells #[.slice none 0 0, .slice none 0 0, .slice none 0 0, I 0] 28 (0, 0))] :: [(p1, .cells #[.slice ai ni ki, .slice a3 n3 k3, .slice (At q1 0) 1 1, I pr] 28 (0, 0))] :: Gs :: GI :: H :: F) ∧ OwnT encStage 44 18 a3 n3 k3 (ss ++ [q2]) c4 ∧ Stage.Ok [Gq2] q2 ∧ stageB 0 q2 ∧ Good (Iq.map Plane.v) ((ss ++ [q2]).map Stage.v) pr ∧ runS ((Iq.map Plane.v).map shpOf) ((ss ++ [q2]).map Stage.v) = some l2) ?_ ?_
  rotate_left
  ·rintro ⟨q2, l2, c4, Gq2⟩ ρ _ ⟨g3, hO4, hq2ok, hq2B, hg2, hr2⟩
   have hn4 := hO4.len; simp only [List.length_append, List.length_singleton] at hn4
   refine regionE <| pu1 ?_
   refine sL g3 5 1 (.slice a3 n3 k3) (Tryz.isAgg26 _) ?_
   refine pu1 ?_
   refine tW g3 3 1 (.slice a3 n3 k3) Tryz.sizeOf26 ?_
   intro _ r6
   refine nB <| regionE <| pu1 ?_
   refine sSub j 1 ?_
   refine pu1 <| nT ?_
   have s6 := ((r6.picks [6, 2, 2]).dropAt 6 rfl)
   have t6 : Sat W _ ((c4 ++ Gq2 ++ Gs) :: ([(p, .cells #[.slice a n k, I i1] 59 (0, 0))] :: [(c0, .cells #[.slice ai ni ki, .slice a3 n3 k3, .slice none 0 0, I pr] 28 (0, 0))] :: [(i0, .cells #[.slice none 0 0, .slice none 0 0, .slice none 0 0, I 0] 28 (0, 0))] :: GI :: H :: F)) := Sat.perm (show Sat W _ (c4 :: Gq2 :: Gs :: [(p, .cells #[.slice a n k, I i1] 59 (0, 0))] :: [(c0, .cells #[.slice ai ni ki, .slice a3 n3 k3, .slice none 0 0, I pr] 28 (0, 0))] :: [(i0, .cells #[.slice none 0 0, .slice none 0 0, .slice none 0 0, I 0] 28 (0, 0))] :: GI :: H :: F) from s6) (by simp [Value.cells])
   exact ⟨(u + 1, (j - 1), (ss ++ [q2]), a3, n3, k3, (c4 ++ Gq2 ++ Gs), l2, i1), od, alA, t6, om, ((hO4.rdAt (cs := [c4]) 0 rfl).of_mem mS), (by
     intro z hz
     rcases List.mem_append.1 hz with h | h
     ·exact (hDs z h).of_mem mS
     ·simp only [List.mem_singleton] at h; subst h; exact hq2ok.of_mem mS), mem_snoc hBs hq2B, hg2, hr2, by simp; omega, om, om⟩
  refine sR ?_
  refine lA f3 2 0 4 (Tryz.isAgg28 _) (Tryz.sizeOf28 _) ?_
  refine cR Tryz.call24 (r17_checkj (⟨⟨ai, ni, ki, Iq⟩, ⟨a3, n3, k3, (ss ++ [a0])⟩, ⟨(At q1 0), 1, 1, [0]⟩, pr⟩ : Job) ⟨(RdT.flat (hRi.up 10 (by rfl))), (fun z hz => (hDi z hz).of_mem (mem_flat1 10 (by rfl))), (RdT.flat (hO3.rdAt 1 (by rfl))), (fun z hz => by
    rcases List.mem_append.1 hz with h | h
    ·exact (hDs z h).of_mem (mem_flat1 7 (by rfl))
    ·simp only [List.mem_singleton] at h; rw [h]; exact b3.of_mem (mem_flat1 5 (by rfl))), (RdT.flat (RdT.blk (enc := encI) (sz := 1) (xs := [0]) (fun _ => (by rfl)) 1 0 rfl rfl rfl om))⟩ (od) (Sat.flat f3)) ?_
  intro _ h3
  refine pu5 <| nT <| sR <| pu2 <| nT ?_
  refine cN ((shpV (⟨⟨ai, ni, ki, Iq⟩, ⟨a3, n3, k3, (ss ++ [a0])⟩, ⟨(At q1 0), 1, 1, [0]⟩, pr⟩ : Job).v).2.2) 0 (fun u6 => ?_) (fun u6 => ?_)
  ·refine kT ?_
   have hsrc : ∀ x ∈ srcs a0.v, 0 ≤ x ∧ x < (((Iq.map Plane.v)).length : Int) + ((ss.map Stage.v)).length := by
    intro x hx
    have hab := d3
    have e1 : (((Iq.map Plane.v)).length : Int) + ((ss.map Stage.v)).length = (j0 : Nat) := hlen0
    rw [e1]
    unfold srcs at hx
    split at hx
    ·rename_i ht
     have ht2 := ht.2
     simp only [Stage.v] at ht2
     simp only [List.mem_cons, List.not_mem_nil, or_false, Stage.v] at hx
     rcases hx with rfl | rfl <;> omega
    ·simp only [List.mem_singleton, Stage.v] at hx
     subst hx; omega
   have hg2 : Good (Iq.map Plane.v) ((ss ++ [a0]).map Stage.v) pr := by rw [List.map_append]; exact hgood.snoc (by simp; omega) hsrc
   have hr2 : ∃ l2, runS ((Iq.map Plane.v).map shpOf) ((ss ++ [a0]).map Stage.v) = some l2 := by
    cases hrr : runS ((Iq.map Plane.v).map shpOf) ((ss ++ [a0]).map Stage.v) with
    | some l => exact ⟨l, rfl⟩
    | none => exact absurd ‹_› ((shp_run hg2 (by simp)).2 hrr)
   obtain ⟨l2, hr2⟩ := hr2
   have v6 := ((h3.picks [9, 9, 6, 7, 5]).drops [5, 6, 6])
   exact ⟨(a0, l2, c3, z2), alA, v6, hO3, b3, k6, hg2, hr2⟩
  refine sR <| pu2 ?_
  refine sBS h3 #[I 0, I 0] Tryz.runUnderlying42 Tryz.sizeOf68 Tryz.zeroValue68 ?_
  intro n0 _ w6
  refine pu1 ?_
  refine sT w6 4 0 (.agg #[I 6, I av, I (-1), .bool false, I 0, I 0, I 0, I 0, .slice none 0 0, .slice none 0 0, .slice none 0 0, I 0, I 0, .slice none 0 0, .slice none 0 0, I 0, .slice (At n0 0) 1 1, I 255]) [I 6, I av, I (-1), .bool false, I 0, I 0, I 0, I 0, .slice none 0 0, .slice none 0 0, .slice none 0 0, I 0, I 0, .slice none 0 0, .slice none 0 0, I 0, .slice (At n0 0) 1 1, I 255] #[I 6, I av, I (-1), .bool false, I 0, I 0, I 0, I 0, .slice none 0 0, .slice none 0 0, .slice none 0 0, I 0, I 0, .slice none 0 0, .slice none 0 0, I 0, .slice (At n0 0) 1 1, I 255] Tryz.sizeOf44 ?_
  intro _ r1
  refine nT <| regionE <| pu1 ?_
  refine sL r1 3 1 (.slice a3 n3 k3) (Tryz.isAgg26 _) ?_
  refine pu1 ?_
  refine sL r1 3 1 (.slice a3 n3 k3) (Tryz.isAgg26 _) ?_
  refine pu1 ?_
  refine sSub ((n3 : Nat) : Int) 1 ?_
  refine lA r1 4 0 18 (Tryz.isAgg44 _) (Tryz.sizeOf44 _) ?_
  refine sIdxO hO3 (((n3 : Nat) : Int) - 1) ((((n3 : Nat) : Int) - 1)).toNat Tryz.runUnderlying26 Tryz.sizeOf44 ?_
  intro x6 _ _ y6 _ z6
  refine sStF r1 hO3 z6 2 ((((n3 : Nat) : Int) - 1)).toNat 0 x6 (⟨6, av, -1, false, 0, 0, 0, 0, ⟨none, 0, 0, []⟩, ⟨none, 0, 0, []⟩, ⟨none, 0, 0, []⟩, 0, 0, ⟨none, 0, 0, []⟩, ⟨none, 0, 0, []⟩, 0, ⟨(At n0 0), 1, 1, [(⟨0, 0⟩ : POp)]⟩, 255⟩ : Stage) y6 (.agg #[I 6, I av, I (-1), .bool false, I 0, I 0, I 0, I 0, .slice none 0 0, .slice none 0 0, .slice none 0 0, I 0, I 0, .slice none 0 0, .slice none 0 0, I 0, .slice (At n0 0) 1 1, I 255]) [I 6, I av, I (-1), .bool false, I 0, I 0, I 0, I 0, .slice none 0 0, .slice none 0 0, .slice none 0 0, I 0, I 0, .slice none 0 0, .slice none 0 0, I 0, .slice (At n0 0) 1 1, I 255] Tryz.sizeOf44 ?_
  intro _ a7 b7 c7
  refine nT ?_
  have hsrc : ∀ x ∈ srcs a0.v, 0 ≤ x ∧ x < (((Iq.map Plane.v)).length : Int) + ((ss.map Stage.v)).length := by
   intro x hx
   have hab := d3
   have e1 : (((Iq.map Plane.v)).length : Int) + ((ss.map Stage.v)).length = (j0 : Nat) := hlen0
   rw [e1]
   unfold srcs at hx
   split at hx
   ·rename_i ht
    have ht2 := ht.2
    simp only [Stage.v] at ht2
    simp only [List.mem_cons, List.not_mem_nil, or_false, Stage.v] at hx
    rcases hx with rfl | rfl <;> omega
   ·simp only [List.mem_singleton, Stage.v] at hx
    subst hx; omega
  have hg2 : Good (Iq.map Plane.v) (((ss ++ [(⟨6, av, -1, false, 0, 0, 0, 0, ⟨none, 0, 0, []⟩, ⟨none, 0, 0, []⟩, ⟨none, 0, 0, []⟩, 0, 0, ⟨none, 0, 0, []⟩, ⟨none, 0, 0, []⟩, 0, ⟨(At n0 0), 1, 1, [(⟨0, 0⟩ : POp)]⟩, 255⟩ : Stage)])).map Stage.v) pr := by rw [List.map_append]; exact hgood.snoc (by simp; omega) (by
    intro x hx
    have h0 : srcs (Stage.v (⟨6, av, -1, false, 0, 0, 0, 0, ⟨none, 0, 0, []⟩, ⟨none, 0, 0, []⟩, ⟨none, 0, 0, []⟩, 0, 0, ⟨none, 0, 0, []⟩, ⟨none, 0, 0, []⟩, 0, ⟨(At n0 0), 1, 1, [(⟨0, 0⟩ : POp)]⟩, 255⟩ : Stage)) = [av] := by unfold srcs; rw [if_neg (by unfold twoP; simp [Stage.v])]; rfl
    rw [h0] at hx; simp only [List.mem_singleton] at hx; subst hx; rw [hlen0]; omega)
  have hr2 : ∃ l2, runS ((Iq.map Plane.v).map shpOf) (((ss ++ [(⟨6, av, -1, false, 0, 0, 0, 0, ⟨none, 0, 0, []⟩, ⟨none, 0, 0, []⟩, ⟨none, 0, 0, []⟩, 0, 0, ⟨none, 0, 0, []⟩, ⟨none, 0, 0, []⟩, 0, ⟨(At n0 0), 1, 1, [(⟨0, 0⟩ : POp)]⟩, 255⟩ : Stage)])).map Stage.v) = some l2 := by rw [List.map_append]; exact good_safe (a := av) hgood hrun (by rw [hlen0]; omega)
  have hset : (ss ++ [a0]).set (((((n3 : Nat) : Int) - 1)).toNat) (⟨6, av, -1, false, 0, 0, 0, 0, ⟨none, 0, 0, []⟩, ⟨none, 0, 0, []⟩, ⟨none, 0, 0, []⟩, 0, 0, ⟨none, 0, 0, []⟩, ⟨none, 0, 0, []⟩, 0, ⟨(At n0 0), 1, 1, [(⟨0, 0⟩ : POp)]⟩, 255⟩ : Stage) = ss ++ [(⟨6, av, -1, false, 0, 0, 0, 0, ⟨none, 0, 0, []⟩, ⟨none, 0, 0, []⟩, ⟨none, 0, 0, []⟩, 0, 0, ⟨none, 0, 0, []⟩, ⟨none, 0, 0, []⟩, 0, ⟨(At n0 0), 1, 1, [(⟨0, 0⟩ : POp)]⟩, 255⟩ : Stage)] := by rw [List.set_append_right _ _ om, show (((((n3 : Nat) : Int) - 1)).toNat) - ss.length = 0 from by omega]; rfl
  obtain ⟨l2, hr2⟩ := hr2
  have d7 := ((c7.picks [10, 10, 7, 3, 5]).drops [5, 6, 6, 6])
  exact ⟨((⟨6, av, -1, false, 0, 0, 0, 0, ⟨none, 0, 0, []⟩, ⟨none, 0, 0, []⟩, ⟨none, 0, 0, []⟩, 0, 0, ⟨none, 0, 0, []⟩, ⟨none, 0, 0, []⟩, 0, ⟨(At n0 0), 1, 1, [(⟨0, 0⟩ : POp)]⟩, 255⟩ : Stage), l2, a7, [(n0, .cells #[I 0, I 0] 68 (0, 0))]), alA, d7, (by have h := b7; rw [hset] at h; exact h), ⟨RdT.nil (enc := encI) (sz := 1) fR _, RdT.nil (enc := encI) (sz := 1) fR _, RdT.nil (enc := encI) (sz := 1) fR _, RdT.nil (enc := encTap) (sz := 2) fR _, (fun z hz => by cases hz), RdT.nil (enc := encTap) (sz := 2) fR _, (fun z hz => by cases hz), (RdT.blk (cs := [[(n0, .cells #[I 0, I 0] 68 (0, 0))]]) (enc := encPOp) (sz := 2) (xs := [(⟨0, 0⟩ : POp)]) fR 1 0 rfl rfl rfl om)⟩, ⟨⟨nb, nb, nb, nb, nb, nb, nb, nb, nb, nb, nb⟩, ⟨by simp, fun z hz => by cases hz⟩, ⟨by simp, fun z hz => by cases hz⟩, ⟨by simp, fun z hz => by cases hz⟩, ⟨by simp, fun z hz => by cases hz⟩, ⟨by simp, fun z hz => by cases hz⟩, ⟨by simp, (by intro z hz; simp only [List.mem_singleton] at hz; subst hz; unfold opB numB; dsimp only; omega)⟩⟩, hg2, hr2⟩
 refine drawP [0, 3, 5, 6, 8] [(2, ⟨c0, 1, none⟩, .slice sa sn sk), (4, ⟨e0, 0, none⟩, I a0.kind), (4, ⟨e0, 1, none⟩, I a0.a), (4, ⟨e0, 2, none⟩, I a0.b), (4, ⟨e0, 3, none⟩, .bool a0.barrier), (4, ⟨e0, 4, none⟩, I a0.edgePolicy), (4, ⟨e0, 5, none⟩, I a0.edgeFill), (4, ⟨e0, 6, none⟩, I a0.kW), (4, ⟨e0, 7, none⟩, I a0.kH), (4, ⟨e0, 8, none⟩, .slice a0.weights.a a0.weights.n a0.weights.k), (4, ⟨e0, 9, none⟩, .slice a0.row.a a0.row.n a0.row.k), (4, ⟨e0, 10, none⟩, .slice a0.col.a a0.col.n a0.col.k), (4, ⟨e0, 11, none⟩, I a0.shift), (4, ⟨e0, 12, none⟩, I a0.shift2), (4, ⟨e0, 13, none⟩, .slice a0.x.a a0.x.n a0.x.k), (4, ⟨e0, 14, none⟩, .slice a0.y.a a0.y.n a0.y.k), (4, ⟨e0, 15, none⟩, I a0.bins), (4, ⟨e0, 16, none⟩, .slice a0.ops.a a0.ops.n a0.ops.k), (4, ⟨e0, 17, none⟩, I a0.max_)] (Plan.sts [1] <| Plan.sts [2] <| Plan.sts [4] <| .fk 0 5 (.fk 3 5 (.ef 5 <| .ef 6 <| Plan.sts [7] <| .ef 8 <| .fin) (.ef 3 <| .ef 6 <| Plan.sts [7] <| .ef 8 <| .fin)) (.ef 0 <| .ef 3 <| .ef 6 <| Plan.sts [7] <| .ef 8 <| .fin)) rfl kr ⟨.inr (f0.cell 6 rfl rfl), .inr (f0.cell 1 rfl rfl), .inr (f0.cell 1 rfl rfl), .inr (f0.cell 1 rfl rfl), .inr (f0.cell 1 rfl rfl), .inr (f0.cell 1 rfl rfl), .inr (f0.cell 1 rfl rfl), .inr (f0.cell 1 rfl rfl), .inr (f0.cell 1 rfl rfl), .inr (f0.cell 1 rfl rfl), .inr (f0.cell 1 rfl rfl), .inr (f0.cell 1 rfl rfl), .inr (f0.cell 1 rfl rfl), .inr (f0.cell 1 rfl rfl), .inr (f0.cell 1 rfl rfl), .inr (f0.cell 1 rfl rfl), .inr (f0.cell 1 rfl rfl), .inr (f0.cell 1 rfl rfl), .inr (f0.cell 1 rfl rfl), trivial⟩ ?_
 have i3 := f0.drew
 refine qU [1] ?_
 refine qLd (.slice sa sn sk) 0 Tryz.isAgg26 ?_
 refine qY (.agg (encStage a0).toArray) rfl (fun w hF => Y_loadF rfl (Tryz.isAgg44 w) (Tryz.sizeOf44 w) kr rfl ⟨hF 1 _ _ rfl, hF 2 _ _ rfl, hF 3 _ _ rfl, hF 4 _ _ rfl, hF 5 _ _ rfl, hF 6 _ _ rfl, hF 7 _ _ rfl, hF 8 _ _ rfl, hF 9 _ _ rfl, hF 10 _ _ rfl, hF 11 _ _ rfl, hF 12 _ _ rfl, hF 13 _ _ rfl, hF 14 _ _ rfl, hF 15 _ _ rfl, hF 16 _ _ rfl, hF 17 _ _ rfl, hF 18 _ _ rfl, trivial⟩) ?_
 refine qF ?_ ?_
 rotate_left
 ·refine qO rfl ?_
  refine sBS i3 (encStage a0).toArray Tryz.runUnderlying26 Tryz.sizeOf44 Tryz.zeroValue44 ?_
  intro _ _ j3
  refine nilO ⟨⟨.inr (j3.cell 7 rfl rfl), dI, dI, dI, dI, dI, dI, dI, dI, dI, dI, dI, dI, dI, dI, dI, dI, dI, dI, trivial⟩, ?_⟩
  refine qO rfl ?_
  refine sBS j3 #[] Tryz.runUnderlying26 Tryz.sizeOf44 Tryz.zeroValue44 ?_
  intro e7 _ l3
  refine nilO ⟨⟨.inr (l3.cell 8 rfl rfl), dI, dI, dI, dI, dI, dI, dI, dI, dI, dI, dI, dI, dI, dI, dI, dI, dI, dI, trivial⟩, ?_⟩
  refine qO rfl ?_
  have f7 := OwnT.blk (enc := encStage) (sz := 18) (b := e7) (c := #[]) (E := 44) (xs := []) fR 0 rfl rfl rfl om
  refine sApp (nb := 240) l3 f7 0 (hRs.up 7 rfl) Tryz.underlying26 (i := Tryz.t44) kr fR ?_
  intro _ _ _ _ g7 h7
  refine nilO ⟨dA, ?_⟩
  refine qO rfl ?_
  refine sApp (nb := 240) h7 g7 0 (RdT.blk (enc := encStage) (sz := 18) (xs := [a0]) fR 1 1 rfl rfl rfl om) Tryz.underlying26 (i := Tryz.t44) kr fR ?_
  intro m3 o3 i7 _ j7 k7
  refine nilO ⟨dA, ?_⟩
  refine qU [7] ?_
  refine qO rfl ?_
  refine tW k7 2 1 (.slice m3 ((0 + sn) + 1) o3) Tryz.sizeOf26 ?_
  intro _ l7
  refine nilO ⟨dA, ?_⟩
  refine qN ?_
  refine thenK_n ?_
  have m7 := (l7.dropAt 1 rfl)
  exact ⟨(m3, ((0 + sn) + 1), o3, i7), alA, m7, (by have h := j7; first | exact h | simpa using h)⟩
 refine qO rfl ?_
 refine sBS i3 #[] Tryz.runUnderlying26 Tryz.sizeOf44 Tryz.zeroValue44 ?_
 intro p3 _ d0
 refine nilO ⟨⟨.inr (d0.cell 7 rfl rfl), .inr (d0.cell 2 rfl rfl), .inr (d0.cell 2 rfl rfl), .inr (d0.cell 2 rfl rfl), .inr (d0.cell 2 rfl rfl), .inr (d0.cell 2 rfl rfl), .inr (d0.cell 2 rfl rfl), .inr (d0.cell 2 rfl rfl), .inr (d0.cell 2 rfl rfl), .inr (d0.cell 2 rfl rfl), .inr (d0.cell 2 rfl rfl), .inr (d0.cell 2 rfl rfl), .inr (d0.cell 2 rfl rfl), .inr (d0.cell 2 rfl rfl), .inr (d0.cell 2 rfl rfl), .inr (d0.cell 2 rfl rfl), .inr (d0.cell 2 rfl rfl), .inr (d0.cell 2 rfl rfl), .inr (d0.cell 2 rfl rfl), trivial⟩, ?_⟩
 refine qF ?_ ?_
 rotate_left
 ·refine qO rfl ?_
  refine sBS d0 (encStage a0).toArray Tryz.runUnderlying26 Tryz.sizeOf44 Tryz.zeroValue44 ?_
  intro _ _ q3
  refine nilO ⟨⟨.inr (q3.cell 8 rfl rfl), dI, dI, dI, dI, dI, dI, dI, dI, dI, dI, dI, dI, dI, dI, dI, dI, dI, dI, trivial⟩, ?_⟩
  refine qO rfl ?_
  have n7 := OwnT.blk (enc := encStage) (sz := 18) (b := p3) (c := #[]) (E := 44) (xs := []) fR 0 rfl rfl rfl om
  refine sApp (nb := 240) q3 n7 1 (hRs.up 7 rfl) Tryz.underlying26 (i := Tryz.t44) kr fR ?_
  intro _ _ _ _ o7 p7
  refine nilO ⟨dA, ?_⟩
  refine qO rfl ?_
  refine sApp (nb := 240) p7 o7 1 (RdT.blk (enc := encStage) (sz := 18) (xs := [a0]) fR 1 0 rfl rfl rfl om) Tryz.underlying26 (i := Tryz.t44) kr fR ?_
  intro r3 s3 q7 _ r7 s7
  refine nilO ⟨dA, ?_⟩
  refine qU [7] ?_
  refine qO rfl ?_
  refine tW s7 2 1 (.slice r3 ((0 + sn) + 1) s3) Tryz.sizeOf26 ?_
  intro _ t7
  refine nilO ⟨dA, ?_⟩
  refine qN ?_
  refine thenK_n ?_
  have u7 := (t7.dropAt 0 rfl)
  exact ⟨(r3, ((0 + sn) + 1), s3, q7), alA, u7, (by have h := r7; first | exact h | simpa using h)⟩
 refine qO rfl ?_
 have v7 := OwnT.blk (enc := encStage) (sz := 18) (b := p3) (c := #[]) (E := 44) (xs := []) fR 0 rfl rfl rfl om
 refine sApp (nb := 240) d0 v7 0 (hRs.up 6 rfl) Tryz.underlying26 (i := Tryz.t44) kr fR ?_
 intro _ _ _ _ w7 g0
 refine nilO ⟨⟨dI, .inr (g0.cell 2 rfl rfl), .inr (g0.cell 2 rfl rfl), .inr (g0.cell 2 rfl rfl), .inr (g0.cell 2 rfl rfl), .inr (g0.cell 2 rfl rfl), .inr (g0.cell 2 rfl rfl), .inr (g0.cell 2 rfl rfl), .inr (g0.cell 2 rfl rfl), .inr (g0.cell 2 rfl rfl), .inr (g0.cell 2 rfl rfl), .inr (g0.cell 2 rfl rfl), .inr (g0.cell 2 rfl rfl), .inr (g0.cell 2 rfl rfl), .inr (g0.cell 2 rfl rfl), .inr (g0.cell 2 rfl rfl), .inr (g0.cell 2 rfl rfl), .inr (g0.cell 2 rfl rfl), .inr (g0.cell 2 rfl rfl), trivial⟩, ?_⟩
 refine qO rfl ?_
 refine sBS g0 (encStage a0).toArray Tryz.runUnderlying26 Tryz.sizeOf44 Tryz.zeroValue44 ?_
 intro _ _ x7
 refine nilO ⟨dA, ?_⟩
 refine qO rfl ?_
 refine sApp (nb := 240) x7 w7 1 (RdT.blk (enc := encStage) (sz := 18) (xs := [a0]) fR 1 0 rfl rfl rfl om) Tryz.underlying26 (i := Tryz.t44) kr fR ?_
 intro u3 v3 y7 _ z7 a8
 refine nilO ⟨dA, ?_⟩
 refine qU [7] ?_
 refine qO rfl ?_
 refine tW a8 2 1 (.slice u3 ((0 + sn) + 1) v3) Tryz.sizeOf26 ?_
 intro _ b8
 refine nilO ⟨dA, ?_⟩
 refine qN ?_
 refine thenK_n ?_
 have c8 := (b8.dropAt 0 rfl)
 exact ⟨(u3, ((0 + sn) + 1), v3, y7), alA, c8, (by have h := z7; first | exact h | simpa using h)⟩
end Go.Proofs.YtbofcpnngniopaaGreat
