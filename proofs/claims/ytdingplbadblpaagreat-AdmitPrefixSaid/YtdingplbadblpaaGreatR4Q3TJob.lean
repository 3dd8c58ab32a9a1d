import Derived.WalkKit
import Derived.Deep.Quiet
import Derived.KernelRfl
import Derived.Laws.BytesString
import Derived.Laws.Shifts
import Derived.Laws.IdiomStrings
import Derived.OpenShut
import Derived.Test.YtdingplbadblpaaGreatProg
import Derived.Shelf.SortG.Plain
import Derived.Shelf.SortG.SortNone
import Derived.Shelf.SlicesG.CompactI
import Derived.Test.YtdingplbadblpaaGreatR4Q3TGen
namespace Go.Proofs.YtdingplbadblpaaGreat
open Go Go.E Go.Proofs.Tryz
set_option linter.all false
set_option maxRecDepth 100000
set_option maxHeartbeats 2000000
variable {W w:World} {H:Chunk} {F:List Chunk}
def planeG (z:Plane):Prop:=planeOK z.v=true/\planeB z
def jobB (k:Nat) (q:Job):Prop:=(q.inputs.l.length<=2/\∀z∈q.inputs.l,planeB z/\numB z.w/\numB z.h/\numB z.max_)/\(q.stages.l.length<=4/\∀z∈q.stages.l,stageB k z)/\(q.outputs.l.length<=2+k/\∀z∈q.outputs.l,numB z)/\numB q.priority
theorem planeG_num {z:Plane} (h:planeG z):planeB z/\numB z.w/\numB z.h/\numB z.max_:=by
  have h1:=h.1
  unfold planeOK at h1
  rw [Bool.and_eq_true] at h1
  have h2:=(of_decide_eq_true h1.1).1
  unfold sizeP at h2
  simp only [Plane.v] at h2
  refine ⟨h.2,?_,?_,?_⟩<;>unfold numB<;>omega
theorem all_planeG {l:List Plane} (h:∀z∈l,planeG z):(l.map Plane.v).all planeOK=true:=by
  rw [List.all_eq_true]
  intro x hx
  obtain ⟨z,hz,rfl⟩:=List.mem_map.1 hx
  exact (h z hz).1
theorem tg_jobO {p : Nat} {a : Option Addr} {n k : Nat} {i : Int} {xs : List Int} (hR : RdT Go.E.encI 1 [H] a n k xs) (hi : 0 <= i /\ i <= n) (hS : Sat W w ([(p, .cells #[.slice a n k, I i] 85 (0, 0))] :: H :: F)) (m0 : Int) (hm0 : 1 <= m0 /\ m0 <= 4) :
  Calls prog 12 #[Pt p 0, I m0] w fun e w' => ∃ (q : Job) (C : Chunk) (G : Chunk), e = .returned (.agg (encJob q).toArray) /\ (OwnT encStage 38 18 q.stages.a q.stages.n q.stages.k q.stages.l C) /\ (∀ z ∈ q.stages.l, Stage.Ok [G] z) /\ (∀ (a : Option Addr) (n k : Nat) (l : List Stage) (C' : Chunk), OwnT encStage 38 18 a n k l C' -> (∀ z ∈ l, Stage.Ok [G] z) -> Job.Ok [C' ++ G] ⟨q.inputs, ⟨a, n, k, l⟩, q.outputs, q.priority⟩) /\ (jobB 0 q) /\ (Good (q.inputs.l.map Plane.v) (q.stages.l.map Stage.v) q.priority /\ ∃ l0, runS ((q.inputs.l.map Plane.v).map shpOf) (q.stages.l.map Stage.v) = some l0) /\ (1 <= q.stages.l.length /\ (1 <= q.outputs.l.length /\ q.outputs.l.length <= 2) /\ inR ((q.inputs.l.map Plane.v).length + (q.stages.l.map Stage.v).length) q.outputs.l = true) /\ ∃ i' : Int, (0 <= i' /\ i' <= n) /\ Sat W w' ([(p, .cells #[.slice a n k, I i'] 85 (0, 0))] :: C :: G :: H :: F) := by
 have hle := hR.le
 refine callsA 151 func12 rfl <| sR <| sAlloc hS zeroValue28 fun i0 _ z3 => zS <| pu1 ?_
 have a4 := (z3.pick 1 rfl)
 refine cX call13 (tape_next (RdT.flat (hR.up 1 (by rfl))) om a4.flat1 4 om) ?_
 rintro _ _ ⟨p0, rfl, _, _, _, b4⟩
 have d4 := b4.unflat1
 refine pu1 <| sAlloc d4 zeroValue28 fun c0 _ e4 => ?_
 refine sT e4 0 0 (.agg #[nS, nS, nS, I p0]) [nS, nS, nS, I p0] #[nS, nS, nS, I p0] sizeOf28 fun _ f4 => zS <| pu1 ?_
 have g4 := (f4.pick 1 rfl)
 refine cX call42 (tg_plane (RdT.flat (hR.up 2 (by rfl))) om g4.flat1 ) ?_
 rintro _ _ ⟨b0, x0, rfl, f2, k1, _, _, h4⟩
 refine sAlloc (Sat.unflat2 h4) zeroValue87 fun g2 _ j4 => ?_
 refine sT j4 0 0 (.agg (encPlane b0).toArray) (encPlane b0) (encPlane b0).toArray sizeOf87 fun _ i2 => zS <| lA i2 0 0 4 (isAgg87 _) (sizeOf87 _) <| sBS i2 (encPlane b0).toArray runUnderlying25 sizeOf87 zeroValue87 fun o0 _ k4 => pu1 <| tW k4 4 0 (.slice (At o0 0) 1 1) sizeOf25 fun _ l4 => nT ?_
 refine cutA (γ := (Option Addr) × Nat × Nat × (List Plane) × Chunk × Int × Int) (fun ⟨ai, ni, ki, Iq, GI, pr, itc⟩ => [(0, Pt p 0), (1, I m0), (4, Pt i0 0), (5, Pt c0 0)]) (fun ⟨ai, ni, ki, Iq, GI, pr, itc⟩ w => Sat W w ([(p, .cells #[.slice a n k, I itc] 85 (0, 0))] :: [(c0, .cells #[.slice ai ni ki, nS, nS, I pr] 28 (0, 0))] :: [(i0, .cells #[nS, nS, nS, I 0] 28 (0, 0))] :: GI :: H :: F) /\ (0 <= itc /\ itc <= n) /\ RdT encPlane 4 [GI] ai ni ki Iq /\ (∀ z ∈ Iq, Plane.Ok [GI] z) /\ ((1 <= Iq.length /\ Iq.length <= 2) /\ ∀ z ∈ Iq, planeG z) /\ (0 <= pr /\ pr < 4)) ?_ ?_
 ·refine sR <| pu1 ?_
  have m4 := (l4.pick 2 rfl)
  refine cX call13 (tape_next (RdT.flat (hR.up 5 (by rfl))) om m4.flat1 2 om) ?_
  rintro _ _ ⟨n4, rfl, _, u1, _, o4⟩
  have c1 := o4.unflat1
  refine pu1 <| nT <| cE n4 0 (fun p4 => ?_) (fun p4 => ?_)
  rotate_left
  ·refine kT ?_
   have q4 := ((c1.picks [5, 5, 2]).dropAt 4 rfl)
   have r4 : Sat W _ ([(p, .cells #[.slice a n k, I u1] 85 (0, 0))] :: [(c0, .cells #[.slice (At o0 0) 1 1, nS, nS, I p0] 28 (0, 0))] :: [(i0, .cells #[nS, nS, nS, I 0] 28 (0, 0))] :: ([(o0, .cells (encPlane b0).toArray 87 (0, 0))] ++ x0) :: (H :: F)) := Sat.perm (show Sat W _ ([(p, .cells #[.slice a n k, I u1] 85 (0, 0))] :: [(c0, .cells #[.slice (At o0 0) 1 1, nS, nS, I p0] 28 (0, 0))] :: [(i0, .cells #[nS, nS, nS, I 0] 28 (0, 0))] :: [(o0, .cells (encPlane b0).toArray 87 (0, 0))] :: x0 :: H :: F) from q4) (by simp [Value.cells])
   exact ⟨((At o0 0), 1, 1, [b0], ([(o0, .cells (encPlane b0).toArray 87 (0, 0))] ++ x0), p0, u1), alA, r4, om, ((RdT.blk (cs := [[(o0, .cells (encPlane b0).toArray 87 (0, 0))]]) (enc := encPlane) (sz := 4) (xs := [b0]) fR 1 0 rfl rfl rfl om).of_mem mS), (by
     intro z hz
     simp only [List.mem_cons, List.mem_append, List.not_mem_nil, or_false] at hz
     subst hz; exact f2.of_mem mS), ⟨by simp, (by
     intro z hz
     simp only [List.mem_cons, List.mem_append, List.not_mem_nil, or_false] at hz
     subst hz; exact ⟨k1.2.2.1, k1.2.2.2⟩)⟩, om⟩
  refine drawE [7, 8, 9, 11] [(1, ⟨c0, 0, none⟩, .slice (At o0 0) 1 1), (4, ⟨g2, 0, none⟩, I b0.w), (6, ⟨g2, 1, none⟩, I b0.h)] [(true, [0, 2, 3, 5]), (true, [1]), (true, [4]), (true, [6]), (false, [7]), (false, [8]), (false, [9]), (true, [10]), (false, [11])] rfl kr ⟨cI c1 4, cI c1 2, cI c1 2, trivial⟩ ?_
  have s4 := c1.drew
  refine wU [0, 2, 3, 5] <| wLd (.slice (At o0 0) 1 1) 0 isAgg25 <| wLd (I b0.w) 1 isAgg3 <| wLd (I b0.h) 2 isAgg3 <| wO rfl <| cX call43 (tg_sized (RdT.flat (hR.up 5 (by rfl))) om s4.flat1 b0.w b0.h om) ?_
  rintro _ _ ⟨v1, w1, rfl, t4, j2, x1, _, u4⟩
  have k2 := u4.unflat2
  refine nilO ⟨⟨cI k2 5, dI, dI, trivial⟩, ?_⟩
  refine wO rfl <| sBS k2 (encPlane v1).toArray runUnderlying25 sizeOf87 zeroValue87 fun _ _ m2 => nilO ⟨⟨cI m2 6, dI, dI, trivial⟩, ?_⟩
  refine wO rfl <| sApp (nb := 48) m2 (OwnT.blk (enc := encPlane) (sz := 4) (b := o0) (c := #[I b0.w, I b0.h, I b0.max_, .slice b0.pix.a b0.pix.n b0.pix.k]) (E := 87) (xs := [b0]) fR 1 rfl rfl rfl om) 3 (RdT.blk (enc := encPlane) (sz := 4) (xs := [v1]) fR 1 0 rfl rfl rfl om) underlying25 (i := Tryz.t87) kr fR fun l1 m1 n1 _ w4 x4 => nilO ⟨dA, ?_⟩
  refine wU [10] <| wO rfl <| tW x4 6 0 (.slice l1 (1 + 1) m1) sizeOf25 fun _ y4 => nilO ⟨dA, ?_⟩
  refine wN <| tN ?_
  have z4 := ((y4.picks [5, 4, 7, 7, 5]).drops [5, 6])
  have a5 : Sat W _ ([(p, .cells #[.slice a n k, I x1] 85 (0, 0))] :: [(c0, .cells #[.slice l1 (1 + 1) m1, nS, nS, I p0] 28 (0, 0))] :: [(i0, .cells #[nS, nS, nS, I 0] 28 (0, 0))] :: (n1 ++ x0 ++ w1) :: (H :: F)) := Sat.perm (show Sat W _ ([(p, .cells #[.slice a n k, I x1] 85 (0, 0))] :: [(c0, .cells #[.slice l1 (1 + 1) m1, nS, nS, I p0] 28 (0, 0))] :: [(i0, .cells #[nS, nS, nS, I 0] 28 (0, 0))] :: n1 :: x0 :: w1 :: H :: F) from z4) (by simp [Value.cells])
  exact ⟨(l1, (1 + 1), m1, ([b0] ++ [v1]), (n1 ++ x0 ++ w1), p0, x1), alA, a5, om, ((w4.rdAt (cs := [n1]) 0 rfl).of_mem mS), (by
    intro z hz
    simp only [List.mem_cons, List.mem_append, List.not_mem_nil, or_false] at hz
    rcases hz with rfl | rfl
    ·exact f2.of_mem mS
    ·exact t4.of_mem mS), ⟨by simp, (by
    intro z hz
    simp only [List.mem_cons, List.mem_append, List.not_mem_nil, or_false] at hz
    rcases hz with rfl | rfl
    ·exact ⟨k1.2.2.1, k1.2.2.2⟩
    ·exact ⟨j2.2.2.1, j2.2.2.2⟩)⟩, om⟩
 rintro ⟨ai, ni, ki, Iq, GI, pr, itc⟩ ρ _ ⟨b5, hitc, hRi, hDi, hGi, hpr⟩
 refine seqE <| sR <| pu2 <| cX call13 (tape_next (RdT.flat (hR.up 3 (by rfl))) om b5.flat1 m0 om) ?_
 rintro _ _ ⟨n2, rfl, _, c5, _, d5⟩
 have e5 := d5.unflat1
 refine sAdd 1 n2 <| pu1 <| nT <| blockE ?_
 have f5 := Sat.nilc e5
 have g5 := Sat.nilc f5
 refine loopA (γ := Nat × Int × (List Stage) × (Option Addr) × Nat × Nat × Chunk × Chunk × (List Shape) × Int) (fun ⟨u, j, ss, sa, sn, sk, Gs, cs, l0, itu⟩ => [(0, Pt p 0), (4, Pt i0 0), (5, Pt c0 0), (7, I j)]) (fun ⟨u, j, ss, sa, sn, sk, Gs, cs, l0, itu⟩ w => Sat W w (cs :: Gs :: [(p, .cells #[.slice a n k, I itu] 85 (0, 0))] :: [(c0, .cells #[.slice ai ni ki, .slice sa sn sk, nS, I pr] 28 (0, 0))] :: [(i0, .cells #[nS, nS, nS, I 0] 28 (0, 0))] :: GI :: H :: F) /\ u <= 4 /\ (OwnT encStage 38 18 sa sn sk ss cs) /\ (∀ z ∈ ss, Stage.Ok [Gs] z) /\ (∀ z ∈ ss, stageB 0 z) /\ (Good (Iq.map Plane.v) (ss.map Stage.v) pr) /\ (runS ((Iq.map Plane.v).map shpOf) (ss.map Stage.v) = some l0) /\ (ss.length = u) /\ (1 <= (u : Int) + j /\ (u : Int) + j <= 4) /\ (0 <= itu /\ itu <= n)) (fun ⟨u, j, ss, sa, sn, sk, Gs, cs, l0, itu⟩ => 4 - u) (0, (1 + n2), [], none, 0, 0, [], [], ((Iq.map Plane.v).map shpOf), c5) ⟨g5, om, OwnT.nil (enc := encStage) (E := 38) (sz := 18) fR, (by intro z hz; cases hz), (by intro z hz; cases hz), ⟨all_planeG hGi.2, by rw [List.length_map]; exact hGi.1, by simp, hpr, by intro m s h; simp at h⟩, by rfl, by rfl, om, om⟩ ?_
 rintro ⟨u, j, ss, sa, sn, sk, Gs, cs, l0, itu⟩ ρ _ ⟨d1, hu, hRs, hDs, hBs, hgood, hrun, hsl, hj, hitu⟩
 refine seqE <| sR <| pu2 <| nT <| cD (j > 0) (fun h5 => ?_) (fun h5 => ?_)
 rotate_left
 ·refine exitE <| xB <| tN <| seqE ?_
  have hn_i := hRi.len; have hn_s := hRs.len
  refine rE <| pu1 <| sL d1 3 0 (.slice ai ni ki) (isAgg25 _) <| pu2 <| sL d1 3 1 (.slice sa sn sk) (isAgg26 _) <| pu1 <| sAdd (ni : Int) (sn : Int) <| pu1 <| zS <| pu1 <| sSub ((ni : Int) + (sn : Int)) 1 <| sBS d1 #[I (((ni : Int) + (sn : Int)) - 1)] runUnderlying22 sizeOf3 zeroValue3 fun k0 _ i5 => pu1 <| tW i5 4 2 (.slice (At k0 0) 1 1) sizeOf22 fun _ j5 => zQ <| pu1 ?_
  have k5 := (j5.pick 3 rfl)
  refine cX call13 (tape_next (RdT.flat (hR.up 6 (by rfl))) om k5.flat1 3 om) ?_
  rintro _ _ ⟨l5, rfl, _, o2, _, m5⟩
  have o1 := m5.unflat1
  refine pu1 <| nT <| cE l5 0 (fun n5 => ?_) (fun n5 => ?_)
  rotate_left
  ·refine kS <| lA o1 4 0 4 (isAgg28 _) (sizeOf28 _) <| sT o1 5 0 (.agg #[.slice ai ni ki, .slice sa sn sk, .slice (At k0 0) 1 1, I pr]) [.slice ai ni ki, .slice sa sn sk, .slice (At k0 0) 1 1, I pr] #[.slice ai ni ki, .slice sa sn sk, .slice (At k0 0) 1 1, I pr] sizeOf28 fun _ r2 => zE <| retN (vs := [.agg #[.slice ai ni ki, .slice sa sn sk, .slice (At k0 0) 1 1, I pr]]) rfl (.cons (.cell _ _ _ _ kr (lvA r2 5 0 [.slice ai ni ki, .slice sa sn sk, .slice (At k0 0) 1 1, I pr] (isAgg28 _) (sizeOf28 _) rfl rfl rfl)) .nil) ?_
   have o5 := ((r2.picks [6, 4, 4, 3]).drops [5, 5])
   have p5 : Sat W _ ([(p, .cells #[.slice a n k, I o2] 85 (0, 0))] :: cs :: (Gs ++ GI ++ [(k0, .cells #[I (((ni : Int) + (sn : Int)) - 1)] 3 (0, 0))]) :: (H :: F)) := Sat.perm (show Sat W _ ([(p, .cells #[.slice a n k, I o2] 85 (0, 0))] :: cs :: Gs :: GI :: [(k0, .cells #[I (((ni : Int) + (sn : Int)) - 1)] 3 (0, 0))] :: H :: F) from o5) (by simp [Value.cells])
   exact ⟨(⟨⟨ai, ni, ki, Iq⟩, ⟨sa, sn, sk, ss⟩, ⟨(At k0 0), 1, 1, [(((ni : Int) + (sn : Int)) - 1)]⟩, pr⟩ : Job), cs, (Gs ++ GI ++ [(k0, .cells #[I (((ni : Int) + (sn : Int)) - 1)] 3 (0, 0))]), rfl, hRs, (fun z hz => (hDs z hz).of_mem mS), (fun _ _ _ _ C9 h1 h2 => ⟨hRi.of_mem mS, (fun z hz => (hDi z hz).of_mem mS), (h1.rdAt (cs := [C9]) 0 rfl).of_mem mS, (fun z hz => (h2 z hz).of_mem mS), (RdT.blk (cs := [[(k0, .cells #[I (((ni : Int) + (sn : Int)) - 1)] 3 (0, 0))]]) (enc := Go.E.encI) (sz := 1) (xs := [(((ni : Int) + (sn : Int)) - 1)]) fR 1 0 rfl rfl rfl om).of_mem mS⟩), ⟨⟨hGi.1.2, fun z hz => planeG_num (hGi.2 z hz)⟩, ⟨by dsimp only; omega, hBs⟩, ⟨by simp, (by intro z hz; simp only [List.mem_cons, List.mem_append, List.not_mem_nil, or_false] at hz; subst hz; unfold numB; omega)⟩, by unfold numB; dsimp only; omega⟩, ⟨hgood, l0, hrun⟩, ⟨by dsimp only; omega, ⟨by simp, by simp⟩, by
     unfold inR; rw [List.all_eq_true]; intro z hz
     simp only [List.mem_cons, List.mem_append, List.not_mem_nil, or_false] at hz
     refine decide_eq_true ?_
     simp only [List.length_map]
     subst hz; omega⟩, _, om, p5⟩
  refine drawE [4, 5, 6, 8] [(1, ⟨c0, 2, none⟩, .slice (At k0 0) 1 1)] [(true, [0, 2, 3]), (true, [1]), (false, [4]), (false, [5]), (false, [6]), (true, [7]), (false, [8])] rfl kr ⟨cI o1 4, trivial⟩ ?_
  have q5 := o1.drew
  refine wU [0, 2, 3] <| wLd (.slice (At k0 0) 1 1) 0 isAgg22 <| wO rfl <| cX call13 (tape_next (RdT.flat (hR.up 6 (by rfl))) om q5.flat1 ((ni : Int) + (sn : Int)) om) ?_
  rintro _ _ ⟨y1, rfl, _, s2, _, r5⟩
  have t2 := r5.unflat1
  refine nilO ⟨⟨cI t2 4, trivial⟩, ?_⟩
  refine wO rfl <| sBS t2 #[I y1] runUnderlying22 sizeOf3 zeroValue3 fun _ _ u2 => nilO ⟨⟨cI u2 5, trivial⟩, ?_⟩
  refine wO rfl <| sApp (nb := 8) u2 (OwnT.blk (enc := Go.E.encI) (sz := 1) (b := k0) (c := #[I (((ni : Int) + (sn : Int)) - 1)]) (E := 3) (xs := [(((ni : Int) + (sn : Int)) - 1)]) fR 1 rfl rfl rfl om) 2 (RdT.blk (enc := Go.E.encI) (sz := 1) (xs := [y1]) fR 1 0 rfl rfl rfl om) underlying22 (i := Tryz.t3) kr fR fun v0 w0 q1 _ t5 u5 => nilO ⟨dA, ?_⟩
  refine wU [7] <| wO rfl <| tW u5 5 2 (.slice v0 (1 + 1) w0) sizeOf22 fun _ v2 => nilO ⟨dA, ?_⟩
  refine wN <| tN <| sR <| lA v2 5 0 4 (isAgg28 _) (sizeOf28 _) <| sT v2 6 0 (.agg #[.slice ai ni ki, .slice sa sn sk, .slice v0 (1 + 1) w0, I pr]) [.slice ai ni ki, .slice sa sn sk, .slice v0 (1 + 1) w0, I pr] #[.slice ai ni ki, .slice sa sn sk, .slice v0 (1 + 1) w0, I pr] sizeOf28 fun _ w2 => zE <| retN (vs := [.agg #[.slice ai ni ki, .slice sa sn sk, .slice v0 (1 + 1) w0, I pr]]) rfl (.cons (.cell _ _ _ _ kr (lvA w2 6 0 [.slice ai ni ki, .slice sa sn sk, .slice v0 (1 + 1) w0, I pr] (isAgg28 _) (sizeOf28 _) rfl rfl rfl)) .nil) ?_
  have v5 := ((w2.picks [7, 5, 5, 4]).drops [4, 5, 5])
  have w5 : Sat W _ ([(p, .cells #[.slice a n k, I s2] 85 (0, 0))] :: cs :: (Gs ++ GI ++ q1) :: (H :: F)) := Sat.perm (show Sat W _ ([(p, .cells #[.slice a n k, I s2] 85 (0, 0))] :: cs :: Gs :: GI :: q1 :: H :: F) from v5) (by simp [Value.cells])
  exact ⟨(⟨⟨ai, ni, ki, Iq⟩, ⟨sa, sn, sk, ss⟩, ⟨v0, (1 + 1), w0, ([(((ni : Int) + (sn : Int)) - 1)] ++ [y1])⟩, pr⟩ : Job), cs, (Gs ++ GI ++ q1), rfl, hRs, (fun z hz => (hDs z hz).of_mem mS), (fun _ _ _ _ C9 h1 h2 => ⟨hRi.of_mem mS, (fun z hz => (hDi z hz).of_mem mS), (h1.rdAt (cs := [C9]) 0 rfl).of_mem mS, (fun z hz => (h2 z hz).of_mem mS), (t5.rdAt (cs := [q1]) 0 rfl).of_mem mS⟩), ⟨⟨hGi.1.2, fun z hz => planeG_num (hGi.2 z hz)⟩, ⟨by dsimp only; omega, hBs⟩, ⟨by simp, (by intro z hz; simp only [List.mem_cons, List.mem_append, List.not_mem_nil, or_false] at hz; rcases hz with rfl | rfl <;> (unfold numB; omega))⟩, by unfold numB; dsimp only; omega⟩, ⟨hgood, l0, hrun⟩, ⟨by dsimp only; omega, ⟨by simp, by simp⟩, by
    unfold inR; rw [List.all_eq_true]; intro z hz
    simp only [List.mem_cons, List.mem_append, List.not_mem_nil, or_false] at hz
    refine decide_eq_true ?_
    simp only [List.length_map]
    rcases hz with rfl | rfl <;> omega⟩, _, om, w5⟩
 refine kT <| seqE <| blockE <| seqE ?_
 have hn_i := hRi.len; have hn_s := hRs.len; have hl_s := hRs.le
 refine rE <| pu1 <| lA d1 3 0 4 (isAgg28 _) (sizeOf28 _) ?_
 have x5 := (d1.pick 2 rfl)
 refine cX call44 (tg_shapes (RdT.flat (hR.up 5 (by rfl))) om x5.flat1 (⟨⟨ai, ni, ki, Iq⟩, ⟨sa, sn, sk, ss⟩, ⟨none, 0, 0, []⟩, pr⟩ : Job) ⟨(RdT.flat (hRi.up 4 (by rfl))), (fun z hz => (hDi z hz).of_mem (mem_flat1 4 (by rfl))), (RdT.flat (hRs.rdAt 0 (by rfl))), (fun z hz => (hDs z hz).of_mem (mem_flat1 1 (by rfl))), (RdT.nil (enc := Go.E.encI) (sz := 1) fR _)⟩ l0 hgood hrun) ?_
 rintro _ _ ⟨s0, j0, t0, z1, rfl, f1, _, _, y5⟩
 have z5 := y5.unflat2
 have hn_az_89 := f1.len; have hl_az_89 := f1.le
 refine pu1 <| nilO ?_
 have hsz := runS_sz (ss.map Stage.v) _ l0 (shpOf_sz (all_planeG hGi.2)) hrun
 have hlen0 : (((Iq.map Plane.v)).length : Int) + ((ss.map Stage.v)).length = (j0 : Int) := by have h := hsz.2; have h2 := hn_az_89; simp only [List.length_map] at h ⊢; omega
 have hlen1 : (Iq.length : Int) + ss.length = (j0 : Int) := by have h := hlen0; simp only [List.length_map] at h; exact h
 refine tN <| sR <| pu3 <| cX call13 (tape_next (RdT.flat (hR.up 6 (by rfl))) om z5.flat1 (j0 : Int) om) ?_
 rintro _ _ ⟨a6, rfl, _, _, _, b6⟩
 have c6 := b6.unflat1
 refine pu1 <| nT <| cutA (γ := Int × Int) (fun ⟨av, itA⟩ => [(0, Pt p 0), (4, Pt i0 0), (5, Pt c0 0), (7, I j), (8, .slice s0 j0 t0), (9, I av)]) (fun ⟨av, itA⟩ w => Sat W w ([(p, .cells #[.slice a n k, I itA] 85 (0, 0))] :: z1 :: cs :: Gs :: [(c0, .cells #[.slice ai ni ki, .slice sa sn sk, nS, I pr] 28 (0, 0))] :: [(i0, .cells #[nS, nS, nS, I 0] 28 (0, 0))] :: GI :: H :: F) /\ (0 <= itA /\ itA <= n) /\ (0 <= av /\ av < j0)) ?_ ?_
 ·refine sR <| pu1 <| cX call13 (tape_next (RdT.flat (hR.up 6 (by rfl))) om c6.flat1 2 om) ?_
  rintro _ _ ⟨d6, rfl, _, x2, _, e6⟩
  have y2 := e6.unflat1
  refine pu1 <| nT <| cE d6 0 (fun f6 => ?_) (fun f6 => ?_)
  rotate_left
  ·exact kT <| ⟨(a6, x2), alA, y2, om, om⟩
  exact rE <| pu2 <| sSub (j0 : Int) 1 <| pu1 <| nT <| ⟨(((j0 : Int) - 1), x2), alA, y2, om, om⟩
 rintro ⟨av, itA⟩ ρ _ ⟨g6, hitA, hvA⟩
 refine sR <| pu3 <| cX call13 (tape_next (RdT.flat (hR.up 6 (by rfl))) om g6.flat1 (j0 : Int) om) ?_
 rintro _ _ ⟨g1, rfl, _, a2, _, h6⟩
 have u0 := h6.unflat1
 refine pu1 <| nT <| cutA (γ := Int × Int) (fun ⟨bv, itB⟩ => [(0, Pt p 0), (4, Pt i0 0), (5, Pt c0 0), (7, I j), (8, .slice s0 j0 t0), (9, I av), (10, I bv)]) (fun ⟨bv, itB⟩ w => Sat W w ([(p, .cells #[.slice a n k, I itB] 85 (0, 0))] :: z1 :: cs :: Gs :: [(c0, .cells #[.slice ai ni ki, .slice sa sn sk, nS, I pr] 28 (0, 0))] :: [(i0, .cells #[nS, nS, nS, I 0] 28 (0, 0))] :: GI :: H :: F) /\ (0 <= itB /\ itB <= n) /\ (bv = -1 \/ (0 <= bv /\ bv < j0))) ?_ ?_
 ·refine seqE ?_
  obtain ⟨q0, y0, z0, i6, b2, c2⟩ := RdT.elem f1 av
  have hsz_x_121 := hsz.1 q0 (List.mem_of_getElem? i6)
  obtain ⟨r0, a1, b1, j6, d2, e2⟩ := RdT.elem f1 g1
  have hsz_x_127 := hsz.1 r0 (List.mem_of_getElem? j6)
  by_cases z2 : (q0.w : Int) = r0.w
  rotate_left
  ·refine drawE [] [(4, ⟨y0, z0 + 0, none⟩, I q0.w), (9, ⟨a1, b1 + 0, none⟩, I r0.w)] [(true, [0, 1]), (true, [2]), (true, [3, 5, 6]), (true, [7]), (true, [8]), (true, [4]), (true, [9]), (true, [10, 11]), (true, [12, 13, 14, 15, 17, 18, 19, 20, 16, 21, 22, 23])] rfl kr ⟨.inr ((b2.up 1 rfl).cell u0 (k := 0) rfl), .inr ((d2.up 1 rfl).cell u0 (k := 0) rfl), trivial⟩ ?_
   have k6 := u0.drew
   exact wU [0, 1] <| wY (.pointer (some ⟨y0, z0, none⟩)) rfl (fun w _ => Y_idx (a := s0) (i := av) (len := j0) (cap := t0) rfl runUnderlying61 sizeOf54 kr kr c2) <| wU [3, 5, 6] <| wY (.pointer (some ⟨a1, b1, none⟩)) rfl (fun w _ => Y_idx (a := s0) (i := g1) (len := j0) (cap := t0) rfl runUnderlying61 sizeOf54 kr kr e2) <| wU [8] <| wLd (I q0.w) 0 isAgg3 <| wLd (I r0.w) 1 isAgg3 <| wU [10, 11] <| wFix 74 _ true (bne_iff_ne.2 z2) <| wU [12, 13, 14, 15, 17, 18, 19, 20, 16, 21, 22, 23] <| wN <| tN <| cTt <| rE <| pu1 <| nT <| ⟨(-1, a2), alA, k6, om, om⟩
  refine drawE [] [(4, ⟨y0, z0 + 0, none⟩, I q0.w), (9, ⟨a1, b1 + 0, none⟩, I r0.w), (16, ⟨y0, z0 + 1, none⟩, I q0.h), (21, ⟨a1, b1 + 1, none⟩, I r0.h)] [(true, [0, 1]), (true, [2]), (true, [3, 5, 6]), (true, [7]), (true, [8]), (true, [4]), (true, [9]), (true, [10, 11]), (true, [12, 13]), (true, [14]), (true, [15, 17, 18]), (true, [19]), (true, [20]), (true, [16]), (true, [21]), (true, [22, 23])] rfl kr ⟨.inr ((b2.up 1 rfl).cell u0 (k := 0) rfl), .inr ((d2.up 1 rfl).cell u0 (k := 0) rfl), .inr ((b2.up 1 rfl).cell u0 (k := 1) rfl), .inr ((d2.up 1 rfl).cell u0 (k := 1) rfl), trivial⟩ ?_
  have b3 := u0.drew
  refine wU [0, 1] <| wY (.pointer (some ⟨y0, z0, none⟩)) rfl (fun w _ => Y_idx (a := s0) (i := av) (len := j0) (cap := t0) rfl runUnderlying61 sizeOf54 kr kr c2) <| wU [3, 5, 6] <| wY (.pointer (some ⟨a1, b1, none⟩)) rfl (fun w _ => Y_idx (a := s0) (i := g1) (len := j0) (cap := t0) rfl runUnderlying61 sizeOf54 kr kr e2) <| wU [8] <| wLd (I q0.w) 0 isAgg3 <| wLd (I r0.w) 1 isAgg3 <| wU [10, 11] <| wFix 74 _ false (bne_eq_false_iff_eq.2 z2) <| wU [12, 13] <| wY (.pointer (some ⟨y0, z0, none⟩)) rfl (fun w _ => Y_idx (a := s0) (i := av) (len := j0) (cap := t0) rfl runUnderlying61 sizeOf54 kr kr c2) <| wU [15, 17, 18] ?_
  refine wY (.pointer (some ⟨a1, b1, none⟩)) rfl (fun w _ => Y_idx (a := s0) (i := g1) (len := j0) (cap := t0) rfl runUnderlying61 sizeOf54 kr kr e2) <| wU [20] <| wLd (I q0.h) 2 isAgg3 <| wLd (I r0.h) 3 isAgg3 <| wU [22, 23] <| wN <| tN <| cN q0.h r0.h (fun l6 => ?_) (fun l6 => ?_)
  ·exact kT <| ⟨(g1, a2), alA, b3, om, om⟩
  exact rE <| pu1 <| nT <| ⟨(-1, a2), alA, b3, om, om⟩
 rintro ⟨bv, itB⟩ ρ _ ⟨d3, hitB, hvB⟩
 refine sR <| pu4 <| sIdx f1 av runUnderlying61 sizeOf54 fun i1 _ _ m6 n6 => ?_
 have hsz_x_139 := hsz.1 i1 (List.mem_of_getElem? m6)
 refine sLpA d3 (n6.up 1 rfl) 0 [I i1.w, I i1.h, I i1.max_] (isAgg54 _) (sizeOf54 _) <| pu1 <| cX call23 (tg_stage (RdT.flat (hR.up 6 (by rfl))) om d3.flat1 av i1 bv ‹_› (by unfold numB; omega)) ?_
 rintro _ _ ⟨a0, e3, rfl, f3, o6, g3, j1, _, p6⟩
 refine sAlloc (Sat.unflat2 p6) zeroValue38 fun e0 _ r6 => ?_
 refine sT r6 0 0 (.agg (encStage a0).toArray) (encStage a0) (encStage a0).toArray sizeOf38 fun _ h3 => zS <| lA h3 6 0 4 (isAgg28 _) (sizeOf28 _) <| sAlloc h3 zeroValue28 fun r1 _ s6 => ?_
 refine sT s6 0 0 (.agg #[.slice ai ni ki, .slice sa sn sk, nS, I pr]) [.slice ai ni ki, .slice sa sn sk, nS, I pr] #[.slice ai ni ki, .slice sa sn sk, nS, I pr] sizeOf28 fun _ f0 => nT ?_
 refine cutA (γ := (Option Addr) × Nat × Nat × Chunk) (fun ⟨a3, n3, k3, c3⟩ => [(0, Pt p 0), (4, Pt i0 0), (5, Pt c0 0), (7, I j), (9, I av), (11, Pt e0 0), (12, Pt r1 0)]) (fun ⟨a3, n3, k3, c3⟩ w => Sat W w (c3 :: [(r1, .cells #[.slice ai ni ki, .slice a3 n3 k3, nS, I pr] 28 (0, 0))] :: [(e0, .cells (encStage a0).toArray 38 (0, 0))] :: [(p, .cells #[.slice a n k, I j1] 85 (0, 0))] :: e3 :: z1 :: cs :: Gs :: [(c0, .cells #[.slice ai ni ki, .slice sa sn sk, nS, I pr] 28 (0, 0))] :: [(i0, .cells #[nS, nS, nS, I 0] 28 (0, 0))] :: GI :: H :: F) /\ OwnT encStage 38 18 a3 n3 k3 (ss ++ [a0]) c3) ?_ ?_
 rotate_left
 ·rintro ⟨a3, n3, k3, c3⟩ ρ _ ⟨t6, hO3⟩
  refine seqE ?_
  have hn3 := hO3.len; simp only [List.length_append, List.length_singleton] at hn3; have hl3 := hO3.le
  refine rE <| sBS t6 #[I 0] runUnderlying22 sizeOf3 zeroValue3 fun s1 _ u6 => pu1 <| tW u6 2 2 (.slice (At s1 0) 1 1) sizeOf22 fun _ i3 => nT ?_
  refine cutA (γ := Stage × (List Shape) × Chunk × Chunk) (fun ⟨q2, l2, c4, Gq2⟩ => [(0, Pt p 0), (4, Pt i0 0), (5, Pt c0 0), (7, I j), (12, Pt r1 0)]) (fun ⟨q2, l2, c4, Gq2⟩ w => Sat W w (c4 :: Gq2 :: [(p, .cells #[.slice a n k, I j1] 85 (0, 0))] :: [(c0, .cells #[.slice ai ni ki, .slice sa sn sk, nS, I pr] 28 (0, 0))] :: [(i0, .cells #[nS, nS, nS, I 0] 28 (0, 0))] :: [(r1, .cells #[.slice ai ni ki, .slice a3 n3 k3, .slice (At s1 0) 1 1, I pr] 28 (0, 0))] :: Gs :: GI :: H :: F) /\ OwnT encStage 38 18 a3 n3 k3 (ss ++ [q2]) c4 /\ Stage.Ok [Gq2] q2 /\ stageB 0 q2 /\ Good (Iq.map Plane.v) ((ss ++ [q2]).map Stage.v) pr /\ runS ((Iq.map Plane.v).map shpOf) ((ss ++ [q2]).map Stage.v) = some l2) ?_ ?_
  rotate_left
  ·rintro ⟨q2, l2, c4, Gq2⟩ ρ _ ⟨j3, hO4, hq2ok, hq2B, hg2, hr2⟩
   have hn4 := hO4.len; simp only [List.length_append, List.length_singleton] at hn4
   refine rE <| pu1 <| sL j3 5 1 (.slice a3 n3 k3) (isAgg26 _) <| pu1 <| tW j3 3 1 (.slice a3 n3 k3) sizeOf26 fun _ v6 => nB <| rE <| pu1 <| sSub j 1 <| pu1 <| nT ?_
   have w6 := ((v6.picks [6, 2, 2]).dropAt 6 rfl)
   have x6 : Sat W _ (c4 :: (Gq2 ++ Gs) :: ([(p, .cells #[.slice a n k, I j1] 85 (0, 0))] :: [(c0, .cells #[.slice ai ni ki, .slice a3 n3 k3, nS, I pr] 28 (0, 0))] :: [(i0, .cells #[nS, nS, nS, I 0] 28 (0, 0))] :: GI :: H :: F)) := Sat.perm (show Sat W _ (c4 :: Gq2 :: Gs :: [(p, .cells #[.slice a n k, I j1] 85 (0, 0))] :: [(c0, .cells #[.slice ai ni ki, .slice a3 n3 k3, nS, I pr] 28 (0, 0))] :: [(i0, .cells #[nS, nS, nS, I 0] 28 (0, 0))] :: GI :: H :: F) from w6) (by simp [Value.cells])
   exact ⟨(u + 1, (j - 1), (ss ++ [q2]), a3, n3, k3, (Gq2 ++ Gs), c4, l2, j1), od, alA, x6, om, hO4, (by
     intro z hz
     rcases List.mem_append.1 hz with h | h
     ·exact (hDs z h).of_mem mS
     ·simp only [List.mem_singleton] at h; subst h; exact hq2ok.of_mem mS), mem_snoc hBs hq2B, hg2, hr2, by simp; omega, om, om⟩
  refine sR <| lA i3 2 0 4 (isAgg28 _) (sizeOf28 _) <| cR call45 (r17_checkj (⟨⟨ai, ni, ki, Iq⟩, ⟨a3, n3, k3, (ss ++ [a0])⟩, ⟨(At s1 0), 1, 1, [0]⟩, pr⟩ : Job) ⟨(RdT.flat (hRi.up 11 (by rfl))), (fun z hz => (hDi z hz).of_mem (mem_flat1 11 (by rfl))), (RdT.flat (hO3.rdAt 1 (by rfl))), (fun z hz => by
    rcases List.mem_append.1 hz with h | h
    ·exact (hDs z h).of_mem (mem_flat1 8 (by rfl))
    ·simp only [List.mem_singleton] at h; rw [h]; exact f3.of_mem (mem_flat1 5 (by rfl))), (RdT.flat (RdT.blk (enc := Go.E.encI) (sz := 1) (xs := [0]) (fun _ => (by rfl)) 1 0 rfl rfl rfl om))⟩ (od) i3.flat) ?_
  intro _ l3
  refine pu5 <| zS <| pu2 <| nT <| cN ((shpV (⟨⟨ai, ni, ki, Iq⟩, ⟨a3, n3, k3, (ss ++ [a0])⟩, ⟨(At s1 0), 1, 1, [0]⟩, pr⟩ : Job).v).2.2) 0 (fun y6 => ?_) (fun y6 => ?_)
  ·refine kT ?_
   have hsrc : ∀ x ∈ srcs a0.v, 0 <= x /\ x < (((Iq.map Plane.v)).length : Int) + ((ss.map Stage.v)).length := by
    intro x hx
    have hab := g3
    have e1 : (((Iq.map Plane.v)).length : Int) + ((ss.map Stage.v)).length = (j0 : Nat) := hlen0
    rw [e1]
    unfold srcs at hx
    split at hx
    ·rename_i ht
     have ht2 := ht.2
     simp only [Stage.v] at ht2
     simp only [List.mem_cons, List.not_mem_nil, or_false, Stage.v] at hx
     rcases hx with rfl | rfl <;> omega
    ·simp only [List.mem_singleton, Stage.v] at hx
     subst hx; omega
   have hg2 : Good (Iq.map Plane.v) ((ss ++ [a0]).map Stage.v) pr := by rw [List.map_append]; exact hgood.snoc (by simp; omega) hsrc
   have hr2 : ∃ l2, runS ((Iq.map Plane.v).map shpOf) ((ss ++ [a0]).map Stage.v) = some l2 := by
    cases hrr : runS ((Iq.map Plane.v).map shpOf) ((ss ++ [a0]).map Stage.v) with
    | some l => exact ⟨l, rfl⟩
    | none => exact absurd ‹_› ((shp_run hg2 (by simp)).2 hrr)
   obtain ⟨l2, hr2⟩ := hr2
   exact ⟨(a0, l2, c3, e3), alA, ((l3.picks [10, 10, 6, 7, 5]).drops [5, 6, 6, 6]), hO3, f3, o6, hg2, hr2⟩
  refine sR <| pu2 <| sBS l3 #[I 0, I 0] runUnderlying36 sizeOf92 zeroValue92 fun n0 _ a7 => pu1 <| sT a7 4 0 (.agg #[I 6, I av, I (-1), .bool false, I 0, I 0, I 0, I 0, nS, nS, nS, I 0, I 0, nS, nS, I 0, .slice (At n0 0) 1 1, I 255]) [I 6, I av, I (-1), .bool false, I 0, I 0, I 0, I 0, nS, nS, nS, I 0, I 0, nS, nS, I 0, .slice (At n0 0) 1 1, I 255] #[I 6, I av, I (-1), .bool false, I 0, I 0, I 0, I 0, nS, nS, nS, I 0, I 0, nS, nS, I 0, .slice (At n0 0) 1 1, I 255] sizeOf38 fun _ t1 => nT <| rE <| pu1 <| sL t1 3 1 (.slice a3 n3 k3) (isAgg26 _) <| pu1 <| sL t1 3 1 (.slice a3 n3 k3) (isAgg26 _) <| pu1 <| sSub (n3 : Int) 1 <| lA t1 4 0 18 (isAgg38 _) (sizeOf38 _) ?_
  refine sIdxO hO3 ((n3 : Int) - 1) (((n3 : Int) - 1)).toNat runUnderlying26 sizeOf38 fun b7 _ _ c7 _ d7 => sStF t1 hO3 d7 2 (((n3 : Int) - 1)).toNat 0 b7 (⟨6, av, -1, false, 0, 0, 0, 0, ⟨none, 0, 0, []⟩, ⟨none, 0, 0, []⟩, ⟨none, 0, 0, []⟩, 0, 0, ⟨none, 0, 0, []⟩, ⟨none, 0, 0, []⟩, 0, ⟨(At n0 0), 1, 1, [(⟨0, 0⟩ : POp)]⟩, 255⟩ : Stage) c7 (.agg #[I 6, I av, I (-1), .bool false, I 0, I 0, I 0, I 0, nS, nS, nS, I 0, I 0, nS, nS, I 0, .slice (At n0 0) 1 1, I 255]) [I 6, I av, I (-1), .bool false, I 0, I 0, I 0, I 0, nS, nS, nS, I 0, I 0, nS, nS, I 0, .slice (At n0 0) 1 1, I 255] sizeOf38 fun _ e7 f7 g7 => nT ?_
  have hsrc : ∀ x ∈ srcs a0.v, 0 <= x /\ x < (((Iq.map Plane.v)).length : Int) + ((ss.map Stage.v)).length := by
   intro x hx
   have hab := g3
   have e1 : (((Iq.map Plane.v)).length : Int) + ((ss.map Stage.v)).length = (j0 : Nat) := hlen0
   rw [e1]
   unfold srcs at hx
   split at hx
   ·rename_i ht
    have ht2 := ht.2
    simp only [Stage.v] at ht2
    simp only [List.mem_cons, List.not_mem_nil, or_false, Stage.v] at hx
    rcases hx with rfl | rfl <;> omega
   ·simp only [List.mem_singleton, Stage.v] at hx
    subst hx; omega
  have hg2 : Good (Iq.map Plane.v) (((ss ++ [(⟨6, av, -1, false, 0, 0, 0, 0, ⟨none, 0, 0, []⟩, ⟨none, 0, 0, []⟩, ⟨none, 0, 0, []⟩, 0, 0, ⟨none, 0, 0, []⟩, ⟨none, 0, 0, []⟩, 0, ⟨(At n0 0), 1, 1, [(⟨0, 0⟩ : POp)]⟩, 255⟩ : Stage)])).map Stage.v) pr := by rw [List.map_append]; exact hgood.snoc (by simp; omega) (by
    intro x hx
    have h0 : srcs (Stage.v (⟨6, av, -1, false, 0, 0, 0, 0, ⟨none, 0, 0, []⟩, ⟨none, 0, 0, []⟩, ⟨none, 0, 0, []⟩, 0, 0, ⟨none, 0, 0, []⟩, ⟨none, 0, 0, []⟩, 0, ⟨(At n0 0), 1, 1, [(⟨0, 0⟩ : POp)]⟩, 255⟩ : Stage)) = [av] := by unfold srcs; rw [if_neg (by unfold twoP; simp [Stage.v])]; rfl
    rw [h0] at hx; simp only [List.mem_singleton] at hx; subst hx; rw [hlen0]; omega)
  have hr2 : ∃ l2, runS ((Iq.map Plane.v).map shpOf) (((ss ++ [(⟨6, av, -1, false, 0, 0, 0, 0, ⟨none, 0, 0, []⟩, ⟨none, 0, 0, []⟩, ⟨none, 0, 0, []⟩, 0, 0, ⟨none, 0, 0, []⟩, ⟨none, 0, 0, []⟩, 0, ⟨(At n0 0), 1, 1, [(⟨0, 0⟩ : POp)]⟩, 255⟩ : Stage)])).map Stage.v) = some l2 := by rw [List.map_append]; exact good_safe (a := av) hgood hrun (by rw [hlen0]; omega)
  have hset : (ss ++ [a0]).set ((((n3 : Int) - 1)).toNat) (⟨6, av, -1, false, 0, 0, 0, 0, ⟨none, 0, 0, []⟩, ⟨none, 0, 0, []⟩, ⟨none, 0, 0, []⟩, 0, 0, ⟨none, 0, 0, []⟩, ⟨none, 0, 0, []⟩, 0, ⟨(At n0 0), 1, 1, [(⟨0, 0⟩ : POp)]⟩, 255⟩ : Stage) = ss ++ [(⟨6, av, -1, false, 0, 0, 0, 0, ⟨none, 0, 0, []⟩, ⟨none, 0, 0, []⟩, ⟨none, 0, 0, []⟩, 0, 0, ⟨none, 0, 0, []⟩, ⟨none, 0, 0, []⟩, 0, ⟨(At n0 0), 1, 1, [(⟨0, 0⟩ : POp)]⟩, 255⟩ : Stage)] := by rw [List.set_append_right _ _ om, show ((((n3 : Int) - 1)).toNat) - ss.length = 0 from by omega]; rfl
  obtain ⟨l2, hr2⟩ := hr2
  have h7 := ((g7.picks [11, 11, 7, 3, 5]).drops [5, 6, 6, 6, 6])
  exact ⟨((⟨6, av, -1, false, 0, 0, 0, 0, ⟨none, 0, 0, []⟩, ⟨none, 0, 0, []⟩, ⟨none, 0, 0, []⟩, 0, 0, ⟨none, 0, 0, []⟩, ⟨none, 0, 0, []⟩, 0, ⟨(At n0 0), 1, 1, [(⟨0, 0⟩ : POp)]⟩, 255⟩ : Stage), l2, e7, [(n0, .cells #[I 0, I 0] 92 (0, 0))]), alA, h7, (by have h := f7; rw [hset] at h; exact h), ⟨RdT.nil (enc := Go.E.encI) (sz := 1) fR _, RdT.nil (enc := Go.E.encI) (sz := 1) fR _, RdT.nil (enc := Go.E.encI) (sz := 1) fR _, RdT.nil (enc := encTap) (sz := 2) fR _, (fun z hz => by cases hz), RdT.nil (enc := encTap) (sz := 2) fR _, (fun z hz => by cases hz), (RdT.blk (cs := [[(n0, .cells #[I 0, I 0] 92 (0, 0))]]) (enc := encPOp) (sz := 2) (xs := [(⟨0, 0⟩ : POp)]) fR 1 0 rfl rfl rfl om)⟩, ⟨⟨nb, nb, nb, nb, nb, nb, nb, nb, nb, nb, nb⟩, ⟨by simp, fun z hz => by cases hz⟩, ⟨by simp, fun z hz => by cases hz⟩, ⟨by simp, fun z hz => by cases hz⟩, ⟨by simp, fun z hz => by cases hz⟩, ⟨by simp, fun z hz => by cases hz⟩, ⟨by simp, (by intro z hz; simp only [List.mem_singleton] at hz; subst hz; unfold opB numB; dsimp only; omega)⟩⟩, hg2, hr2⟩
 refine drawP [0, 3, 5, 6, 8] [(2, ⟨c0, 1, none⟩, .slice sa sn sk), (4, ⟨e0, 0, none⟩, I a0.kind), (4, ⟨e0, 1, none⟩, I a0.a), (4, ⟨e0, 2, none⟩, I a0.b), (4, ⟨e0, 3, none⟩, .bool a0.barrier), (4, ⟨e0, 4, none⟩, I a0.edgePolicy), (4, ⟨e0, 5, none⟩, I a0.edgeFill), (4, ⟨e0, 6, none⟩, I a0.kW), (4, ⟨e0, 7, none⟩, I a0.kH), (4, ⟨e0, 8, none⟩, .slice a0.weights.a a0.weights.n a0.weights.k), (4, ⟨e0, 9, none⟩, .slice a0.row.a a0.row.n a0.row.k), (4, ⟨e0, 10, none⟩, .slice a0.col.a a0.col.n a0.col.k), (4, ⟨e0, 11, none⟩, I a0.shift), (4, ⟨e0, 12, none⟩, I a0.shift2), (4, ⟨e0, 13, none⟩, .slice a0.x.a a0.x.n a0.x.k), (4, ⟨e0, 14, none⟩, .slice a0.y.a a0.y.n a0.y.k), (4, ⟨e0, 15, none⟩, I a0.bins), (4, ⟨e0, 16, none⟩, .slice a0.ops.a a0.ops.n a0.ops.k), (4, ⟨e0, 17, none⟩, I a0.max_)] (Plan.sts [1] <| Plan.sts [2] <| Plan.sts [4] <| .fk 0 5 (.fk 3 5 (.ef 5 <| .ef 6 <| Plan.sts [7] <| .ef 8 <| .fin) (.ef 3 <| .ef 6 <| Plan.sts [7] <| .ef 8 <| .fin)) (.ef 0 <| .ef 3 <| .ef 6 <| Plan.sts [7] <| .ef 8 <| .fin)) rfl kr ⟨cI f0 7, cI f0 1, cI f0 1, cI f0 1, cI f0 1, cI f0 1, cI f0 1, cI f0 1, cI f0 1, cI f0 1, cI f0 1, cI f0 1, cI f0 1, cI f0 1, cI f0 1, cI f0 1, cI f0 1, cI f0 1, cI f0 1, trivial⟩ ?_
 have m3 := f0.drew
 refine qU [1] <| qLd (.slice sa sn sk) 0 isAgg26 <| qY (.agg (encStage a0).toArray) rfl (fun w hF => Y_loadF rfl (isAgg38 w) (sizeOf38 w) kr rfl ⟨hF 1 _ _ rfl, hF 2 _ _ rfl, hF 3 _ _ rfl, hF 4 _ _ rfl, hF 5 _ _ rfl, hF 6 _ _ rfl, hF 7 _ _ rfl, hF 8 _ _ rfl, hF 9 _ _ rfl, hF 10 _ _ rfl, hF 11 _ _ rfl, hF 12 _ _ rfl, hF 13 _ _ rfl, hF 14 _ _ rfl, hF 15 _ _ rfl, hF 16 _ _ rfl, hF 17 _ _ rfl, hF 18 _ _ rfl, trivial⟩) <| qF ?_ ?_
 rotate_left
 ·refine qO rfl <| sBS m3 (encStage a0).toArray runUnderlying26 sizeOf38 zeroValue38 fun _ _ o3 => nilO ⟨⟨cI o3 8, dI, dI, dI, dI, dI, dI, dI, dI, dI, dI, dI, dI, dI, dI, dI, dI, dI, dI, trivial⟩, ?_⟩
  refine qO rfl <| sBS o3 #[] runUnderlying26 sizeOf38 zeroValue38 fun i7 _ p3 => nilO ⟨⟨cI p3 9, dI, dI, dI, dI, dI, dI, dI, dI, dI, dI, dI, dI, dI, dI, dI, dI, dI, dI, trivial⟩, ?_⟩
  refine qO rfl <| sApp (nb := 240) p3 (OwnT.blk (enc := encStage) (sz := 18) (b := i7) (c := #[]) (E := 38) (xs := []) fR 0 rfl rfl rfl om) 0 (hRs.rdAt 7 rfl) underlying26 (i := Tryz.t38) kr fR fun _ _ _ _ k7 l7 => nilO ⟨dA, ?_⟩
  refine qO rfl <| sApp (nb := 240) l7 k7 0 (RdT.blk (enc := encStage) (sz := 18) (xs := [a0]) fR 1 1 rfl rfl rfl om) underlying26 (i := Tryz.t38) kr fR fun q3 r3 m7 _ n7 o7 => nilO ⟨dA, ?_⟩
  refine qU [7] <| qO rfl <| tW o7 2 1 (.slice q3 ((0 + sn) + 1) r3) sizeOf26 fun _ p7 => nilO ⟨dA, ?_⟩
  exact qN <| tN <| ⟨(q3, ((0 + sn) + 1), r3, m7), alA, (p7.dropAt 1 rfl), (by have h := n7; first | exact h | simpa using h)⟩
 refine qO rfl <| sBS m3 #[] runUnderlying26 sizeOf38 zeroValue38 fun s3 _ d0 => nilO ⟨⟨cI d0 8, cI d0 2, cI d0 2, cI d0 2, cI d0 2, cI d0 2, cI d0 2, cI d0 2, cI d0 2, cI d0 2, cI d0 2, cI d0 2, cI d0 2, cI d0 2, cI d0 2, cI d0 2, cI d0 2, cI d0 2, cI d0 2, trivial⟩, ?_⟩
 refine qF ?_ ?_
 rotate_left
 ·refine qO rfl <| sBS d0 (encStage a0).toArray runUnderlying26 sizeOf38 zeroValue38 fun _ _ u3 => nilO ⟨⟨cI u3 9, dI, dI, dI, dI, dI, dI, dI, dI, dI, dI, dI, dI, dI, dI, dI, dI, dI, dI, trivial⟩, ?_⟩
  refine qO rfl <| sApp (nb := 240) u3 (OwnT.blk (enc := encStage) (sz := 18) (b := s3) (c := #[]) (E := 38) (xs := []) fR 0 rfl rfl rfl om) 1 (hRs.rdAt 7 rfl) underlying26 (i := Tryz.t38) kr fR fun _ _ _ _ s7 t7 => nilO ⟨dA, ?_⟩
  refine qO rfl <| sApp (nb := 240) t7 s7 1 (RdT.blk (enc := encStage) (sz := 18) (xs := [a0]) fR 1 0 rfl rfl rfl om) underlying26 (i := Tryz.t38) kr fR fun v3 w3 u7 _ v7 w7 => nilO ⟨dA, ?_⟩
  refine qU [7] <| qO rfl <| tW w7 2 1 (.slice v3 ((0 + sn) + 1) w3) sizeOf26 fun _ x7 => nilO ⟨dA, ?_⟩
  exact qN <| tN <| ⟨(v3, ((0 + sn) + 1), w3, u7), alA, (x7.dropAt 0 rfl), (by have h := v7; first | exact h | simpa using h)⟩
 refine qO rfl <| sApp (nb := 240) d0 (OwnT.blk (enc := encStage) (sz := 18) (b := s3) (c := #[]) (E := 38) (xs := []) fR 0 rfl rfl rfl om) 0 (hRs.rdAt 6 rfl) underlying26 (i := Tryz.t38) kr fR fun _ _ _ _ a8 g0 => nilO ⟨⟨dI, cI g0 2, cI g0 2, cI g0 2, cI g0 2, cI g0 2, cI g0 2, cI g0 2, cI g0 2, cI g0 2, cI g0 2, cI g0 2, cI g0 2, cI g0 2, cI g0 2, cI g0 2, cI g0 2, cI g0 2, cI g0 2, trivial⟩, ?_⟩
 refine qO rfl <| sBS g0 (encStage a0).toArray runUnderlying26 sizeOf38 zeroValue38 fun _ _ b8 => nilO ⟨dA, ?_⟩
 refine qO rfl <| sApp (nb := 240) b8 a8 1 (RdT.blk (enc := encStage) (sz := 18) (xs := [a0]) fR 1 0 rfl rfl rfl om) underlying26 (i := Tryz.t38) kr fR fun x3 y3 c8 _ d8 e8 => nilO ⟨dA, ?_⟩
 refine qU [7] <| qO rfl <| tW e8 2 1 (.slice x3 ((0 + sn) + 1) y3) sizeOf26 fun _ f8 => nilO ⟨dA, ?_⟩
 exact qN <| tN <| ⟨(x3, ((0 + sn) + 1), y3, c8), alA, (f8.dropAt 0 rfl), (by have h := d8; first | exact h | simpa using h)⟩
theorem tg_job {p:Nat} {a:Option Addr} {n k:Nat} {i:Int} {xs:List Int} (hR:RdT Go.E.encI 1 [H] a n k xs) (hi:0<=i/\i<=n) (hS:Sat W w ([(p, .cells #[.slice a n k,I i] 85 (0,0))]::H::F)) (m0:Int) (hm0:1<=m0/\m0<=4):
  Calls prog 12 #[Pt p 0,I m0] w fun e w'=>∃(q:Job) (G:Chunk),e= .returned (.agg (encJob q).toArray)/\(Job.Ok [G] q)/\(jobB 0 q)/\(Good (q.inputs.l.map Plane.v) (q.stages.l.map Stage.v) q.priority/\∃l0,runS ((q.inputs.l.map Plane.v).map shpOf) (q.stages.l.map Stage.v)=some l0)/\(1<=q.stages.l.length/\(1<=q.outputs.l.length/\q.outputs.l.length<=2)/\inR ((q.inputs.l.map Plane.v).length+(q.stages.l.map Stage.v).length) q.outputs.l=true)/\∃i':Int,(0<=i'/\i'<=n)/\Sat W w' ([(p, .cells #[.slice a n k,I i'] 85 (0,0))]::G::H::F):=(tg_jobO hR hi hS m0 hm0).mono (by rintro e w' ⟨q,C,G,he,h1,h2,h3,h4,h5,h6,i',hi',h7⟩;exact ⟨q,C++G,he,h3 _ _ _ _ _ h1 h2,h4,h5,h6,i',hi',Sat.perm h7 (by simp)⟩)
end Go.Proofs.YtdingplbadblpaaGreat

namespace Go.E
open Go.Shelf Go.RowKit Go.Sort Go.Proofs
set_option linter.all false
set_option linter.unusedSimpArgs false
section
variable {P:Program} {ρ:Ren} {W w:World} {cs:List Chunk} {E:TypeId} {a:Option Addr} {n k:Nat} {xs:List Int} {c:Chunk}
theorem putCells_list {off:Nat} {zs:List Int} {cur:Array Value} (hf:off+zs.length<=cur.size):((putCells (Value.int .i64) off zs.toArray cur).toList.drop off).take zs.length=zs.flatMap encI:=by
  have hm:∀l:List Int,l.flatMap encI=l.map (Value.int .i64):=by
    intro l
    induction l with
    |nil=>rfl
    |cons x l ih=>rw [List.flatMap_cons,ih];rfl
  rw [hm]
  apply List.ext_getElem?
  intro j
  by_cases hj:j<zs.length
  · rw [List.getElem?_take,if_pos hj,List.getElem?_drop]
    have hlt:off+j<cur.size:=by omega
    simp only [putCells,Array.toList_mapIdx,List.getElem?_mapIdx,List.getElem?_map,Array.getElem?_toList]
    rw [Array.getElem?_eq_getElem hlt,List.getElem?_eq_getElem hj]
    simp only [Option.map_some,Option.some.injEq]
    rw [if_pos (by constructor<;>simp<;>omega),show off+j-off=j by omega]
    simp [hj]
  · rw [List.getElem?_take,if_neg hj,List.getElem?_eq_none (by simp;omega)]
theorem putCells_size {off:Nat} {zs:List Int} {cur:Array Value}:(putCells (Value.int .i64) off zs.toArray cur).size=cur.size:=by simp [putCells]
theorem sat_putRow {b off:Nat} {cur:Array Value} {q:Nat} {zs:List Int} {os:Array Obj} (hS:Sat W w ([(b, .cells cur E (0,0))]::cs)):
    Sat W (grow (putRow (Value.int .i64) (Go.Sort.ahead w q) b off zs.toArray) os) ([(b, .cells (putCells (Value.int .i64) off zs.toArray cur) E (0,0))]::cs):=by
  have hb:w.heap[b]?=some (.cells cur E (0,0)):=hS.heap (by simp)
  have hbl:b<w.heap.size:=(Array.getElem?_eq_some_iff.1 hb).1
  refine ⟨hS.os,hS.tape,hS.output,hS.nd,?_⟩
  intro p hp
  have hsz:∀j,j<w.heap.size->(grow (putRow (Value.int .i64) (Go.Sort.ahead w q) b off zs.toArray) os).heap[j]?=(w.heap.modify b (onCells (putCells (Value.int .i64) off zs.toArray)))[j]?:=by
    intro j hj
    rw [heap_grow_old _ _ (by rw [size_putRow];exact hj)];rfl
  simp only [List.flatten_cons,List.cons_append,List.nil_append,List.mem_cons] at hp
  rcases hp with rfl|hp
  · rw [hsz b hbl,Array.getElem?_modify,if_pos rfl,hb];rfl
  · have h0:=hS.all p (by simp [hp])
    have hlt:p.1<w.heap.size:=(Array.getElem?_eq_some_iff.1 h0).1
    have hne:b≠p.1:=by
      intro e
      have:=hS.nd
      simp only [List.flatten_cons,List.cons_append,List.nil_append,List.map_cons,List.nodup_cons,List.mem_map,not_exists] at this
      exact this.1 p ⟨hp,e.symm⟩
    rw [hsz p.1 hlt,Array.getElem?_modify,if_neg hne];exact h0
theorem holds_of {b off:Nat} {cur:Array Value} {zs:List Int} (hS:Sat W w ([(b, .cells cur E (0,0))]::cs)) (h:(cur.toList.drop off).take zs.length=zs.flatMap encI):Holds (Value.int .i64) w b off zs.toArray:=by
  have hb:w.heap[b]?=some (.cells cur E (0,0)):=hS.heap (by simp)
  have hm:∀l:List Int,l.flatMap encI=l.map (Value.int .i64):=by
    intro l
    induction l with
    |nil=>rfl
    |cons x l ih=>rw [List.flatMap_cons,ih];rfl
  intro j hj
  have hj':j<zs.length:=by simpa using hj
  have hat:=congrArg (·[j]?) h
  simp only [hm,List.getElem?_take,if_pos hj',List.getElem?_drop,List.getElem?_map,List.getElem?_eq_getElem hj',Option.map_some] at hat
  constructor
  · simp only [World.cell?,hb,Option.isSome_none,Bool.false_eq_true,if_false]
    have:cur[off+j]?=some (Value.int .i64 zs[j]):=by rw [<-Array.getElem?_toList];exact hat
    rw [this];simp [hj']
  · simp [World.frozen?,hb]
theorem own_sort (L:Go.Proofs.SlLaysN.n53 P ρ) (hO:OwnT encI E 1 a n k xs c) (hS:Sat W w (c::cs)) (hn:n<4611686018427387904):
    Calls P (ρ.f 53) #[.slice a n k] w fun e w'=>∃c':Chunk,e= .returned (.tuple #[])/\OwnT encI E 1 a n k (xs.mergeSort fun x y=>decide (x<=y)) c'/\Sat W w' (c'::cs):=by
  obtain ⟨h1,h2,h3,h4⟩:=hO
  by_cases h0:n=0
  · subst h0
    have hx:xs=[]:=List.eq_nil_of_length_eq_zero h1
    subst hx
    refine (AnyG.slices_Sort_int_none L a k w).mono ?_
    rintro e w' ⟨rfl,rfl⟩
    have e:([]:List Int).mergeSort (fun x y=>decide (x<=y))=[]:=List.eq_nil_of_length_eq_zero (List.length_mergeSort _)
    exact ⟨c,rfl,by rw [e];exact ⟨h1,h2,h3,h4⟩,hS⟩
  · rcases h4 with ⟨_,h5,_⟩|⟨b,off,cur,rfl,rfl,h5,h6,h7,h8⟩
    · exact absurd h5 h0
    · have hb:w.heap[b]?=some (.cells cur E (0,0)):=hS.heap (by simp)
      have hbl:b<w.heap.size:=(Array.getElem?_eq_some_iff.1 hb).1
      subst h1
      rw [Nat.mul_one] at h8 h7
      refine (AnyG.slices_Sort_int L b off k xs w (holds_of hS h8) hbl hn).mono ?_
      rintro e w' ⟨rfl,q,os,rfl⟩
      have hl:(xs.mergeSort fun x y=>decide (x<=y)).length=xs.length:=List.length_mergeSort _
      refine ⟨_,rfl,⟨hl,h2,by rw [flatMap_len h2,hl], .inr ⟨b,off,_,rfl,rfl,h5,h6,by rw [putCells_size,Nat.mul_one];exact h7,?_⟩⟩,sat_putRow hS⟩
      rw [Nat.mul_one,<-hl]
      exact putCells_list (by rw [hl];omega)
theorem own_comp (L:Go.Proofs.SlLaysN.n43 P ρ) (hO:OwnT encI E 1 a n k xs c) (hS:Sat W w (c::cs)):
    Calls P (ρ.f 43) #[.slice a n k] w fun e w'=>∃(m:Nat) (c':Chunk),e= .returned (.slice a m k)/\OwnT encI E 1 a m k (Go.Lib.compact xs) c'/\Sat W w' (c'::cs):=by
  obtain ⟨h1,h2,h3,h4⟩:=hO
  by_cases h0:n=0
  · subst h0
    have hx:xs=[]:=List.eq_nil_of_length_eq_zero h1
    subst hx
    refine (AnyG.slices_Compact_int_empty L a k w).mono ?_
    rintro e w' ⟨rfl,rfl⟩
    exact ⟨0,c,rfl,⟨rfl,h2,h3,h4⟩,hS⟩
  · rcases h4 with ⟨_,h5,_⟩|⟨b,off,cur,rfl,rfl,h5,h6,h7,h8⟩
    · exact absurd h5 h0
    · subst h1
      rw [Nat.mul_one] at h8 h7
      refine (AnyG.slices_Compact_int L b off k xs w (holds_of hS h8) (by have:maxLen<=9223372036854775807:=(by decide);omega) h5).mono ?_
      rintro e w' ⟨rfl,q,rfl⟩
      have hle:(Go.Lib.compact xs).length<=xs.length:=by
        unfold Go.Lib.compact Go.Lib.compactUpTo
        rw [List.length_map]
        exact Nat.le_trans (List.length_filter_le _ _) (by simp)
      have hlen:(Go.Lib.compact xs++List.replicate (xs.length-(Go.Lib.compact xs).length) (0:Int)).length=xs.length:=by simp;omega
      have hSat:=sat_putRow (q:=q) (off:=off) (zs:=Go.Lib.compact xs++List.replicate (xs.length-(Go.Lib.compact xs).length) (0:Int)) (os:=#[]) hS
      rw [grow_empty] at hSat
      refine ⟨_,_,rfl,⟨rfl,h2,by rw [flatMap_len h2], .inr ⟨b,off,_,rfl,rfl,by omega,h6,by rw [putCells_size,Nat.mul_one];exact h7,?_⟩⟩,hSat⟩
      have hp:=putCells_list (off:=off) (cur:=cur) (zs:=Go.Lib.compact xs++List.replicate (xs.length-(Go.Lib.compact xs).length) (0:Int)) (by rw [hlen];omega)
      have ht:=congrArg (·.take (Go.Lib.compact xs).length) hp
      rw [List.take_take,Nat.min_eq_left (by rw [hlen];exact hle),List.flatMap_append] at ht
      rw [Nat.mul_one,ht]
      have hle2:((Go.Lib.compact xs).flatMap encI).length=(Go.Lib.compact xs).length:=by rw [flatMap_len h2,Nat.mul_one]
      rw [<-hle2,List.take_left]
end
end Go.E
