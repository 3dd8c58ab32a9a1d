import Derived.Test.YtmlhcafjelkjfaaGreatP3Ab
import Derived.WalkKit
import Derived.Deep.Quiet
import Derived.KernelRfl
import Derived.Laws.BytesString
import Derived.Laws.Shifts
import Derived.Laws.IdiomStrings
import Derived.Test.YtmlhcafjelkjfaaGreatProg
import Derived.Test.YtmlhcafjelkjfaaGreatP3TGen
namespace Go.Proofs.YtmlhcafjelkjfaaGreat
open Go Go.E Go.Proofs.Tryz
set_option linter.all false
set_option maxRecDepth 100000
set_option maxHeartbeats 2000000
variable {W w:World} {H:Chunk} {F:List Chunk}
def planeG (z:Plane):Prop:=planeOK z.v=true/\planeB z
def jobB (k:Nat) (q:Job):Prop:=(q.inputs.l.length<=2/\∀z∈q.inputs.l,planeB z/\numB z.w/\numB z.h/\numB z.max_)/\(q.stages.l.length<=4/\∀z∈q.stages.l,stageB k z)/\(q.outputs.l.length<=2+k/\∀z∈q.outputs.l,numB z)/\numB q.priority
theorem planeG_num {z:Plane} (h:planeG z):planeB z/\numB z.w/\numB z.h/\numB z.max_:=by
  have h1:=h.1
  unfold planeOK at h1
  rw [Bool.and_eq_true] at h1
  have h2:=(of_decide_eq_true h1.1).1
  unfold sizeP at h2
  simp only [Plane.v] at h2
  refine ⟨h.2,?_,?_,?_⟩<;>unfold numB<;>omega
theorem all_planeG {l:List Plane} (h:∀z∈l,planeG z):(l.map Plane.v).all planeOK=true:=by
  rw [List.all_eq_true]
  intro x hx
  obtain ⟨z,hz,rfl⟩:=List.mem_map.1 hx
  exact (h z hz).1
theorem tg_jobO {p : Nat} {a : Option Addr} {n k : Nat} {i : Int} {xs : List Int} (hR : RdT Go.E.encI 1 [H] a n k xs) (hi : 0 <= i /\ i <= n) (hS : Sat W w ([(p, .cells #[.slice a n k, I i] 81 (0, 0))] :: H :: F)) (m0 : Int) (hm0 : 1 <= m0 /\ m0 <= 4) :
  Calls prog 12 #[Pt p 0, I m0] w fun e w' => ∃ (q : Job) (C : Chunk) (G : Chunk), e = .returned (.agg (encJob q).toArray) /\ (OwnT encStage 53 18 q.stages.a q.stages.n q.stages.k q.stages.l C) /\ (∀ z ∈ q.stages.l, Stage.Ok [G] z) /\ (∀ (a : Option Addr) (n k : Nat) (l : List Stage) (C' : Chunk), OwnT encStage 53 18 a n k l C' -> (∀ z ∈ l, Stage.Ok [G] z) -> Job.Ok [C' ++ G] ⟨q.inputs, ⟨a, n, k, l⟩, q.outputs, q.priority⟩) /\ (jobB 0 q) /\ (Good (q.inputs.l.map Plane.v) (q.stages.l.map Stage.v) q.priority /\ ∃ l0, runS ((q.inputs.l.map Plane.v).map shpOf) (q.stages.l.map Stage.v) = some l0) /\ (1 <= q.stages.l.length /\ (1 <= q.outputs.l.length /\ q.outputs.l.length <= 2) /\ inR ((q.inputs.l.map Plane.v).length + (q.stages.l.map Stage.v).length) q.outputs.l = true) /\ ∃ i' : Int, (0 <= i' /\ i' <= n) /\ Sat W w' ([(p, .cells #[.slice a n k, I i'] 81 (0, 0))] :: C :: G :: H :: F) := by
 have hle := hR.le
 refine callsA 151 func12 rfl ?_
 refine sR ?_
 refine sAlloc hS zeroValue28 ?_
 intro i0 _ x3
 refine zS <| pu1 ?_
 have y3 := (x3.pick 1 rfl)
 refine cX call15 (tape_next (RdT.flat (hR.up 1 (by rfl))) om y3.flat1 4 om) ?_
 rintro _ _ ⟨u0, rfl, _, _, _, z3⟩
 have a4 := z3.unflat1
 refine pu1 ?_
 refine sAlloc a4 zeroValue28 ?_
 intro c0 _ b4
 refine sTl b4 0 [nS, nS, nS, I u0] sizeOf28 ?_
 intro _ d4
 refine zS <| pu1 ?_
 have e4 := (d4.pick 1 rfl)
 refine cX call22 (tg_plane (RdT.flat (hR.up 2 (by rfl))) om e4.flat1 ) ?_
 rintro _ _ ⟨b0, v0, rfl, e2, k1, _, _, f4⟩
 refine sAlloc (Sat.unflat2 f4) zeroValue38 ?_
 intro f2 _ h4
 refine sTl h4 0 (encPlane b0) sizeOf38 ?_
 intro _ g2
 refine zS ?_
 refine lA g2 0 0 4 (isAgg38 _) (sizeOf38 _) ?_
 refine sBS g2 (encPlane b0).toArray runUnderlying25 sizeOf38 zeroValue38 ?_
 intro o0 _ i4
 refine pu1 ?_
 refine tW i4 4 0 (.slice (At o0 0) 1 1) sizeOf25 ?_
 intro _ j4
 refine nT ?_
 refine cutA (γ := (Option Addr) × Nat × Nat × (List Plane) × Chunk × Int × Int) (fun ⟨ai, ni, ki, Iq, GI, pr, itc⟩ => [(0, Pt p 0), (1, I m0), (4, Pt i0 0), (5, Pt c0 0)]) (fun ⟨ai, ni, ki, Iq, GI, pr, itc⟩ w => Sat W w ([(p, .cells #[.slice a n k, I itc] 81 (0, 0))] :: [(c0, .cells #[.slice ai ni ki, nS, nS, I pr] 28 (0, 0))] :: [(i0, .cells #[nS, nS, nS, I 0] 28 (0, 0))] :: GI :: H :: F) /\ (0 <= itc /\ itc <= n) /\ RdT encPlane 4 [GI] ai ni ki Iq /\ (∀ z ∈ Iq, Plane.Ok [GI] z) /\ ((1 <= Iq.length /\ Iq.length <= 2) /\ ∀ z ∈ Iq, planeG z) /\ (0 <= pr /\ pr < 4)) ?_ ?_
 ·refine sR <| pu1 ?_
  have k4 := (j4.pick 2 rfl)
  refine cX call15 (tape_next (RdT.flat (hR.up 5 (by rfl))) om k4.flat1 2 om) ?_
  rintro _ _ ⟨l4, rfl, _, t1, _, m4⟩
  have a1 := m4.unflat1
  refine pu1 <| nT ?_
  refine cE l4 0 (fun n4 => ?_) (fun n4 => ?_)
  rotate_left
  ·refine kT ?_
   have o4 := ((a1.picks [5, 5, 2]).dropAt 4 rfl)
   have p4 : Sat W _ ([(p, .cells #[.slice a n k, I t1] 81 (0, 0))] :: [(c0, .cells #[.slice (At o0 0) 1 1, nS, nS, I u0] 28 (0, 0))] :: [(i0, .cells #[nS, nS, nS, I 0] 28 (0, 0))] :: ([(o0, .cells (encPlane b0).toArray 38 (0, 0))] ++ v0) :: (H :: F)) := Sat.perm (show Sat W _ ([(p, .cells #[.slice a n k, I t1] 81 (0, 0))] :: [(c0, .cells #[.slice (At o0 0) 1 1, nS, nS, I u0] 28 (0, 0))] :: [(i0, .cells #[nS, nS, nS, I 0] 28 (0, 0))] :: [(o0, .cells (encPlane b0).toArray 38 (0, 0))] :: v0 :: H :: F) from o4) (by simp [Value.cells])
   exact ⟨((At o0 0), 1, 1, [b0], ([(o0, .cells (encPlane b0).toArray 38 (0, 0))] ++ v0), u0, t1), alA, p4, om, ((RdT.blk (cs := [[(o0, .cells (encPlane b0).toArray 38 (0, 0))]]) (enc := encPlane) (sz := 4) (xs := [b0]) fR 1 0 rfl rfl rfl om).of_mem mS), (by
     intro z hz
     simp only [List.mem_cons, List.mem_append, List.not_mem_nil, or_false] at hz
     subst hz; exact e2.of_mem mS), ⟨by simp, (by
     intro z hz
     simp only [List.mem_cons, List.mem_append, List.not_mem_nil, or_false] at hz
     subst hz; exact ⟨k1.2.2.1, k1.2.2.2⟩)⟩, om⟩
  refine drawE [7, 8, 9, 11] [(1, ⟨c0, 0, none⟩, .slice (At o0 0) 1 1), (4, ⟨f2, 0, none⟩, I b0.w), (6, ⟨f2, 1, none⟩, I b0.h)] [(true, [0, 2, 3, 5]), (true, [1]), (true, [4]), (true, [6]), (false, [7]), (false, [8]), (false, [9]), (true, [10]), (false, [11])] rfl kr ⟨cI a1 4, cI a1 2, cI a1 2, trivial⟩ ?_
  have q4 := a1.drew
  refine wU [0, 2, 3, 5] ?_
  refine wLd (.slice (At o0 0) 1 1) 0 isAgg25 ?_
  refine wLd (I b0.w) 1 isAgg3 ?_
  refine wLd (I b0.h) 2 isAgg3 ?_
  refine wO rfl ?_
  refine cX call23 (tg_sized (RdT.flat (hR.up 5 (by rfl))) om q4.flat1 b0.w b0.h om) ?_
  rintro _ _ ⟨u1, v1, rfl, r4, i2, w1, _, s4⟩
  have j2 := s4.unflat2
  refine nilO ⟨⟨cI j2 5, dI, dI, trivial⟩, ?_⟩
  refine wO rfl ?_
  refine sBS j2 (encPlane u1).toArray runUnderlying25 sizeOf38 zeroValue38 ?_
  intro _ _ k2
  refine nilO ⟨⟨cI k2 6, dI, dI, trivial⟩, ?_⟩
  refine wO rfl ?_
  refine sApp (nb := 48) k2 (OwnT.blk (enc := encPlane) (sz := 4) (b := o0) (c := #[I b0.w, I b0.h, I b0.max_, .slice b0.pix.a b0.pix.n b0.pix.k]) (E := 38) (xs := [b0]) fR 1 rfl rfl rfl om) 3 (RdT.blk (enc := encPlane) (sz := 4) (xs := [u1]) fR 1 0 rfl rfl rfl om) underlying25 (i := Tryz.t38) kr fR ?_
  intro l1 m1 n1 _ u4 v4
  refine nilO ⟨dA, ?_⟩
  refine wU [10] ?_
  refine wO rfl ?_
  refine tW v4 6 0 (.slice l1 (1 + 1) m1) sizeOf25 ?_
  intro _ w4
  refine nilO ⟨dA, ?_⟩
  refine wN ?_
  refine tN ?_
  have x4 := ((w4.picks [5, 4, 7, 7, 5]).drops [5, 6])
  have y4 : Sat W _ ([(p, .cells #[.slice a n k, I w1] 81 (0, 0))] :: [(c0, .cells #[.slice l1 (1 + 1) m1, nS, nS, I u0] 28 (0, 0))] :: [(i0, .cells #[nS, nS, nS, I 0] 28 (0, 0))] :: (n1 ++ v0 ++ v1) :: (H :: F)) := Sat.perm (show Sat W _ ([(p, .cells #[.slice a n k, I w1] 81 (0, 0))] :: [(c0, .cells #[.slice l1 (1 + 1) m1, nS, nS, I u0] 28 (0, 0))] :: [(i0, .cells #[nS, nS, nS, I 0] 28 (0, 0))] :: n1 :: v0 :: v1 :: H :: F) from x4) (by simp [Value.cells])
  exact ⟨(l1, (1 + 1), m1, ([b0] ++ [u1]), (n1 ++ v0 ++ v1), u0, w1), alA, y4, om, ((u4.rdAt (cs := [n1]) 0 rfl).of_mem mS), (by
    intro z hz
    simp only [List.mem_cons, List.mem_append, List.not_mem_nil, or_false] at hz
    rcases hz with rfl | rfl
    ·exact e2.of_mem mS
    ·exact r4.of_mem mS), ⟨by simp, (by
    intro z hz
    simp only [List.mem_cons, List.mem_append, List.not_mem_nil, or_false] at hz
    rcases hz with rfl | rfl
    ·exact ⟨k1.2.2.1, k1.2.2.2⟩
    ·exact ⟨i2.2.2.1, i2.2.2.2⟩)⟩, om⟩
 rintro ⟨ai, ni, ki, Iq, GI, pr, itc⟩ ρ _ ⟨z4, hitc, hRi, hDi, hGi, hpr⟩
 refine seqE <| sR <| pu2 ?_
 refine cX call15 (tape_next (RdT.flat (hR.up 3 (by rfl))) om z4.flat1 m0 om) ?_
 rintro _ _ ⟨m2, rfl, _, a5, _, b5⟩
 have c5 := b5.unflat1
 refine sAdd 1 m2 ?_
 refine pu1 <| nT <| blockE ?_
 have d5 := Sat.nilc c5
 have e5 := Sat.nilc d5
 refine loopA (γ := Nat × Int × (List Stage) × (Option Addr) × Nat × Nat × Chunk × Chunk × (List Shape) × Int) (fun ⟨u, j, ss, sa, sn, sk, Gs, cs, l0, itu⟩ => [(0, Pt p 0), (4, Pt i0 0), (5, Pt c0 0), (7, I j)]) (fun ⟨u, j, ss, sa, sn, sk, Gs, cs, l0, itu⟩ w => Sat W w (cs :: Gs :: [(p, .cells #[.slice a n k, I itu] 81 (0, 0))] :: [(c0, .cells #[.slice ai ni ki, .slice sa sn sk, nS, I pr] 28 (0, 0))] :: [(i0, .cells #[nS, nS, nS, I 0] 28 (0, 0))] :: GI :: H :: F) /\ u <= 4 /\ (OwnT encStage 53 18 sa sn sk ss cs) /\ (∀ z ∈ ss, Stage.Ok [Gs] z) /\ (∀ z ∈ ss, stageB 0 z) /\ (Good (Iq.map Plane.v) (ss.map Stage.v) pr) /\ (runS ((Iq.map Plane.v).map shpOf) (ss.map Stage.v) = some l0) /\ (ss.length = u) /\ (1 <= (u : Int) + j /\ (u : Int) + j <= 4) /\ (0 <= itu /\ itu <= n)) (fun ⟨u, j, ss, sa, sn, sk, Gs, cs, l0, itu⟩ => 4 - u) (0, (1 + m2), [], none, 0, 0, [], [], ((Iq.map Plane.v).map shpOf), a5) ⟨e5, om, OwnT.nil (enc := encStage) (E := 53) (sz := 18) fR, (by intro z hz; cases hz), (by intro z hz; cases hz), ⟨all_planeG hGi.2, by rw [List.length_map]; exact hGi.1, by simp, hpr, by intro m s h; simp at h⟩, by rfl, by rfl, om, om⟩ ?_
 rintro ⟨u, j, ss, sa, sn, sk, Gs, cs, l0, itu⟩ ρ _ ⟨b1, hu, hRs, hDs, hBs, hgood, hrun, hsl, hj, hitu⟩
 refine seqE <| sR <| pu2 <| nT ?_
 refine cD (j > 0) (fun f5 => ?_) (fun f5 => ?_)
 rotate_left
 ·refine exitE <| xB <| tN <| seqE ?_
  have hn_i := hRi.len; have hn_s := hRs.len
  refine rE <| pu1 ?_
  refine sL b1 3 0 (.slice ai ni ki) (isAgg25 _) ?_
  refine pu2 ?_
  refine sL b1 3 1 (.slice sa sn sk) (isAgg26 _) ?_
  refine pu1 ?_
  refine sAdd (ni : Int) (sn : Int) ?_
  refine pu1 <| zS <| pu1 ?_
  refine sSub ((ni : Int) + (sn : Int)) 1 ?_
  refine sBS b1 #[I (((ni : Int) + (sn : Int)) - 1)] runUnderlying22 sizeOf3 zeroValue3 ?_
  intro k0 _ g5
  refine pu1 ?_
  refine tW g5 4 2 (.slice (At k0 0) 1 1) sizeOf22 ?_
  intro _ h5
  refine zQ <| pu1 ?_
  have i5 := (h5.pick 3 rfl)
  refine cX call15 (tape_next (RdT.flat (hR.up 6 (by rfl))) om i5.flat1 3 om) ?_
  rintro _ _ ⟨j5, rfl, _, n2, _, k5⟩
  have o1 := k5.unflat1
  refine pu1 <| nT ?_
  refine cE j5 0 (fun l5 => ?_) (fun l5 => ?_)
  rotate_left
  ·refine kS ?_
   refine lA o1 4 0 4 (isAgg28 _) (sizeOf28 _) ?_
   refine sTl o1 5 [.slice ai ni ki, .slice sa sn sk, .slice (At k0 0) 1 1, I pr] sizeOf28 ?_
   intro _ o2
   refine zE <| retN (vs := [.agg #[.slice ai ni ki, .slice sa sn sk, .slice (At k0 0) 1 1, I pr]]) rfl (.cons (.cell _ _ _ _ kr (lvA o2 5 0 [.slice ai ni ki, .slice sa sn sk, .slice (At k0 0) 1 1, I pr] (isAgg28 _) (sizeOf28 _) rfl rfl rfl)) .nil) ?_
   have m5 := ((o2.picks [6, 4, 4, 3]).drops [5, 5])
   have n5 : Sat W _ ([(p, .cells #[.slice a n k, I n2] 81 (0, 0))] :: cs :: (Gs ++ GI ++ [(k0, .cells #[I (((ni : Int) + (sn : Int)) - 1)] 3 (0, 0))]) :: (H :: F)) := Sat.perm (show Sat W _ ([(p, .cells #[.slice a n k, I n2] 81 (0, 0))] :: cs :: Gs :: GI :: [(k0, .cells #[I (((ni : Int) + (sn : Int)) - 1)] 3 (0, 0))] :: H :: F) from m5) (by simp [Value.cells])
   exact ⟨(⟨⟨ai, ni, ki, Iq⟩, ⟨sa, sn, sk, ss⟩, ⟨(At k0 0), 1, 1, [(((ni : Int) + (sn : Int)) - 1)]⟩, pr⟩ : Job), cs, (Gs ++ GI ++ [(k0, .cells #[I (((ni : Int) + (sn : Int)) - 1)] 3 (0, 0))]), rfl, hRs, (fun z hz => (hDs z hz).of_mem mS), (fun _ _ _ _ C9 h1 h2 => ⟨hRi.of_mem mS, (fun z hz => (hDi z hz).of_mem mS), (h1.rdAt (cs := [C9]) 0 rfl).of_mem mS, (fun z hz => (h2 z hz).of_mem mS), (RdT.blk (cs := [[(k0, .cells #[I (((ni : Int) + (sn : Int)) - 1)] 3 (0, 0))]]) (enc := Go.E.encI) (sz := 1) (xs := [(((ni : Int) + (sn : Int)) - 1)]) fR 1 0 rfl rfl rfl om).of_mem mS⟩), ⟨⟨hGi.1.2, fun z hz => planeG_num (hGi.2 z hz)⟩, ⟨by dsimp only; omega, hBs⟩, ⟨by simp, (by intro z hz; simp only [List.mem_cons, List.mem_append, List.not_mem_nil, or_false] at hz; subst hz; unfold numB; omega)⟩, by unfold numB; dsimp only; omega⟩, ⟨hgood, l0, hrun⟩, ⟨by dsimp only; omega, ⟨by simp, by simp⟩, by
     unfold inR; rw [List.all_eq_true]; intro z hz
     simp only [List.mem_cons, List.mem_append, List.not_mem_nil, or_false] at hz
     refine decide_eq_true ?_
     simp only [List.length_map]
     subst hz; omega⟩, _, om, n5⟩
  refine drawE [4, 5, 6, 8] [(1, ⟨c0, 2, none⟩, .slice (At k0 0) 1 1)] [(true, [0, 2, 3]), (true, [1]), (false, [4]), (false, [5]), (false, [6]), (true, [7]), (false, [8])] rfl kr ⟨cI o1 4, trivial⟩ ?_
  have o5 := o1.drew
  refine wU [0, 2, 3] ?_
  refine wLd (.slice (At k0 0) 1 1) 0 isAgg22 ?_
  refine wO rfl ?_
  refine cX call15 (tape_next (RdT.flat (hR.up 6 (by rfl))) om o5.flat1 ((ni : Int) + (sn : Int)) om) ?_
  rintro _ _ ⟨x1, rfl, _, p2, _, p5⟩
  have r2 := p5.unflat1
  refine nilO ⟨⟨cI r2 4, trivial⟩, ?_⟩
  refine wO rfl ?_
  refine sBS r2 #[I x1] runUnderlying22 sizeOf3 zeroValue3 ?_
  intro _ _ s2
  refine nilO ⟨⟨cI s2 5, trivial⟩, ?_⟩
  refine wO rfl ?_
  refine sApp (nb := 8) s2 (OwnT.blk (enc := Go.E.encI) (sz := 1) (b := k0) (c := #[I (((ni : Int) + (sn : Int)) - 1)]) (E := 3) (xs := [(((ni : Int) + (sn : Int)) - 1)]) fR 1 rfl rfl rfl om) 2 (RdT.blk (enc := Go.E.encI) (sz := 1) (xs := [x1]) fR 1 0 rfl rfl rfl om) underlying22 (i := Tryz.t3) kr fR ?_
  intro c1 d1 p1 _ r5 s5
  refine nilO ⟨dA, ?_⟩
  refine wU [7] ?_
  refine wO rfl ?_
  refine tW s5 5 2 (.slice c1 (1 + 1) d1) sizeOf22 ?_
  intro _ t2
  refine nilO ⟨dA, ?_⟩
  refine wN ?_
  refine tN <| sR ?_
  refine lA t2 5 0 4 (isAgg28 _) (sizeOf28 _) ?_
  refine sTl t2 6 [.slice ai ni ki, .slice sa sn sk, .slice c1 (1 + 1) d1, I pr] sizeOf28 ?_
  intro _ u2
  refine zE <| retN (vs := [.agg #[.slice ai ni ki, .slice sa sn sk, .slice c1 (1 + 1) d1, I pr]]) rfl (.cons (.cell _ _ _ _ kr (lvA u2 6 0 [.slice ai ni ki, .slice sa sn sk, .slice c1 (1 + 1) d1, I pr] (isAgg28 _) (sizeOf28 _) rfl rfl rfl)) .nil) ?_
  have t5 := ((u2.picks [7, 5, 5, 4]).drops [4, 5, 5])
  have u5 : Sat W _ ([(p, .cells #[.slice a n k, I p2] 81 (0, 0))] :: cs :: (Gs ++ GI ++ p1) :: (H :: F)) := Sat.perm (show Sat W _ ([(p, .cells #[.slice a n k, I p2] 81 (0, 0))] :: cs :: Gs :: GI :: p1 :: H :: F) from t5) (by simp [Value.cells])
  exact ⟨(⟨⟨ai, ni, ki, Iq⟩, ⟨sa, sn, sk, ss⟩, ⟨c1, (1 + 1), d1, ([(((ni : Int) + (sn : Int)) - 1)] ++ [x1])⟩, pr⟩ : Job), cs, (Gs ++ GI ++ p1), rfl, hRs, (fun z hz => (hDs z hz).of_mem mS), (fun _ _ _ _ C9 h1 h2 => ⟨hRi.of_mem mS, (fun z hz => (hDi z hz).of_mem mS), (h1.rdAt (cs := [C9]) 0 rfl).of_mem mS, (fun z hz => (h2 z hz).of_mem mS), (r5.rdAt (cs := [p1]) 0 rfl).of_mem mS⟩), ⟨⟨hGi.1.2, fun z hz => planeG_num (hGi.2 z hz)⟩, ⟨by dsimp only; omega, hBs⟩, ⟨by simp, (by intro z hz; simp only [List.mem_cons, List.mem_append, List.not_mem_nil, or_false] at hz; rcases hz with rfl | rfl <;> (unfold numB; omega))⟩, by unfold numB; dsimp only; omega⟩, ⟨hgood, l0, hrun⟩, ⟨by dsimp only; omega, ⟨by simp, by simp⟩, by
    unfold inR; rw [List.all_eq_true]; intro z hz
    simp only [List.mem_cons, List.mem_append, List.not_mem_nil, or_false] at hz
    refine decide_eq_true ?_
    simp only [List.length_map]
    rcases hz with rfl | rfl <;> omega⟩, _, om, u5⟩
 refine kT <| seqE <| blockE <| seqE ?_
 have hn_i := hRi.len; have hn_s := hRs.len; have hl_s := hRs.le
 refine rE <| pu1 ?_
 refine lA b1 3 0 4 (isAgg28 _) (sizeOf28 _) ?_
 have v5 := (b1.pick 2 rfl)
 refine cX call44 (tg_shapes (RdT.flat (hR.up 5 (by rfl))) om v5.flat1 (⟨⟨ai, ni, ki, Iq⟩, ⟨sa, sn, sk, ss⟩, ⟨none, 0, 0, []⟩, pr⟩ : Job) ⟨(RdT.flat (hRi.up 4 (by rfl))), (fun z hz => (hDi z hz).of_mem (mem_flat1 4 (by rfl))), (RdT.flat (hRs.rdAt 0 (by rfl))), (fun z hz => (hDs z hz).of_mem (mem_flat1 1 (by rfl))), (RdT.nil (enc := Go.E.encI) (sz := 1) fR _)⟩ l0 hgood hrun) ?_
 rintro _ _ ⟨r0, j0, s0, y1, rfl, f1, _, _, w5⟩
 have x5 := w5.unflat2
 have hn_az_89 := f1.len; have hl_az_89 := f1.le
 refine pu1 <| nilO ?_
 have hsz := runS_sz (ss.map Stage.v) _ l0 (shpOf_sz (all_planeG hGi.2)) hrun
 have hlen0 : (((Iq.map Plane.v)).length : Int) + ((ss.map Stage.v)).length = (j0 : Int) := by have h := hsz.2; have h2 := hn_az_89; simp only [List.length_map] at h ⊢; omega
 have hlen1 : (Iq.length : Int) + ss.length = (j0 : Int) := by have h := hlen0; simp only [List.length_map] at h; exact h
 refine tN <| sR <| pu3 ?_
 refine cX call15 (tape_next (RdT.flat (hR.up 6 (by rfl))) om x5.flat1 (j0 : Int) om) ?_
 rintro _ _ ⟨y5, rfl, _, _, _, z5⟩
 have a6 := z5.unflat1
 refine pu1 <| nT ?_
 refine cutA (γ := Int × Int) (fun ⟨av, itA⟩ => [(0, Pt p 0), (4, Pt i0 0), (5, Pt c0 0), (7, I j), (8, .slice r0 j0 s0), (9, I av)]) (fun ⟨av, itA⟩ w => Sat W w ([(p, .cells #[.slice a n k, I itA] 81 (0, 0))] :: y1 :: cs :: Gs :: [(c0, .cells #[.slice ai ni ki, .slice sa sn sk, nS, I pr] 28 (0, 0))] :: [(i0, .cells #[nS, nS, nS, I 0] 28 (0, 0))] :: GI :: H :: F) /\ (0 <= itA /\ itA <= n) /\ (0 <= av /\ av < j0)) ?_ ?_
 ·refine sR <| pu1 ?_
  refine cX call15 (tape_next (RdT.flat (hR.up 6 (by rfl))) om a6.flat1 2 om) ?_
  rintro _ _ ⟨b6, rfl, _, v2, _, c6⟩
  have w2 := c6.unflat1
  refine pu1 <| nT ?_
  refine cE b6 0 (fun d6 => ?_) (fun d6 => ?_)
  rotate_left
  ·refine kT ?_
   exact ⟨(y5, v2), alA, w2, om, om⟩
  refine rE <| pu2 ?_
  refine sSub (j0 : Int) 1 ?_
  refine pu1 <| nT ?_
  exact ⟨(((j0 : Int) - 1), v2), alA, w2, om, om⟩
 rintro ⟨av, itA⟩ ρ _ ⟨e6, hitA, hvA⟩
 refine sR <| pu3 ?_
 refine cX call15 (tape_next (RdT.flat (hR.up 6 (by rfl))) om e6.flat1 (j0 : Int) om) ?_
 rintro _ _ ⟨g1, rfl, _, z1, _, f6⟩
 have t0 := f6.unflat1
 refine pu1 <| nT ?_
 refine cutA (γ := Int × Int) (fun ⟨bv, itB⟩ => [(0, Pt p 0), (4, Pt i0 0), (5, Pt c0 0), (7, I j), (8, .slice r0 j0 s0), (9, I av), (10, I bv)]) (fun ⟨bv, itB⟩ w => Sat W w ([(p, .cells #[.slice a n k, I itB] 81 (0, 0))] :: y1 :: cs :: Gs :: [(c0, .cells #[.slice ai ni ki, .slice sa sn sk, nS, I pr] 28 (0, 0))] :: [(i0, .cells #[nS, nS, nS, I 0] 28 (0, 0))] :: GI :: H :: F) /\ (0 <= itB /\ itB <= n) /\ (bv = -1 \/ (0 <= bv /\ bv < j0))) ?_ ?_
 ·refine seqE ?_
  obtain ⟨p0, w0, x0, g6, a2, b2⟩ := RdT.elem f1 av
  have hsz_x_121 := hsz.1 p0 (List.mem_of_getElem? g6)
  obtain ⟨q0, y0, z0, h6, c2, d2⟩ := RdT.elem f1 g1
  have hsz_x_127 := hsz.1 q0 (List.mem_of_getElem? h6)
  by_cases x2 : (p0.w : Int) = q0.w
  rotate_left
  ·refine drawE [] [(4, ⟨w0, x0 + 0, none⟩, I p0.w), (9, ⟨y0, z0 + 0, none⟩, I q0.w)] [(true, [0, 1]), (true, [2]), (true, [3, 5, 6]), (true, [7]), (true, [8]), (true, [4]), (true, [9]), (true, [10, 11]), (true, [12, 13, 14, 15, 17, 18, 19, 20, 16, 21, 22, 23])] rfl kr ⟨.inr ((a2.up 1 rfl).cell t0 (k := 0) rfl), .inr ((c2.up 1 rfl).cell t0 (k := 0) rfl), trivial⟩ ?_
   have i6 := t0.drew
   refine wU [0, 1] ?_
   refine wY (.pointer (some ⟨w0, x0, none⟩)) rfl (fun w _ => Y_idx (a := r0) (i := av) (len := j0) (cap := s0) rfl runUnderlying82 sizeOf65 kr kr b2) ?_
   refine wU [3, 5, 6] ?_
   refine wY (.pointer (some ⟨y0, z0, none⟩)) rfl (fun w _ => Y_idx (a := r0) (i := g1) (len := j0) (cap := s0) rfl runUnderlying82 sizeOf65 kr kr d2) ?_
   refine wU [8] ?_
   refine wLd (I p0.w) 0 isAgg3 ?_
   refine wLd (I q0.w) 1 isAgg3 ?_
   refine wU [10, 11] ?_
   refine wFix 74 _ true (bne_iff_ne.2 x2) ?_
   refine wU [12, 13, 14, 15, 17, 18, 19, 20, 16, 21, 22, 23] ?_
   refine wN ?_
   refine tN <| cTt <| rE <| pu1 <| nT ?_
   exact ⟨(-1, z1), alA, i6, om, om⟩
  refine drawE [] [(4, ⟨w0, x0 + 0, none⟩, I p0.w), (9, ⟨y0, z0 + 0, none⟩, I q0.w), (16, ⟨w0, x0 + 1, none⟩, I p0.h), (21, ⟨y0, z0 + 1, none⟩, I q0.h)] [(true, [0, 1]), (true, [2]), (true, [3, 5, 6]), (true, [7]), (true, [8]), (true, [4]), (true, [9]), (true, [10, 11]), (true, [12, 13]), (true, [14]), (true, [15, 17, 18]), (true, [19]), (true, [20]), (true, [16]), (true, [21]), (true, [22, 23])] rfl kr ⟨.inr ((a2.up 1 rfl).cell t0 (k := 0) rfl), .inr ((c2.up 1 rfl).cell t0 (k := 0) rfl), .inr ((a2.up 1 rfl).cell t0 (k := 1) rfl), .inr ((c2.up 1 rfl).cell t0 (k := 1) rfl), trivial⟩ ?_
  have y2 := t0.drew
  refine wU [0, 1] ?_
  refine wY (.pointer (some ⟨w0, x0, none⟩)) rfl (fun w _ => Y_idx (a := r0) (i := av) (len := j0) (cap := s0) rfl runUnderlying82 sizeOf65 kr kr b2) ?_
  refine wU [3, 5, 6] ?_
  refine wY (.pointer (some ⟨y0, z0, none⟩)) rfl (fun w _ => Y_idx (a := r0) (i := g1) (len := j0) (cap := s0) rfl runUnderlying82 sizeOf65 kr kr d2) ?_
  refine wU [8] ?_
  refine wLd (I p0.w) 0 isAgg3 ?_
  refine wLd (I q0.w) 1 isAgg3 ?_
  refine wU [10, 11] ?_
  refine wFix 74 _ false (bne_eq_false_iff_eq.2 x2) ?_
  refine wU [12, 13] ?_
  refine wY (.pointer (some ⟨w0, x0, none⟩)) rfl (fun w _ => Y_idx (a := r0) (i := av) (len := j0) (cap := s0) rfl runUnderlying82 sizeOf65 kr kr b2) ?_
  refine wU [15, 17, 18] ?_
  refine wY (.pointer (some ⟨y0, z0, none⟩)) rfl (fun w _ => Y_idx (a := r0) (i := g1) (len := j0) (cap := s0) rfl runUnderlying82 sizeOf65 kr kr d2) ?_
  refine wU [20] ?_
  refine wLd (I p0.h) 2 isAgg3 ?_
  refine wLd (I q0.h) 3 isAgg3 ?_
  refine wU [22, 23] ?_
  refine wN ?_
  refine tN ?_
  refine cN p0.h q0.h (fun j6 => ?_) (fun j6 => ?_)
  ·refine kT ?_
   exact ⟨(g1, z1), alA, y2, om, om⟩
  refine rE <| pu1 <| nT ?_
  exact ⟨(-1, z1), alA, y2, om, om⟩
 rintro ⟨bv, itB⟩ ρ _ ⟨z2, hitB, hvB⟩
 refine sR <| pu4 ?_
 refine sIdx f1 av runUnderlying82 sizeOf65 ?_
 intro i1 _ _ k6 l6
 have hsz_x_139 := hsz.1 i1 (List.mem_of_getElem? k6)
 refine sLpA z2 (l6.up 1 rfl) 0 [I i1.w, I i1.h, I i1.max_] (isAgg65 _) (sizeOf65 _) ?_
 refine pu1 ?_
 refine cX call24 (tg_stage (RdT.flat (hR.up 6 (by rfl))) om z2.flat1 av i1 bv ‹_› (by unfold numB; omega)) ?_
 rintro _ _ ⟨a0, b3, rfl, d3, m6, e3, j1, _, n6⟩
 refine sAlloc (Sat.unflat2 n6) zeroValue53 ?_
 intro e0 _ p6
 refine sTl p6 0 (encStage a0) sizeOf53 ?_
 intro _ f3
 refine zS ?_
 refine lA f3 6 0 4 (isAgg28 _) (sizeOf28 _) ?_
 refine sAlloc f3 zeroValue28 ?_
 intro q1 _ q6
 refine sTl q6 0 [.slice ai ni ki, .slice sa sn sk, nS, I pr] sizeOf28 ?_
 intro _ f0
 refine nT ?_
 refine cutA (γ := (Option Addr) × Nat × Nat × Chunk) (fun ⟨a3, n3, k3, c3⟩ => [(0, Pt p 0), (4, Pt i0 0), (5, Pt c0 0), (7, I j), (9, I av), (11, Pt e0 0), (12, Pt q1 0)]) (fun ⟨a3, n3, k3, c3⟩ w => Sat W w (c3 :: [(q1, .cells #[.slice ai ni ki, .slice a3 n3 k3, nS, I pr] 28 (0, 0))] :: [(e0, .cells (encStage a0).toArray 53 (0, 0))] :: [(p, .cells #[.slice a n k, I j1] 81 (0, 0))] :: b3 :: y1 :: cs :: Gs :: [(c0, .cells #[.slice ai ni ki, .slice sa sn sk, nS, I pr] 28 (0, 0))] :: [(i0, .cells #[nS, nS, nS, I 0] 28 (0, 0))] :: GI :: H :: F) /\ OwnT encStage 53 18 a3 n3 k3 (ss ++ [a0]) c3) ?_ ?_
 rotate_left
 ·rintro ⟨a3, n3, k3, c3⟩ ρ _ ⟨r6, hO3⟩
  refine seqE ?_
  have hn3 := hO3.len; simp only [List.length_append, List.length_singleton] at hn3; have hl3 := hO3.le
  refine rE ?_
  refine sBS r6 #[I 0] runUnderlying22 sizeOf3 zeroValue3 ?_
  intro r1 _ s6
  refine pu1 ?_
  refine tW s6 2 2 (.slice (At r1 0) 1 1) sizeOf22 ?_
  intro _ g3
  refine nT ?_
  refine cutA (γ := Stage × (List Shape) × Chunk × Chunk) (fun ⟨q2, l2, c4, Gq2⟩ => [(0, Pt p 0), (4, Pt i0 0), (5, Pt c0 0), (7, I j), (12, Pt q1 0)]) (fun ⟨q2, l2, c4, Gq2⟩ w => Sat W w (c4 :: Gq2 :: [(p, .cells #[.slice a n k, I j1] 81 (0, 0))] :: [(c0, .cells #[.slice ai ni ki, .slice sa sn sk, nS, I pr] 28 (0, 0))] :: [(i0, .cells #[nS, nS, nS, I 0] 28 (0, 0))] :: [(q1, .cells #[.slice ai ni ki, .slice a3 n3 k3, .slice (At r1 0) 1 1, I pr] 28 (0, 0))] :: Gs :: GI :: H :: F) /\ OwnT encStage 53 18 a3 n3 k3 (ss ++ [q2]) c4 /\ Stage.Ok [Gq2] q2 /\ stageB 0 q2 /\ Good (Iq.map Plane.v) ((ss ++ [q2]).map Stage.v) pr /\ runS ((Iq.map Plane.v).map shpOf) ((ss ++ [q2]).map Stage.v) = some l2) ?_ ?_
  rotate_left
  ·rintro ⟨q2, l2, c4, Gq2⟩ ρ _ ⟨h3, hO4, hq2ok, hq2B, hg2, hr2⟩
   have hn4 := hO4.len; simp only [List.length_append, List.length_singleton] at hn4
   refine rE <| pu1 ?_
   refine sL h3 5 1 (.slice a3 n3 k3) (isAgg26 _) ?_
   refine pu1 ?_
   refine tW h3 3 1 (.slice a3 n3 k3) sizeOf26 ?_
   intro _ t6
   refine nB <| rE <| pu1 ?_
   refine sSub j 1 ?_
   refine pu1 <| nT ?_
   have u6 := ((t6.picks [6, 2, 2]).dropAt 6 rfl)
   have v6 : Sat W _ (c4 :: (Gq2 ++ Gs) :: ([(p, .cells #[.slice a n k, I j1] 81 (0, 0))] :: [(c0, .cells #[.slice ai ni ki, .slice a3 n3 k3, nS, I pr] 28 (0, 0))] :: [(i0, .cells #[nS, nS, nS, I 0] 28 (0, 0))] :: GI :: H :: F)) := Sat.perm (show Sat W _ (c4 :: Gq2 :: Gs :: [(p, .cells #[.slice a n k, I j1] 81 (0, 0))] :: [(c0, .cells #[.slice ai ni ki, .slice a3 n3 k3, nS, I pr] 28 (0, 0))] :: [(i0, .cells #[nS, nS, nS, I 0] 28 (0, 0))] :: GI :: H :: F) from u6) (by simp [Value.cells])
   exact ⟨(u + 1, (j - 1), (ss ++ [q2]), a3, n3, k3, (Gq2 ++ Gs), c4, l2, j1), od, alA, v6, om, hO4, (by
     intro z hz
     rcases List.mem_append.1 hz with h | h
     ·exact (hDs z h).of_mem mS
     ·simp only [List.mem_singleton] at h; subst h; exact hq2ok.of_mem mS), mem_snoc hBs hq2B, hg2, hr2, by simp; omega, om, om⟩
  refine sR ?_
  refine lA g3 2 0 4 (isAgg28 _) (sizeOf28 _) ?_
  refine cR call45 (r17_checkj (⟨⟨ai, ni, ki, Iq⟩, ⟨a3, n3, k3, (ss ++ [a0])⟩, ⟨(At r1 0), 1, 1, [0]⟩, pr⟩ : Job) ⟨(RdT.flat (hRi.up 11 (by rfl))), (fun z hz => (hDi z hz).of_mem (mem_flat1 11 (by rfl))), (RdT.flat (hO3.rdAt 1 (by rfl))), (fun z hz => by
    rcases List.mem_append.1 hz with h | h
    ·exact (hDs z h).of_mem (mem_flat1 8 (by rfl))
    ·simp only [List.mem_singleton] at h; rw [h]; exact d3.of_mem (mem_flat1 5 (by rfl))), (RdT.flat (RdT.blk (enc := Go.E.encI) (sz := 1) (xs := [0]) (fun _ => (by rfl)) 1 0 rfl rfl rfl om))⟩ (od) g3.flat) ?_
  intro _ i3
  refine pu5 <| zS <| pu2 <| nT ?_
  refine cN ((shpV (⟨⟨ai, ni, ki, Iq⟩, ⟨a3, n3, k3, (ss ++ [a0])⟩, ⟨(At r1 0), 1, 1, [0]⟩, pr⟩ : Job).v).2.2) 0 (fun w6 => ?_) (fun w6 => ?_)
  ·refine kT ?_
   have hsrc : ∀ x ∈ srcs a0.v, 0 <= x /\ x < (((Iq.map Plane.v)).length : Int) + ((ss.map Stage.v)).length := by
    intro x hx
    have hab := e3
    have e1 : (((Iq.map Plane.v)).length : Int) + ((ss.map Stage.v)).length = (j0 : Nat) := hlen0
    rw [e1]
    unfold srcs at hx
    split at hx
    ·rename_i ht
     have ht2 := ht.2
     simp only [Stage.v] at ht2
     simp only [List.mem_cons, List.not_mem_nil, or_false, Stage.v] at hx
     rcases hx with rfl | rfl <;> omega
    ·simp only [List.mem_singleton, Stage.v] at hx
     subst hx; omega
   have hg2 : Good (Iq.map Plane.v) ((ss ++ [a0]).map Stage.v) pr := by rw [List.map_append]; exact hgood.snoc (by simp; omega) hsrc
   have hr2 : ∃ l2, runS ((Iq.map Plane.v).map shpOf) ((ss ++ [a0]).map Stage.v) = some l2 := by
    cases hrr : runS ((Iq.map Plane.v).map shpOf) ((ss ++ [a0]).map Stage.v) with
    | some l => exact ⟨l, rfl⟩
    | none => exact absurd ‹_› ((shp_run hg2 (by simp)).2 hrr)
   obtain ⟨l2, hr2⟩ := hr2
   exact ⟨(a0, l2, c3, b3), alA, ((i3.picks [10, 10, 6, 7, 5]).drops [5, 6, 6, 6]), hO3, d3, m6, hg2, hr2⟩
  refine sR <| pu2 ?_
  refine sBS i3 #[I 0, I 0] runUnderlying51 sizeOf75 zeroValue75 ?_
  intro n0 _ y6
  refine pu1 ?_
  refine sTl y6 4 (encStage { zStage with kind := 6, a := av, b := -1, ops := ⟨(At n0 0), 1, 1, []⟩, max_ := 255 }) sizeOf53 ?_
  intro _ s1
  refine nT <| rE <| pu1 ?_
  refine sL s1 3 1 (.slice a3 n3 k3) (isAgg26 _) ?_
  refine pu1 ?_
  refine sL s1 3 1 (.slice a3 n3 k3) (isAgg26 _) ?_
  refine pu1 ?_
  refine sSub (n3 : Int) 1 ?_
  refine lA s1 4 0 18 (isAgg53 _) (sizeOf53 _) ?_
  refine sIdxO hO3 ((n3 : Int) - 1) (((n3 : Int) - 1)).toNat runUnderlying26 sizeOf53 ?_
  intro z6 _ _ a7 _ b7
  refine sStF s1 hO3 b7 2 (((n3 : Int) - 1)).toNat 0 z6 (⟨6, av, -1, false, 0, 0, 0, 0, ⟨none, 0, 0, []⟩, ⟨none, 0, 0, []⟩, ⟨none, 0, 0, []⟩, 0, 0, ⟨none, 0, 0, []⟩, ⟨none, 0, 0, []⟩, 0, ⟨(At n0 0), 1, 1, [(⟨0, 0⟩ : POp)]⟩, 255⟩ : Stage) a7 (.agg (encStage { zStage with kind := 6, a := av, b := -1, ops := ⟨(At n0 0), 1, 1, []⟩, max_ := 255 }).toArray) (encStage { zStage with kind := 6, a := av, b := -1, ops := ⟨(At n0 0), 1, 1, []⟩, max_ := 255 }) sizeOf53 ?_
  intro _ c7 d7 e7
  refine nT ?_
  have hsrc : ∀ x ∈ srcs a0.v, 0 <= x /\ x < (((Iq.map Plane.v)).length : Int) + ((ss.map Stage.v)).length := by
   intro x hx
   have hab := e3
   have e1 : (((Iq.map Plane.v)).length : Int) + ((ss.map Stage.v)).length = (j0 : Nat) := hlen0
   rw [e1]
   unfold srcs at hx
   split at hx
   ·rename_i ht
    have ht2 := ht.2
    simp only [Stage.v] at ht2
    simp only [List.mem_cons, List.not_mem_nil, or_false, Stage.v] at hx
    rcases hx with rfl | rfl <;> omega
   ·simp only [List.mem_singleton, Stage.v] at hx
    subst hx; omega
  have hg2 : Good (Iq.map Plane.v) (((ss ++ [(⟨6, av, -1, false, 0, 0, 0, 0, ⟨none, 0, 0, []⟩, ⟨none, 0, 0, []⟩, ⟨none, 0, 0, []⟩, 0, 0, ⟨none, 0, 0, []⟩, ⟨none, 0, 0, []⟩, 0, ⟨(At n0 0), 1, 1, [(⟨0, 0⟩ : POp)]⟩, 255⟩ : Stage)])).map Stage.v) pr := by rw [List.map_append]; exact hgood.snoc (by simp; omega) (by
    intro x hx
    have h0 : srcs (Stage.v (⟨6, av, -1, false, 0, 0, 0, 0, ⟨none, 0, 0, []⟩, ⟨none, 0, 0, []⟩, ⟨none, 0, 0, []⟩, 0, 0, ⟨none, 0, 0, []⟩, ⟨none, 0, 0, []⟩, 0, ⟨(At n0 0), 1, 1, [(⟨0, 0⟩ : POp)]⟩, 255⟩ : Stage)) = [av] := by unfold srcs; rw [if_neg (by unfold twoP; simp [Stage.v])]; rfl
    rw [h0] at hx; simp only [List.mem_singleton] at hx; subst hx; rw [hlen0]; omega)
  have hr2 : ∃ l2, runS ((Iq.map Plane.v).map shpOf) (((ss ++ [(⟨6, av, -1, false, 0, 0, 0, 0, ⟨none, 0, 0, []⟩, ⟨none, 0, 0, []⟩, ⟨none, 0, 0, []⟩, 0, 0, ⟨none, 0, 0, []⟩, ⟨none, 0, 0, []⟩, 0, ⟨(At n0 0), 1, 1, [(⟨0, 0⟩ : POp)]⟩, 255⟩ : Stage)])).map Stage.v) = some l2 := by rw [List.map_append]; exact good_safe (a := av) hgood hrun (by rw [hlen0]; omega)
  have hset : (ss ++ [a0]).set ((((n3 : Int) - 1)).toNat) (⟨6, av, -1, false, 0, 0, 0, 0, ⟨none, 0, 0, []⟩, ⟨none, 0, 0, []⟩, ⟨none, 0, 0, []⟩, 0, 0, ⟨none, 0, 0, []⟩, ⟨none, 0, 0, []⟩, 0, ⟨(At n0 0), 1, 1, [(⟨0, 0⟩ : POp)]⟩, 255⟩ : Stage) = ss ++ [(⟨6, av, -1, false, 0, 0, 0, 0, ⟨none, 0, 0, []⟩, ⟨none, 0, 0, []⟩, ⟨none, 0, 0, []⟩, 0, 0, ⟨none, 0, 0, []⟩, ⟨none, 0, 0, []⟩, 0, ⟨(At n0 0), 1, 1, [(⟨0, 0⟩ : POp)]⟩, 255⟩ : Stage)] := by rw [List.set_append_right _ _ om, show ((((n3 : Int) - 1)).toNat) - ss.length = 0 from by omega]; rfl
  obtain ⟨l2, hr2⟩ := hr2
  have f7 := ((e7.picks [11, 11, 7, 3, 5]).drops [5, 6, 6, 6, 6])
  exact ⟨((⟨6, av, -1, false, 0, 0, 0, 0, ⟨none, 0, 0, []⟩, ⟨none, 0, 0, []⟩, ⟨none, 0, 0, []⟩, 0, 0, ⟨none, 0, 0, []⟩, ⟨none, 0, 0, []⟩, 0, ⟨(At n0 0), 1, 1, [(⟨0, 0⟩ : POp)]⟩, 255⟩ : Stage), l2, c7, [(n0, .cells #[I 0, I 0] 75 (0, 0))]), alA, f7, (by have h := d7; rw [hset] at h; exact h), ⟨RdT.nil (enc := Go.E.encI) (sz := 1) fR _, RdT.nil (enc := Go.E.encI) (sz := 1) fR _, RdT.nil (enc := Go.E.encI) (sz := 1) fR _, RdT.nil (enc := encTap) (sz := 2) fR _, (fun z hz => by cases hz), RdT.nil (enc := encTap) (sz := 2) fR _, (fun z hz => by cases hz), (RdT.blk (cs := [[(n0, .cells #[I 0, I 0] 75 (0, 0))]]) (enc := encPOp) (sz := 2) (xs := [(⟨0, 0⟩ : POp)]) fR 1 0 rfl rfl rfl om)⟩, ⟨⟨nb, nb, nb, nb, nb, nb, nb, nb, nb, nb, nb⟩, ⟨by simp, fun z hz => by cases hz⟩, ⟨by simp, fun z hz => by cases hz⟩, ⟨by simp, fun z hz => by cases hz⟩, ⟨by simp, fun z hz => by cases hz⟩, ⟨by simp, fun z hz => by cases hz⟩, ⟨by simp, (by intro z hz; simp only [List.mem_singleton] at hz; subst hz; unfold opB numB; dsimp only; omega)⟩⟩, hg2, hr2⟩
 refine drawP [0, 3, 5, 6, 8] [(2, ⟨c0, 1, none⟩, .slice sa sn sk), (4, ⟨e0, 0, none⟩, I a0.kind), (4, ⟨e0, 1, none⟩, I a0.a), (4, ⟨e0, 2, none⟩, I a0.b), (4, ⟨e0, 3, none⟩, .bool a0.barrier), (4, ⟨e0, 4, none⟩, I a0.edgePolicy), (4, ⟨e0, 5, none⟩, I a0.edgeFill), (4, ⟨e0, 6, none⟩, I a0.kW), (4, ⟨e0, 7, none⟩, I a0.kH), (4, ⟨e0, 8, none⟩, .slice a0.weights.a a0.weights.n a0.weights.k), (4, ⟨e0, 9, none⟩, .slice a0.row.a a0.row.n a0.row.k), (4, ⟨e0, 10, none⟩, .slice a0.col.a a0.col.n a0.col.k), (4, ⟨e0, 11, none⟩, I a0.shift), (4, ⟨e0, 12, none⟩, I a0.shift2), (4, ⟨e0, 13, none⟩, .slice a0.x.a a0.x.n a0.x.k), (4, ⟨e0, 14, none⟩, .slice a0.y.a a0.y.n a0.y.k), (4, ⟨e0, 15, none⟩, I a0.bins), (4, ⟨e0, 16, none⟩, .slice a0.ops.a a0.ops.n a0.ops.k), (4, ⟨e0, 17, none⟩, I a0.max_)] (Plan.sts [1] <| Plan.sts [2] <| Plan.sts [4] <| .fk 0 5 (.fk 3 5 (.ef 5 <| .ef 6 <| Plan.sts [7] <| .ef 8 <| .fin) (.ef 3 <| .ef 6 <| Plan.sts [7] <| .ef 8 <| .fin)) (.ef 0 <| .ef 3 <| .ef 6 <| Plan.sts [7] <| .ef 8 <| .fin)) rfl kr ⟨cI f0 7, cI f0 1, cI f0 1, cI f0 1, cI f0 1, cI f0 1, cI f0 1, cI f0 1, cI f0 1, cI f0 1, cI f0 1, cI f0 1, cI f0 1, cI f0 1, cI f0 1, cI f0 1, cI f0 1, cI f0 1, cI f0 1, trivial⟩ ?_
 have j3 := f0.drew
 refine qU [1] ?_
 refine qLd (.slice sa sn sk) 0 isAgg26 ?_
 refine qY (.agg (encStage a0).toArray) rfl (fun w hF => Y_loadF rfl (isAgg53 w) (sizeOf53 w) kr rfl ⟨hF 1 _ _ rfl, hF 2 _ _ rfl, hF 3 _ _ rfl, hF 4 _ _ rfl, hF 5 _ _ rfl, hF 6 _ _ rfl, hF 7 _ _ rfl, hF 8 _ _ rfl, hF 9 _ _ rfl, hF 10 _ _ rfl, hF 11 _ _ rfl, hF 12 _ _ rfl, hF 13 _ _ rfl, hF 14 _ _ rfl, hF 15 _ _ rfl, hF 16 _ _ rfl, hF 17 _ _ rfl, hF 18 _ _ rfl, trivial⟩) ?_
 refine qF ?_ ?_
 rotate_left
 ·refine qO rfl ?_
  refine sBS j3 (encStage a0).toArray runUnderlying26 sizeOf53 zeroValue53 ?_
  intro _ _ l3
  refine nilO ⟨⟨cI l3 8, dI, dI, dI, dI, dI, dI, dI, dI, dI, dI, dI, dI, dI, dI, dI, dI, dI, dI, trivial⟩, ?_⟩
  refine qO rfl ?_
  refine sBS l3 #[] runUnderlying26 sizeOf53 zeroValue53 ?_
  intro g7 _ m3
  refine nilO ⟨⟨cI m3 9, dI, dI, dI, dI, dI, dI, dI, dI, dI, dI, dI, dI, dI, dI, dI, dI, dI, dI, trivial⟩, ?_⟩
  refine qO rfl ?_
  refine sApp (nb := 240) m3 (OwnT.blk (enc := encStage) (sz := 18) (b := g7) (c := #[]) (E := 53) (xs := []) fR 0 rfl rfl rfl om) 0 (hRs.rdAt 7 rfl) underlying26 (i := Tryz.t53) kr fR ?_
  intro _ _ _ _ i7 j7
  refine nilO ⟨dA, ?_⟩
  refine qO rfl ?_
  refine sApp (nb := 240) j7 i7 0 (RdT.blk (enc := encStage) (sz := 18) (xs := [a0]) fR 1 1 rfl rfl rfl om) underlying26 (i := Tryz.t53) kr fR ?_
  intro o3 p3 k7 _ l7 m7
  refine nilO ⟨dA, ?_⟩
  refine qU [7] ?_
  refine qO rfl ?_
  refine tW m7 2 1 (.slice o3 ((0 + sn) + 1) p3) sizeOf26 ?_
  intro _ n7
  refine nilO ⟨dA, ?_⟩
  refine qN ?_
  refine tN ?_
  exact ⟨(o3, ((0 + sn) + 1), p3, k7), alA, (n7.dropAt 1 rfl), (by have h := l7; first | exact h | simpa using h)⟩
 refine qO rfl ?_
 refine sBS j3 #[] runUnderlying26 sizeOf53 zeroValue53 ?_
 intro q3 _ d0
 refine nilO ⟨⟨cI d0 8, cI d0 2, cI d0 2, cI d0 2, cI d0 2, cI d0 2, cI d0 2, cI d0 2, cI d0 2, cI d0 2, cI d0 2, cI d0 2, cI d0 2, cI d0 2, cI d0 2, cI d0 2, cI d0 2, cI d0 2, cI d0 2, trivial⟩, ?_⟩
 refine qF ?_ ?_
 rotate_left
 ·refine qO rfl ?_
  refine sBS d0 (encStage a0).toArray runUnderlying26 sizeOf53 zeroValue53 ?_
  intro _ _ r3
  refine nilO ⟨⟨cI r3 9, dI, dI, dI, dI, dI, dI, dI, dI, dI, dI, dI, dI, dI, dI, dI, dI, dI, dI, trivial⟩, ?_⟩
  refine qO rfl ?_
  refine sApp (nb := 240) r3 (OwnT.blk (enc := encStage) (sz := 18) (b := q3) (c := #[]) (E := 53) (xs := []) fR 0 rfl rfl rfl om) 1 (hRs.rdAt 7 rfl) underlying26 (i := Tryz.t53) kr fR ?_
  intro _ _ _ _ q7 r7
  refine nilO ⟨dA, ?_⟩
  refine qO rfl ?_
  refine sApp (nb := 240) r7 q7 1 (RdT.blk (enc := encStage) (sz := 18) (xs := [a0]) fR 1 0 rfl rfl rfl om) underlying26 (i := Tryz.t53) kr fR ?_
  intro s3 u3 s7 _ t7 u7
  refine nilO ⟨dA, ?_⟩
  refine qU [7] ?_
  refine qO rfl ?_
  refine tW u7 2 1 (.slice s3 ((0 + sn) + 1) u3) sizeOf26 ?_
  intro _ v7
  refine nilO ⟨dA, ?_⟩
  refine qN ?_
  refine tN ?_
  exact ⟨(s3, ((0 + sn) + 1), u3, s7), alA, (v7.dropAt 0 rfl), (by have h := t7; first | exact h | simpa using h)⟩
 refine qO rfl ?_
 refine sApp (nb := 240) d0 (OwnT.blk (enc := encStage) (sz := 18) (b := q3) (c := #[]) (E := 53) (xs := []) fR 0 rfl rfl rfl om) 0 (hRs.rdAt 6 rfl) underlying26 (i := Tryz.t53) kr fR ?_
 intro _ _ _ _ y7 g0
 refine nilO ⟨⟨dI, cI g0 2, cI g0 2, cI g0 2, cI g0 2, cI g0 2, cI g0 2, cI g0 2, cI g0 2, cI g0 2, cI g0 2, cI g0 2, cI g0 2, cI g0 2, cI g0 2, cI g0 2, cI g0 2, cI g0 2, cI g0 2, trivial⟩, ?_⟩
 refine qO rfl ?_
 refine sBS g0 (encStage a0).toArray runUnderlying26 sizeOf53 zeroValue53 ?_
 intro _ _ z7
 refine nilO ⟨dA, ?_⟩
 refine qO rfl ?_
 refine sApp (nb := 240) z7 y7 1 (RdT.blk (enc := encStage) (sz := 18) (xs := [a0]) fR 1 0 rfl rfl rfl om) underlying26 (i := Tryz.t53) kr fR ?_
 intro v3 w3 a8 _ b8 c8
 refine nilO ⟨dA, ?_⟩
 refine qU [7] ?_
 refine qO rfl ?_
 refine tW c8 2 1 (.slice v3 ((0 + sn) + 1) w3) sizeOf26 ?_
 intro _ d8
 refine nilO ⟨dA, ?_⟩
 refine qN ?_
 refine tN ?_
 exact ⟨(v3, ((0 + sn) + 1), w3, a8), alA, (d8.dropAt 0 rfl), (by have h := b8; first | exact h | simpa using h)⟩
theorem tg_job {p:Nat} {a:Option Addr} {n k:Nat} {i:Int} {xs:List Int} (hR:RdT Go.E.encI 1 [H] a n k xs) (hi:0<=i/\i<=n) (hS:Sat W w ([(p, .cells #[.slice a n k,I i] 81 (0,0))]::H::F)) (m0:Int) (hm0:1<=m0/\m0<=4):
  Calls prog 12 #[Pt p 0,I m0] w fun e w'=>∃(q:Job) (G:Chunk),e= .returned (.agg (encJob q).toArray)/\(Job.Ok [G] q)/\(jobB 0 q)/\(Good (q.inputs.l.map Plane.v) (q.stages.l.map Stage.v) q.priority/\∃l0,runS ((q.inputs.l.map Plane.v).map shpOf) (q.stages.l.map Stage.v)=some l0)/\(1<=q.stages.l.length/\(1<=q.outputs.l.length/\q.outputs.l.length<=2)/\inR ((q.inputs.l.map Plane.v).length+(q.stages.l.map Stage.v).length) q.outputs.l=true)/\∃i':Int,(0<=i'/\i'<=n)/\Sat W w' ([(p, .cells #[.slice a n k,I i'] 81 (0,0))]::G::H::F):=(tg_jobO hR hi hS m0 hm0).mono (by rintro e w' ⟨q,C,G,he,h1,h2,h3,h4,h5,h6,i',hi',h7⟩;exact ⟨q,C++G,he,h3 _ _ _ _ _ h1 h2,h4,h5,h6,i',hi',Sat.perm h7 (by simp)⟩)
end Go.Proofs.YtmlhcafjelkjfaaGreat
