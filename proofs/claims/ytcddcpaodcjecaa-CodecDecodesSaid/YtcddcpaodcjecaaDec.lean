import Derived.Test.YtcddcpaodcjecaaRdr
import Derived.Test.YtcddcpaodcjecaaFun
namespace Go.Proofs.Ytcddcpaodcjecaa
open Go Go.E
set_option linter.unusedVariables false
set_option linter.unusedSimpArgs false
set_option linter.unnecessarySimpa false
set_option maxRecDepth 100000
set_option maxHeartbeats 2000000

-- squeezed
theorem take3 {l : List Int} {x0 x1 x2 : Int} (h0 : l[0]? = some x0) (h1 : l[1]? = some x1) (h2 : l[2]? = some x2) : l = [x0, x1, x2] ++ l.drop 3 := by
  match l with
  | [] => simp at h0
  | [_] => simp at h1
  | [_, _] => simp at h2
  | a :: b :: c :: l => simp at h0 h1 h2; simp [*]
/-- What Decode returns for the bytes x: the job j and the code c. -/
structure DecR (x : List Int) (j : JobV) (c : Int) : Prop where
  ok : c = 0 → wfJob j ∧ x.length ≤ 262144 ∧ x = [84, 70, 1] ++ bytesOf (nJob j)
  bad : c ≠ 0 → j = ⟨[], [], [], 0⟩ ∧ c = (if 262144 < x.length then 5 else 4)
  all : x.length ≤ 262144 → ∀ j0, wfJob j0 → x = [84, 70, 1] ++ bytesOf (nJob j0) → c = 0
theorem DecR.big {x : List Int} (h : 262144 < x.length) : DecR x (Job.v ⟨⟨none, 0, 0, []⟩, ⟨none, 0, 0, []⟩, ⟨none, 0, 0, []⟩, 0⟩) 5 :=
  ⟨fun h => by omega, fun _ => ⟨rfl, by rw [if_pos h]⟩, fun h2 => by omega⟩
theorem DecR.head {x : List Int} (h : x.length ≤ 262144) (hn : x.length < 3 ∨ (∃ q, x[0]? = some q ∧ q ≠ 84) ∨ (∃ q, x[1]? = some q ∧ q ≠ 70) ∨ (∃ q, x[2]? = some q ∧ q ≠ 1)) : DecR x (Job.v ⟨⟨none, 0, 0, []⟩, ⟨none, 0, 0, []⟩, ⟨none, 0, 0, []⟩, 0⟩) 4 := by
  refine ⟨fun h => by omega, fun _ => ⟨rfl, by rw [if_neg (by omega)]⟩, fun _ j0 _ e => ?_⟩
  subst e
  rcases hn with h | ⟨q, h, h2⟩ | ⟨q, h, h2⟩ | ⟨q, h, h2⟩ <;> simp at h <;> omega
theorem DecR.fail {x r : List Int} {b : Bool} {j : JobV} (h : x.length ≤ 262144) (hx : x = [84, 70, 1] ++ x.drop 3) (hG : Got nJob wfJob (x.drop 3) false j r b) (hb : b = true ∨ 0 < r.length) : DecR x (Job.v ⟨⟨none, 0, 0, []⟩, ⟨none, 0, 0, []⟩, ⟨none, 0, 0, []⟩, 0⟩) 4 := by
  refine ⟨fun h => by omega, fun _ => ⟨rfl, by rw [if_neg (by omega)]⟩, fun _ j0 hw e => ?_⟩
  exfalso
  have e2 : x.drop 3 = bytesOf (nJob j0) ++ [] := by rw [e]; simp
  have h1 := hG.cmp rfl j0 [] hw e2
  rcases hb with h2 | h2
  · rw [h1] at h2; cases h2
  · obtain ⟨_, hw2, e3⟩ := hG.snd h1
    rw [e2] at e3
    have := (pfJob _ _ _ _ hw hw2 e3).2
    subst this; simp at h2
theorem DecR.good {x r : List Int} {b : Bool} {j : JobV} (h : x.length ≤ 262144) (hx : x = [84, 70, 1] ++ x.drop 3) (hG : Got nJob wfJob (x.drop 3) false j r b) (hb : b = false) (hr : r = []) : DecR x j 0 := by
  obtain ⟨_, hw, e⟩ := hG.snd hb
  refine ⟨fun _ => ⟨hw, h, ?_⟩, fun h => absurd rfl h, fun _ _ _ _ => rfl⟩
  rw [hr, List.append_nil] at e
  rw [← e]; exact hx
/-- Two answers for the same bytes agree. -/
theorem DecR.same {x : List Int} {j j' : JobV} {c c' : Int} (h : DecR x j c) (h' : DecR x j' c') : j = j' ∧ c = c' := by
  by_cases e : c = 0
  · obtain ⟨h1, h2, h3⟩ := h.ok e
    have e' := h'.all h2 j h1 h3
    obtain ⟨h4, _, h5⟩ := h'.ok e'
    rw [h3] at h5
    have h6 := (pfJob j j' [] [] h1 h4 (by simpa using h5)).1
    exact ⟨h6, by omega⟩
  · by_cases e' : c' = 0
    · obtain ⟨h1, h2, h3⟩ := h'.ok e'
      exact absurd (h.all h2 j' h1 h3) e
    · obtain ⟨h1, h2⟩ := h.bad e
      obtain ⟨h3, h4⟩ := h'.bad e'
      exact ⟨by rw [h1, h3], by rw [h2, h4]⟩
theorem rdr_plane (W w : World) (p : Nat) (H fp : Chunk) (F : List Chunk) (r : List Int) (b : Bool) (hI : RdrR 84 H p r b fp) (hS : Sat W w (fp :: H :: F)) :
  Calls Try.prog 55 #[Pt p 0] w fun e w' => ∃ (q : Plane) (G : Chunk) (r' : List Int) (b' : Bool), e = .returned (.agg (encPlane q).toArray) ∧ Plane.Ok [G] q ∧ Got nPlane wfPlane r b q.v r' b' ∧ ∃ fp' : Chunk, RdrR 84 H p r' b' fp' ∧ Sat W w' (fp' :: G :: H :: F) := by
 refine callsE (n := 17) Try.func55 rfl rfl (Nat.le_of_ble_eq_true rfl) ?_
 refine sR ?_
 refine sAlloc hS Try.zeroValue49 ?_
 intro _ _ w0
 refine nT <| sR ?_
 refine sAlloc w0 Try.zeroValue49 ?_
 intro _ _ x0
 refine nT <| sR <| pu1 ?_
 have i0 := ((x0.pick 3 rfl).pick 3 rfl)
 try dsimp only [List.set, List.eraseIdx, Value.cells] at i0
 refine sF #[Pt p 0] Try.call53 (Calls.mono (rdr_number W _ _ _ _ _ _ _ hI i0) ?_)
 rintro _ _ ⟨a0, _, _, rfl, y0, _, _, z0, j0⟩
 refine ⟨_, rfl, ?_⟩
 try dsimp only [List.set, List.eraseIdx, Value.cells] at j0
 refine pu1 ?_
 refine sT1 j0 2 0 (I a0) #[I a0, I 0, I 0, .slice none 0 0] Try.sizeOf3 ?_
 intro _ k0
 try dsimp only [List.set, List.eraseIdx, Value.cells] at k0
 refine nT <| sR <| pu1 ?_
 have l0 := ((k0.pick 1 rfl).pick 1 rfl)
 try dsimp only [List.set, List.eraseIdx, Value.cells] at l0
 refine sF #[Pt p 0] Try.call53 (Calls.mono (rdr_number W _ _ _ _ _ _ _ z0 l0) ?_)
 rintro _ _ ⟨b0, _, _, rfl, a1, _, _, b1, m0⟩
 refine ⟨_, rfl, ?_⟩
 try dsimp only [List.set, List.eraseIdx, Value.cells] at m0
 refine pu1 ?_
 refine sT1 m0 2 1 (I b0) #[I a0, I b0, I 0, .slice none 0 0] Try.sizeOf3 ?_
 intro _ n0
 try dsimp only [List.set, List.eraseIdx, Value.cells] at n0
 refine nT <| sR <| pu1 ?_
 have o0 := ((n0.pick 1 rfl).pick 1 rfl)
 try dsimp only [List.set, List.eraseIdx, Value.cells] at o0
 refine sF #[Pt p 0] Try.call53 (Calls.mono (rdr_number W _ _ _ _ _ _ _ b1 o0) ?_)
 rintro _ _ ⟨c0, _, _, rfl, c1, _, _, d1, p0⟩
 refine ⟨_, rfl, ?_⟩
 try dsimp only [List.set, List.eraseIdx, Value.cells] at p0
 refine pu1 ?_
 refine sT1 p0 2 2 (I c0) #[I a0, I b0, I c0, .slice none 0 0] Try.sizeOf3 ?_
 intro _ q0
 try dsimp only [List.set, List.eraseIdx, Value.cells] at q0
 refine nT <| sR <| pu1 ?_
 have r0 := ((q0.pick 1 rfl).pick 1 rfl)
 try dsimp only [List.set, List.eraseIdx, Value.cells] at r0
 refine sF #[Pt p 0] Try.call57 (Calls.mono (rdr_numbers W _ _ _ _ _ _ _ d1 r0) ?_)
 rintro _ _ ⟨d0, e0, f0, e1, s0, _, _, rfl, f1, g1, t0, h1, u0⟩
 refine ⟨_, rfl, ?_⟩
 try dsimp only [List.set, List.eraseIdx, Value.cells] at u0
 refine pu1 ?_
 refine sT1 u0 3 3 (.slice d0 e0 f0) #[I a0, I b0, I c0, .slice d0 e0 f0] Try.sizeOf22 ?_
 intro _ g0
 try dsimp only [List.set, List.eraseIdx, Value.cells] at g0
 refine nT <| sR ?_
 refine sLA g0 3 0 [I a0, I b0, I c0, .slice d0 e0 f0] (Try.isAgg49 _) (Try.sizeOf49 _) ?_
 refine sTw g0 4 [I a0, I b0, I c0, .slice d0 e0 f0] Try.sizeOf49 ?_
 intro _ h0
 try dsimp only [List.set, List.eraseIdx, Value.cells] at h0
 refine nT <| retE <| retN (vs := [.agg #[I a0, I b0, I c0, .slice d0 e0 f0]]) rfl (.cons (.cell _ _ _ _ kr (lvA h0 4 0 [I a0, I b0, I c0, .slice d0 e0 f0] (Try.isAgg49 _) (Try.sizeOf49 _) rfl rfl rfl)) .nil) ?_
 have v0 := (((((h0.pick 2 rfl).pick 2 rfl).pick 2 rfl).dropAt 3 rfl).dropAt 3 rfl)
 change Sat _ _ (t0 :: s0 :: H :: F) at v0
 have i1 := (Sat.perm (cs' := t0 :: (s0) :: H :: F) v0 (by simp))
 have hgot := Got.plane y0 a1 c1 g1
 exact ⟨(⟨a0, b0, c0, ⟨d0, e0, f0, e1⟩⟩ : Plane), _, _, _, rfl, ⟨f1.of_mem mS⟩, hgot, _, h1, i1⟩
theorem rdr_stage (W w : World) (p : Nat) (H fp : Chunk) (F : List Chunk) (r : List Int) (b : Bool) (hI : RdrR 84 H p r b fp) (hS : Sat W w (fp :: H :: F)) :
  Calls Try.prog 56 #[Pt p 0] w fun e w' => ∃ (q : Stage) (G : Chunk) (r' : List Int) (b' : Bool), e = .returned (.agg (encStage q).toArray) ∧ Stage.Ok [G] q ∧ Got nStage wfStage r b q.v r' b' ∧ ∃ fp' : Chunk, RdrR 84 H p r' b' fp' ∧ Sat W w' (fp' :: G :: H :: F) := by
 refine callsE (n := 68) Try.func56 rfl rfl (Nat.le_of_ble_eq_true rfl) ?_
 refine sR ?_
 refine sAlloc hS Try.zeroValue61 ?_
 intro n1 _ g4
 refine nT <| sR ?_
 refine sAlloc g4 Try.zeroValue61 ?_
 intro o1 _ h4
 refine nT <| sR <| pu1 ?_
 have p1 := ((h4.pick 3 rfl).pick 3 rfl)
 try dsimp only [List.set, List.eraseIdx, Value.cells] at p1
 refine sF #[Pt p 0] Try.call53 (Calls.mono (rdr_number W _ _ _ _ _ _ _ hI p1) ?_)
 rintro _ _ ⟨a0, _, _, rfl, i4, _, _, j4, q1⟩
 refine ⟨_, rfl, ?_⟩
 try dsimp only [List.set, List.eraseIdx, Value.cells] at q1
 refine pu1 ?_
 refine sT1 q1 2 0 (I a0) #[I a0, I 0, I 0, .bool false, I 0, I 0, I 0, I 0, .slice none 0 0, .slice none 0 0, .slice none 0 0, I 0, I 0, .slice none 0 0, .slice none 0 0, I 0, .slice none 0 0, I 0] Try.sizeOf3 ?_
 intro _ r1
 try dsimp only [List.set, List.eraseIdx, Value.cells] at r1
 refine nT <| sR <| pu1 ?_
 have s1 := ((r1.pick 1 rfl).pick 1 rfl)
 try dsimp only [List.set, List.eraseIdx, Value.cells] at s1
 refine sF #[Pt p 0] Try.call53 (Calls.mono (rdr_number W _ _ _ _ _ _ _ j4 s1) ?_)
 rintro _ _ ⟨b0, _, _, rfl, k4, _, _, l4, t1⟩
 refine ⟨_, rfl, ?_⟩
 try dsimp only [List.set, List.eraseIdx, Value.cells] at t1
 refine pu1 ?_
 refine sT1 t1 2 1 (I b0) #[I a0, I b0, I 0, .bool false, I 0, I 0, I 0, I 0, .slice none 0 0, .slice none 0 0, .slice none 0 0, I 0, I 0, .slice none 0 0, .slice none 0 0, I 0, .slice none 0 0, I 0] Try.sizeOf3 ?_
 intro _ u1
 try dsimp only [List.set, List.eraseIdx, Value.cells] at u1
 refine nT <| sR <| pu1 ?_
 have v1 := ((u1.pick 1 rfl).pick 1 rfl)
 try dsimp only [List.set, List.eraseIdx, Value.cells] at v1
 refine sF #[Pt p 0] Try.call53 (Calls.mono (rdr_number W _ _ _ _ _ _ _ l4 v1) ?_)
 rintro _ _ ⟨c0, m4, n4, rfl, o4, _, _, p4, w1⟩
 refine ⟨_, rfl, ?_⟩
 try dsimp only [List.set, List.eraseIdx, Value.cells] at w1
 refine pu1 ?_
 refine sT1 w1 2 2 (I c0) #[I a0, I b0, I c0, .bool false, I 0, I 0, I 0, I 0, .slice none 0 0, .slice none 0 0, .slice none 0 0, I 0, I 0, .slice none 0 0, .slice none 0 0, I 0, .slice none 0 0, I 0] Try.sizeOf3 ?_
 intro _ x1
 try dsimp only [List.set, List.eraseIdx, Value.cells] at x1
 refine nT ?_
 refine cutE (fun ρ w => ∃ (bar : Bool) (rb : List Int) (bb : Bool) (fpb : Chunk), AllAt ρ [(0, Pt p 0), (2, Pt n1 0), (3, Pt o1 0)] ∧ Sat W w (fpb :: [(o1, .cells #[I a0, I b0, I c0, .bool bar, I 0, I 0, I 0, I 0, .slice none 0 0, .slice none 0 0, .slice none 0 0, I 0, I 0, .slice none 0 0, .slice none 0 0, I 0, .slice none 0 0, I 0] 61 (0, 0))] :: [(n1, .cells #[I 0, I 0, I 0, .bool false, I 0, I 0, I 0, I 0, .slice none 0 0, .slice none 0 0, .slice none 0 0, I 0, I 0, .slice none 0 0, .slice none 0 0, I 0, .slice none 0 0, I 0] 61 (0, 0))] :: H :: F) ∧ Got encBo wfBo m4 n4 bar rb bb ∧ RdrR 84 H p rb bb fpb) ?_ ?_
 ·refine sR <| pu1 ?_
  have y1 := ((x1.pick 1 rfl).pick 1 rfl)
  try dsimp only [List.set, List.eraseIdx, Value.cells] at y1
  refine sF #[Pt p 0] Try.call53 (Calls.mono (rdr_number W _ _ _ _ _ _ _ p4 y1) ?_)
  rintro _ _ ⟨z1, e1, a2, rfl, f1, _, b2, g1, d1⟩
  refine ⟨_, rfl, ?_⟩
  try dsimp only [List.set, List.eraseIdx, Value.cells] at d1
  refine nT <| blockE <| sR <| pu2 <| nT ?_
  by_cases c2 : (z1 : Int) = 0
  ·refine cT _ (beq_iff_eq.2 c2) ?_
   refine skipE <| blockK_n <| thenK_n ?_
   have d2 := ((((d1.pick 1 rfl).pick 3 rfl).pick 3 rfl).pick 3 rfl)
   try dsimp only [List.set, List.eraseIdx, Value.cells] at d2
   exact ⟨false, e1, a2, b2, alA, d2, Got.bool false f1 (by simp only [nBool, if_true, if_false, Bool.false_eq_true]; omega), g1⟩
  refine cF _ (beq_eq_false_iff_ne.2 c2) ?_
  refine sR <| pu2 <| nT ?_
  by_cases e2 : (z1 : Int) = 1
  ·refine cT _ (beq_iff_eq.2 e2) ?_
   refine regionE <| pu1 ?_
   refine sT1 d1 2 3 (.bool true) #[I a0, I b0, I c0, .bool true, I 0, I 0, I 0, I 0, .slice none 0 0, .slice none 0 0, .slice none 0 0, I 0, I 0, .slice none 0 0, .slice none 0 0, I 0, .slice none 0 0, I 0] Try.sizeOf4 ?_
   intro _ f2
   try dsimp only [List.set, List.eraseIdx, Value.cells] at f2
   refine nB ?_
   have g2 := ((((f2.pick 1 rfl).pick 3 rfl).pick 3 rfl).pick 3 rfl)
   try dsimp only [List.set, List.eraseIdx, Value.cells] at g2
   exact ⟨true, e1, a2, b2, alA, g2, Got.bool true f1 (by simp only [nBool, if_true, if_false, Bool.false_eq_true]; omega), g1⟩
  refine cF _ (beq_eq_false_iff_ne.2 e2) ?_
  try dsimp only [List.set, List.eraseIdx, Value.cells] at d1
  obtain ⟨h1, i1, j1, rfl, k1, q4⟩ := g1
  have hll_a_59 := k1.len; have hle_a_59 := k1.le
  refine regionE <| pu3 ?_
  refine sT1 d1 0 1 (.bool true) #[.slice h1 i1 j1, .bool true] Try.sizeOf4 ?_
  intro _ h2
  try dsimp only [List.set, List.eraseIdx, Value.cells] at h2
  refine nB ?_
  have r4 : RdrR 84 H p e1 true [(p, .cells #[.slice h1 i1 j1, .bool true] 84 (0, 0))] := ⟨_, _, _, rfl, k1, q4⟩
  have i2 := ((((h2.pick 1 rfl).pick 3 rfl).pick 3 rfl).pick 3 rfl)
  try dsimp only [List.set, List.eraseIdx, Value.cells] at i2
  exact ⟨false, e1, true, [(p, .cells #[.slice h1 i1 j1, .bool true] 84 (0, 0))], alA, i2, Got.boolbad false f1 om om, r4⟩
 rintro ρ _ ⟨bar, rb, bb, fpb, hA, s4, hGb, hIb⟩
 refine cAnchor hA (fun ρ => ?_)
 clear hA
 refine sR <| pu1 ?_
 have j2 := ((s4.pick 3 rfl).pick 1 rfl)
 try dsimp only [List.set, List.eraseIdx, Value.cells] at j2
 refine sF #[Pt p 0] Try.call53 (Calls.mono (rdr_number W _ _ _ _ _ _ _ hIb j2) ?_)
 rintro _ _ ⟨d0, _, _, rfl, t4, _, _, u4, k2⟩
 refine ⟨_, rfl, ?_⟩
 try dsimp only [List.set, List.eraseIdx, Value.cells] at k2
 refine pu2 ?_
 refine sT1 k2 2 4 (I d0) #[I a0, I b0, I c0, .bool bar, I d0, I 0, I 0, I 0, .slice none 0 0, .slice none 0 0, .slice none 0 0, I 0, I 0, .slice none 0 0, .slice none 0 0, I 0, .slice none 0 0, I 0] Try.sizeOf3 ?_
 intro _ l2
 try dsimp only [List.set, List.eraseIdx, Value.cells] at l2
 refine nT <| sR <| pu1 ?_
 have m2 := ((l2.pick 1 rfl).pick 1 rfl)
 try dsimp only [List.set, List.eraseIdx, Value.cells] at m2
 refine sF #[Pt p 0] Try.call53 (Calls.mono (rdr_number W _ _ _ _ _ _ _ u4 m2) ?_)
 rintro _ _ ⟨e0, _, _, rfl, v4, _, _, w4, n2⟩
 refine ⟨_, rfl, ?_⟩
 try dsimp only [List.set, List.eraseIdx, Value.cells] at n2
 refine pu2 ?_
 refine sT1 n2 2 5 (I e0) #[I a0, I b0, I c0, .bool bar, I d0, I e0, I 0, I 0, .slice none 0 0, .slice none 0 0, .slice none 0 0, I 0, I 0, .slice none 0 0, .slice none 0 0, I 0, .slice none 0 0, I 0] Try.sizeOf3 ?_
 intro _ o2
 try dsimp only [List.set, List.eraseIdx, Value.cells] at o2
 refine nT <| sR <| pu1 ?_
 have p2 := ((o2.pick 1 rfl).pick 1 rfl)
 try dsimp only [List.set, List.eraseIdx, Value.cells] at p2
 refine sF #[Pt p 0] Try.call53 (Calls.mono (rdr_number W _ _ _ _ _ _ _ w4 p2) ?_)
 rintro _ _ ⟨f0, _, _, rfl, x4, _, _, y4, q2⟩
 refine ⟨_, rfl, ?_⟩
 try dsimp only [List.set, List.eraseIdx, Value.cells] at q2
 refine pu1 ?_
 refine sT1 q2 2 6 (I f0) #[I a0, I b0, I c0, .bool bar, I d0, I e0, I f0, I 0, .slice none 0 0, .slice none 0 0, .slice none 0 0, I 0, I 0, .slice none 0 0, .slice none 0 0, I 0, .slice none 0 0, I 0] Try.sizeOf3 ?_
 intro _ r2
 try dsimp only [List.set, List.eraseIdx, Value.cells] at r2
 refine nT <| sR <| pu1 ?_
 have s2 := ((r2.pick 1 rfl).pick 1 rfl)
 try dsimp only [List.set, List.eraseIdx, Value.cells] at s2
 refine sF #[Pt p 0] Try.call53 (Calls.mono (rdr_number W _ _ _ _ _ _ _ y4 s2) ?_)
 rintro _ _ ⟨g0, _, _, rfl, z4, _, _, a5, t2⟩
 refine ⟨_, rfl, ?_⟩
 try dsimp only [List.set, List.eraseIdx, Value.cells] at t2
 refine pu1 ?_
 refine sT1 t2 2 7 (I g0) #[I a0, I b0, I c0, .bool bar, I d0, I e0, I f0, I g0, .slice none 0 0, .slice none 0 0, .slice none 0 0, I 0, I 0, .slice none 0 0, .slice none 0 0, I 0, .slice none 0 0, I 0] Try.sizeOf3 ?_
 intro _ u2
 try dsimp only [List.set, List.eraseIdx, Value.cells] at u2
 refine nT <| sR <| pu1 ?_
 have v2 := ((u2.pick 1 rfl).pick 1 rfl)
 try dsimp only [List.set, List.eraseIdx, Value.cells] at v2
 refine sF #[Pt p 0] Try.call57 (Calls.mono (rdr_numbers W _ _ _ _ _ _ _ a5 v2) ?_)
 rintro _ _ ⟨h0, i0, j0, b5, w2, _, _, rfl, c5, d5, _, e5, x2⟩
 refine ⟨_, rfl, ?_⟩
 try dsimp only [List.set, List.eraseIdx, Value.cells] at x2
 refine pu1 ?_
 refine sT1 x2 3 8 (.slice h0 i0 j0) #[I a0, I b0, I c0, .bool bar, I d0, I e0, I f0, I g0, .slice h0 i0 j0, .slice none 0 0, .slice none 0 0, I 0, I 0, .slice none 0 0, .slice none 0 0, I 0, .slice none 0 0, I 0] Try.sizeOf22 ?_
 intro _ y2
 try dsimp only [List.set, List.eraseIdx, Value.cells] at y2
 refine nT <| sR <| pu1 ?_
 have z2 := ((y2.pick 2 rfl).pick 1 rfl)
 try dsimp only [List.set, List.eraseIdx, Value.cells] at z2
 refine sF #[Pt p 0] Try.call57 (Calls.mono (rdr_numbers W _ _ _ _ _ _ _ e5 z2) ?_)
 rintro _ _ ⟨k0, l0, m0, f5, a3, _, _, rfl, g5, h5, _, i5, b3⟩
 refine ⟨_, rfl, ?_⟩
 try dsimp only [List.set, List.eraseIdx, Value.cells] at b3
 refine pu1 ?_
 refine sT1 b3 4 9 (.slice k0 l0 m0) #[I a0, I b0, I c0, .bool bar, I d0, I e0, I f0, I g0, .slice h0 i0 j0, .slice k0 l0 m0, .slice none 0 0, I 0, I 0, .slice none 0 0, .slice none 0 0, I 0, .slice none 0 0, I 0] Try.sizeOf22 ?_
 intro _ c3
 try dsimp only [List.set, List.eraseIdx, Value.cells] at c3
 refine nT <| sR <| pu1 ?_
 have d3 := ((c3.pick 2 rfl).pick 1 rfl)
 try dsimp only [List.set, List.eraseIdx, Value.cells] at d3
 refine sF #[Pt p 0] Try.call57 (Calls.mono (rdr_numbers W _ _ _ _ _ _ _ i5 d3) ?_)
 rintro _ _ ⟨n0, o0, p0, j5, e3, _, _, rfl, k5, l5, _, m5, f3⟩
 refine ⟨_, rfl, ?_⟩
 try dsimp only [List.set, List.eraseIdx, Value.cells] at f3
 refine pu1 ?_
 refine sT1 f3 5 10 (.slice n0 o0 p0) #[I a0, I b0, I c0, .bool bar, I d0, I e0, I f0, I g0, .slice h0 i0 j0, .slice k0 l0 m0, .slice n0 o0 p0, I 0, I 0, .slice none 0 0, .slice none 0 0, I 0, .slice none 0 0, I 0] Try.sizeOf22 ?_
 intro _ g3
 try dsimp only [List.set, List.eraseIdx, Value.cells] at g3
 refine nT <| sR <| pu1 ?_
 have h3 := ((g3.pick 2 rfl).pick 1 rfl)
 try dsimp only [List.set, List.eraseIdx, Value.cells] at h3
 refine sF #[Pt p 0] Try.call53 (Calls.mono (rdr_number W _ _ _ _ _ _ _ m5 h3) ?_)
 rintro _ _ ⟨q0, _, _, rfl, n5, _, _, o5, i3⟩
 refine ⟨_, rfl, ?_⟩
 try dsimp only [List.set, List.eraseIdx, Value.cells] at i3
 refine pu1 ?_
 refine sT1 i3 5 11 (I q0) #[I a0, I b0, I c0, .bool bar, I d0, I e0, I f0, I g0, .slice h0 i0 j0, .slice k0 l0 m0, .slice n0 o0 p0, I q0, I 0, .slice none 0 0, .slice none 0 0, I 0, .slice none 0 0, I 0] Try.sizeOf3 ?_
 intro _ j3
 try dsimp only [List.set, List.eraseIdx, Value.cells] at j3
 refine nT <| sR <| pu1 ?_
 have k3 := ((j3.pick 1 rfl).pick 1 rfl)
 try dsimp only [List.set, List.eraseIdx, Value.cells] at k3
 refine sF #[Pt p 0] Try.call53 (Calls.mono (rdr_number W _ _ _ _ _ _ _ o5 k3) ?_)
 rintro _ _ ⟨r0, _, _, rfl, p5, _, _, q5, l3⟩
 refine ⟨_, rfl, ?_⟩
 try dsimp only [List.set, List.eraseIdx, Value.cells] at l3
 refine pu1 ?_
 refine sT1 l3 5 12 (I r0) #[I a0, I b0, I c0, .bool bar, I d0, I e0, I f0, I g0, .slice h0 i0 j0, .slice k0 l0 m0, .slice n0 o0 p0, I q0, I r0, .slice none 0 0, .slice none 0 0, I 0, .slice none 0 0, I 0] Try.sizeOf3 ?_
 intro _ m3
 try dsimp only [List.set, List.eraseIdx, Value.cells] at m3
 refine nT <| sR <| pu1 ?_
 have n3 := ((m3.pick 1 rfl).pick 1 rfl)
 try dsimp only [List.set, List.eraseIdx, Value.cells] at n3
 refine sF #[Pt p 0] Try.call65 (Calls.mono (rdr_taps W _ _ _ _ _ _ _ q5 n3) ?_)
 rintro _ _ ⟨s0, t0, u0, r5, o3, _, _, rfl, s5, t5, u5, _, v5, p3⟩
 refine ⟨_, rfl, ?_⟩
 try dsimp only [List.set, List.eraseIdx, Value.cells] at p3
 refine pu1 ?_
 refine sT1 p3 6 13 (.slice s0 t0 u0) #[I a0, I b0, I c0, .bool bar, I d0, I e0, I f0, I g0, .slice h0 i0 j0, .slice k0 l0 m0, .slice n0 o0 p0, I q0, I r0, .slice s0 t0 u0, .slice none 0 0, I 0, .slice none 0 0, I 0] Try.sizeOf58 ?_
 intro _ q3
 try dsimp only [List.set, List.eraseIdx, Value.cells] at q3
 refine nT <| sR <| pu1 ?_
 have r3 := ((q3.pick 2 rfl).pick 1 rfl)
 try dsimp only [List.set, List.eraseIdx, Value.cells] at r3
 refine sF #[Pt p 0] Try.call65 (Calls.mono (rdr_taps W _ _ _ _ _ _ _ v5 r3) ?_)
 rintro _ _ ⟨v0, w0, x0, w5, s3, _, _, rfl, x5, y5, z5, _, a6, t3⟩
 refine ⟨_, rfl, ?_⟩
 try dsimp only [List.set, List.eraseIdx, Value.cells] at t3
 refine pu1 ?_
 refine sT1 t3 7 14 (.slice v0 w0 x0) #[I a0, I b0, I c0, .bool bar, I d0, I e0, I f0, I g0, .slice h0 i0 j0, .slice k0 l0 m0, .slice n0 o0 p0, I q0, I r0, .slice s0 t0 u0, .slice v0 w0 x0, I 0, .slice none 0 0, I 0] Try.sizeOf58 ?_
 intro _ u3
 try dsimp only [List.set, List.eraseIdx, Value.cells] at u3
 refine nT <| sR <| pu1 ?_
 have v3 := ((u3.pick 2 rfl).pick 1 rfl)
 try dsimp only [List.set, List.eraseIdx, Value.cells] at v3
 refine sF #[Pt p 0] Try.call53 (Calls.mono (rdr_number W _ _ _ _ _ _ _ a6 v3) ?_)
 rintro _ _ ⟨y0, _, _, rfl, b6, _, _, c6, w3⟩
 refine ⟨_, rfl, ?_⟩
 try dsimp only [List.set, List.eraseIdx, Value.cells] at w3
 refine pu1 ?_
 refine sT1 w3 7 15 (I y0) #[I a0, I b0, I c0, .bool bar, I d0, I e0, I f0, I g0, .slice h0 i0 j0, .slice k0 l0 m0, .slice n0 o0 p0, I q0, I r0, .slice s0 t0 u0, .slice v0 w0 x0, I y0, .slice none 0 0, I 0] Try.sizeOf3 ?_
 intro _ x3
 try dsimp only [List.set, List.eraseIdx, Value.cells] at x3
 refine nT <| sR <| pu1 ?_
 have y3 := ((x3.pick 1 rfl).pick 1 rfl)
 try dsimp only [List.set, List.eraseIdx, Value.cells] at y3
 refine sF #[Pt p 0] Try.call66 (Calls.mono (rdr_ops W _ _ _ _ _ _ _ c6 y3) ?_)
 rintro _ _ ⟨z0, a1, b1, d6, z3, _, _, rfl, e6, f6, _, g6, a4⟩
 refine ⟨_, rfl, ?_⟩
 try dsimp only [List.set, List.eraseIdx, Value.cells] at a4
 refine pu1 ?_
 refine sT1 a4 8 16 (.slice z0 a1 b1) #[I a0, I b0, I c0, .bool bar, I d0, I e0, I f0, I g0, .slice h0 i0 j0, .slice k0 l0 m0, .slice n0 o0 p0, I q0, I r0, .slice s0 t0 u0, .slice v0 w0 x0, I y0, .slice z0 a1 b1, I 0] Try.sizeOf59 ?_
 intro _ b4
 try dsimp only [List.set, List.eraseIdx, Value.cells] at b4
 refine nT <| sR <| pu1 ?_
 have c4 := ((b4.pick 2 rfl).pick 1 rfl)
 try dsimp only [List.set, List.eraseIdx, Value.cells] at c4
 refine sF #[Pt p 0] Try.call53 (Calls.mono (rdr_number W _ _ _ _ _ _ _ g6 c4) ?_)
 rintro _ _ ⟨c1, _, _, rfl, h6, _, d4, i6, e4⟩
 refine ⟨_, rfl, ?_⟩
 try dsimp only [List.set, List.eraseIdx, Value.cells] at e4
 refine pu1 ?_
 refine sT1 e4 8 17 (I c1) #[I a0, I b0, I c0, .bool bar, I d0, I e0, I f0, I g0, .slice h0 i0 j0, .slice k0 l0 m0, .slice n0 o0 p0, I q0, I r0, .slice s0 t0 u0, .slice v0 w0 x0, I y0, .slice z0 a1 b1, I c1] Try.sizeOf3 ?_
 intro _ l1
 try dsimp only [List.set, List.eraseIdx, Value.cells] at l1
 refine nT <| sR ?_
 refine sLA l1 8 0 [I a0, I b0, I c0, .bool bar, I d0, I e0, I f0, I g0, .slice h0 i0 j0, .slice k0 l0 m0, .slice n0 o0 p0, I q0, I r0, .slice s0 t0 u0, .slice v0 w0 x0, I y0, .slice z0 a1 b1, I c1] (Try.isAgg61 _) (Try.sizeOf61 _) ?_
 refine sTw l1 9 [I a0, I b0, I c0, .bool bar, I d0, I e0, I f0, I g0, .slice h0 i0 j0, .slice k0 l0 m0, .slice n0 o0 p0, I q0, I r0, .slice s0 t0 u0, .slice v0 w0 x0, I y0, .slice z0 a1 b1, I c1] Try.sizeOf61 ?_
 intro _ m1
 try dsimp only [List.set, List.eraseIdx, Value.cells] at m1
 refine nT <| retE <| retN (vs := [.agg #[I a0, I b0, I c0, .bool bar, I d0, I e0, I f0, I g0, .slice h0 i0 j0, .slice k0 l0 m0, .slice n0 o0 p0, I q0, I r0, .slice s0 t0 u0, .slice v0 w0 x0, I y0, .slice z0 a1 b1, I c1]]) rfl (.cons (.cell _ _ _ _ kr (lvA m1 9 0 [I a0, I b0, I c0, .bool bar, I d0, I e0, I f0, I g0, .slice h0 i0 j0, .slice k0 l0 m0, .slice n0 o0 p0, I q0, I r0, .slice s0 t0 u0, .slice v0 w0 x0, I y0, .slice z0 a1 b1, I c1] (Try.isAgg61 _) (Try.sizeOf61 _) rfl rfl rfl)) .nil) ?_
 have f4 := ((((((((((m1.pick 1 rfl).pick 2 rfl).pick 3 rfl).pick 4 rfl).pick 5 rfl).pick 6 rfl).pick 7 rfl).pick 7 rfl).dropAt 8 rfl).dropAt 8 rfl)
 change Sat _ _ (d4 :: w2 :: a3 :: e3 :: o3 :: s3 :: z3 :: H :: F) at f4
 have j6 := (Sat.perm (cs' := d4 :: (w2 ++ a3 ++ e3 ++ o3 ++ s3 ++ z3) :: H :: F) f4 (by simp))
 have hgot := Got.stage i4 k4 o4 hGb t4 v4 x4 z4 d5 h5 l5 n5 p5 u5 z5 b6 f6 h6
 exact ⟨(⟨a0, b0, c0, bar, d0, e0, f0, g0, ⟨h0, i0, j0, b5⟩, ⟨k0, l0, m0, f5⟩, ⟨n0, o0, p0, j5⟩, q0, r0, ⟨s0, t0, u0, r5⟩, ⟨v0, w0, x0, w5⟩, y0, ⟨z0, a1, b1, d6⟩, c1⟩ : Stage), _, _, _, rfl, ⟨c5.of_mem mS, g5.of_mem mS, k5.of_mem mS, s5.of_mem mS, (fun z hz => (t5 z hz).of_mem mS), x5.of_mem mS, (fun z hz => (y5 z hz).of_mem mS), e6.of_mem mS⟩, hgot, _, i6, j6⟩
theorem rdr_job (W w : World) (p : Nat) (H fp : Chunk) (F : List Chunk) (r : List Int) (b : Bool) (hI : RdrR 84 H p r b fp) (hS : Sat W w (fp :: H :: F)) :
  Calls Try.prog 39 #[Pt p 0] w fun e w' => ∃ (q : Job) (G : Chunk) (r' : List Int) (b' : Bool), e = .returned (.agg (encJob q).toArray) ∧ Job.Ok [G] q ∧ Got nJob wfJob r b q.v r' b' ∧ ∃ fp' : Chunk, RdrR 84 H p r' b' fp' ∧ Sat W w' (fp' :: G :: H :: F) := by
 refine callsE (n := 45) Try.func39 rfl rfl (Nat.le_of_ble_eq_true rfl) ?_
 refine sR ?_
 refine sAlloc hS Try.zeroValue28 ?_
 intro c0 _ f3
 refine nT <| sR ?_
 refine sAlloc f3 Try.zeroValue28 ?_
 intro b0 _ g3
 refine nT <| sR <| pu1 ?_
 have r1 := ((g3.pick 3 rfl).pick 3 rfl)
 try dsimp only [List.set, List.eraseIdx, Value.cells] at r1
 refine sF #[Pt p 0] Try.call53 (Calls.mono (rdr_number W _ _ _ _ _ _ _ hI r1) ?_)
 rintro _ _ ⟨a0, h3, i3, rfl, a1, _, _, j3, s1⟩
 refine ⟨_, rfl, ?_⟩
 try dsimp only [List.set, List.eraseIdx, Value.cells] at s1
 refine pu1 ?_
 refine sT1 s1 2 3 (I a0) #[.slice none 0 0, .slice none 0 0, .slice none 0 0, I a0] Try.sizeOf3 ?_
 intro _ t1
 try dsimp only [List.set, List.eraseIdx, Value.cells] at t1
 refine nT ?_
 refine cutE (fun ρ w => ∃ (xsAc : List Plane) (aAc : Option Addr) (nAc : Nat) (kAc : Nat) (GAc : Chunk) (rAc : List Int) (bAc : Bool) (fpAc : Chunk), AllAt ρ [(0, Pt p 0), (2, Pt c0 0), (3, Pt b0 0), (4, Pt p 0), (6, Pt b0 3)] ∧ Sat W w (GAc :: fpAc :: H :: [(b0, .cells #[.slice aAc nAc kAc, .slice none 0 0, .slice none 0 0, I a0] 28 (0, 0))] :: [(c0, .cells #[.slice none 0 0, .slice none 0 0, .slice none 0 0, I 0] 28 (0, 0))] :: F) ∧ Got (encL nPlane) (wfL wfPlane) h3 i3 (xsAc.map Plane.v) rAc bAc ∧ RdrR 84 H p rAc bAc fpAc ∧ RdT encPlane 4 [GAc] aAc nAc kAc xsAc ∧ (∀ z ∈ xsAc, Plane.Ok [GAc] z)) ?_ ?_
 ·refine sR <| pu1 ?_
  have u1 := ((t1.pick 1 rfl).pick 1 rfl)
  try dsimp only [List.set, List.eraseIdx, Value.cells] at u1
  refine sF #[Pt p 0, I 4] Try.call54 (Calls.mono (rdr_count_4 W _ _ _ _ _ _ _ j3 u1) ?_)
  rintro _ _ ⟨d0, o0, b1, rfl, c1, k3, v1, w1⟩
  refine ⟨_, rfl, ?_⟩
  have hrng_v_22 := c1.rng; have hcap_v_22 := (by obtain ⟨_, _, _, _, _, _, h⟩ := v1; exact h : o0.length ≤ 262144)
  try dsimp only [List.set, List.eraseIdx, Value.cells] at w1
  refine pu1 <| nT <| blockE ?_
  have l3 := Sat.nilc w1
  have m3 := OwnT.nil (enc := encPlane) (E := 49) (sz := 4) fR
  have x1 := Sat.nilc l3
  try dsimp only [List.set, List.eraseIdx, Value.cells] at x1
  refine loopE (γ := Nat × (List Plane) × (Option Addr) × Nat × Nat × Chunk × Chunk × (List Int) × Bool × Chunk) (fun ⟨iA, xsA, aA, nA, kA, cA, GA, rA, bA, fpA⟩ ρ w => AllAt ρ [(0, Pt p 0), (2, Pt c0 0), (3, Pt b0 0), (4, Pt p 0), (5, I a0), (6, Pt b0 3), (7, Pt p 0), (8, I d0), (9, I ((iA : Nat) : Int))] ∧ Sat W w (GA :: cA :: fpA :: H :: [(b0, .cells #[.slice aA nA kA, .slice none 0 0, .slice none 0 0, I a0] 28 (0, 0))] :: [(c0, .cells #[.slice none 0 0, .slice none 0 0, .slice none 0 0, I 0] 28 (0, 0))] :: F) ∧ (iA : Int) ≤ d0 ∧ Got (encF nPlane) (wfN wfPlane iA) o0 b1 (xsA.map Plane.v) rA bA ∧ RdrR 84 H p rA bA fpA ∧ OwnT encPlane 49 4 aA nA kA xsA cA ∧ nA = iA ∧ (∀ z ∈ xsA, Plane.Ok [GA] z)) (fun ⟨iA, xsA, aA, nA, kA, cA, GA, rA, bA, fpA⟩ => d0.toNat - iA) (0, [], none, 0, 0, [], [], o0, b1, k3) ⟨alA, x1, om, Got.none _ _, v1, m3, rfl, (by intro z hz; cases hz)⟩ ?_
  skip
  rintro ⟨iA, xsA, aA, nA, kA, cA, GA, rA, bA, fpA⟩ ρ _ ⟨hA, d1, hiA, hGA, hIA, hOA, hnA, hDA⟩
  refine cAnchor hA (fun ρ => ?_)
  clear hA
  refine sR <| pu1 <| nT <| seqE ?_
  by_cases y1 : (((iA : Nat) : Int) : Int) < d0
  rotate_left
  ·refine cF _ (decide_eq_false y1) ?_
   refine exitE (xB <| ?_)
   refine thenK_n ?_
   have z1 := ((((((d1.pick 5 rfl).pick 5 rfl).pick 5 rfl).pick 5 rfl).pick 5 rfl).pick 5 rfl)
   try dsimp only [List.set, List.eraseIdx, Value.cells] at z1
   have n3 : Sat W _ ((GA ++ cA) :: (fpA :: H :: [(b0, .cells #[.slice aA nA kA, .slice none 0 0, .slice none 0 0, I a0] 28 (0, 0))] :: [(c0, .cells #[.slice none 0 0, .slice none 0 0, .slice none 0 0, I 0] 28 (0, 0))] :: F)) := Sat.perm z1 (by simp)
   have hZ : Got (encF nPlane) (wfN wfPlane d0.toNat) o0 b1 (xsA.map Plane.v) rA bA := by rw [show d0.toNat = iA from by omega]; exact hGA
   exact ⟨xsA, aA, nA, kA, (GA ++ cA), rA, bA, fpA, alA, n3, Got.list nPlane_ge c1 hZ, hIA, (hOA.rd (fun p hp => by simp [hp])), (fun z hz => (hDA z hz).of_mem mS)⟩
  refine cT _ (decide_eq_true y1) ?_
  refine kT <| seqE <| blockE <| seqE ?_
  refine drawE [3, 4, 5, 7] [(1, ⟨b0, 0, none⟩, .slice aA nA kA)] [(true, [0, 2]), (true, [1]), (false, [3]), (false, [4]), (false, [5]), (true, [6]), (false, [7])] rfl kr ⟨.inr (d1.cell 4 rfl rfl), trivial⟩ ?_
  have o3 := d1.drew
  refine wU [0, 2] ?_
  refine wS (.slice aA nA kA) rfl rfl rfl (fun w hF => Y_load rfl (Try.isAgg25 w) kr (hF 0 _ _ rfl)) ?_
  refine wO rfl ?_
  have a2 := ((o3.pick 3 rfl).pick 3 rfl)
  try dsimp only [List.set, List.eraseIdx, Value.cells] at a2
  refine sF #[Pt p 0] Try.call55 (Calls.mono (rdr_plane W _ _ _ _ _ _ _ hIA a2) ?_)
  rintro _ _ ⟨p0, e1, f1, b2, rfl, p3, c2, _, q3, g1⟩
  refine ⟨_, rfl, ?_⟩
  try dsimp only [List.set, List.eraseIdx, Value.cells] at g1
  refine nilO ⟨⟨.inr (g1.cell 5 rfl rfl), trivial⟩, ?_⟩
  refine wO rfl ?_
  refine sBS g1 (encPlane p0).toArray Try.runUnderlying25 Try.sizeOf49 Try.zeroValue49 ?_
  intro _ _ d2
  refine nilO ⟨⟨.inr (d2.cell 6 rfl rfl), trivial⟩, ?_⟩
  refine wO rfl ?_
  refine sApp (nb := 48) d2 hOA 5 (RdT.blk (enc := encPlane) (sz := 4) (xs := [p0]) fR 1 0 rfl rfl rfl om) Try.underlying25 (i := Try.t49) kr fR ?_
  intro q0 r0 e2 _ r3 f2
  try dsimp only [List.set, List.eraseIdx, Value.cells] at f2
  refine nilO ⟨dA, ?_⟩
  refine wU [6] ?_
  refine wO rfl ?_
  refine sT1 f2 6 0 (.slice q0 (nA + 1) r0) #[.slice q0 (nA + 1) r0, .slice none 0 0, .slice none 0 0, I a0] Try.sizeOf25 ?_
  intro _ g2
  try dsimp only [List.set, List.eraseIdx, Value.cells] at g2
  refine nilO ⟨dA, ?_⟩
  refine wN ?_
  refine thenK_n <| seqE ?_
  have s0 := (g2.pick 1 rfl)
  try dsimp only [List.set, List.eraseIdx, Value.cells] at s0
  obtain ⟨i0, j0, k0, rfl, t0, h2⟩ := q3
  have hll_a_57 := t0.len; have hle_a_57 := t0.le
  refine regionE <| pu3 ?_
  refine sL s0 0 1 (.bool b2) (Try.isAgg4 _) ?_
  refine nT ?_
  cases b2
  ·refine cFf <| skipE <| blockK_n <| thenK_n <| regionE ?_
   refine sAdd ((iA : Nat) : Int) 1 ?_
   refine pu1 <| nT ?_
   have s3 : RdrR 84 H p f1 false [(p, .cells #[.slice i0 j0 k0, .bool false] 84 (0, 0))] := ⟨_, _, _, rfl, t0, h2⟩
   have hX := hGA.snoc pfPlane c2
   have i2 := ((((((((s0.pick 7 rfl).pick 7 rfl).pick 5 rfl).pick 3 rfl).pick 7 rfl).pick 7 rfl).pick 7 rfl).dropAt 7 rfl)
   try dsimp only [List.set, List.eraseIdx, Value.cells] at i2
   have t3 := (Sat.perm (cs' := (e1 ++ GA) :: (e2 :: [(p, .cells #[.slice i0 j0 k0, .bool false] 84 (0, 0))] :: H :: [(b0, .cells #[.slice q0 (nA + 1) r0, .slice none 0 0, .slice none 0 0, I a0] 28 (0, 0))] :: [(c0, .cells #[.slice none 0 0, .slice none 0 0, .slice none 0 0, I 0] 28 (0, 0))] :: F)) i2 (by simp))
   have hD2 : ∀ z ∈ xsA ++ [p0], Plane.Ok [(e1 ++ GA)] z := by
    intro z hz
    rcases List.mem_append.1 hz with h | h
    ·exact (hDA z h).of_mem mS
    ·simp only [List.mem_singleton] at h; subst h; exact p3.of_mem mS
   exact ⟨(iA + 1, (xsA ++ [p0]), q0, (nA + 1), r0, e2, (e1 ++ GA), f1, false, [(p, .cells #[.slice i0 j0 k0, .bool false] 84 (0, 0))]), by dsimp only; omega, alA, t3, om, by first | simpa [Plane.v] using hX | simpa using hX, s3, r3, om, hD2⟩
  refine cTt <| sR <| pu1 ?_
  refine sTw s0 7 [.slice none 0 0, .slice none 0 0, .slice none 0 0, I 0] Try.sizeOf28 ?_
  intro _ h1
  try dsimp only [List.set, List.eraseIdx, Value.cells] at h1
  refine nT ?_
  refine retE (blockK_r <| thenK_r <| tR <| thenK_r <| ?_)
  refine retN (vs := [.agg #[.slice none 0 0, .slice none 0 0, .slice none 0 0, I 0]]) rfl (.cons (.cell _ _ _ _ kr (lvA h1 7 0 [.slice none 0 0, .slice none 0 0, .slice none 0 0, I 0] (Try.isAgg28 _) (Try.sizeOf28 _) rfl rfl rfl)) .nil) ?_
  have u3 : RdrR 84 H p f1 true [(p, .cells #[.slice i0 j0 k0, .bool true] 84 (0, 0))] := ⟨_, _, _, rfl, t0, h2⟩
  have hX := hGA.snoc pfPlane c2
  have j2 := ((((((((h1.pick 3 rfl).pick 1 rfl).dropAt 2 rfl).dropAt 2 rfl).dropAt 2 rfl).dropAt 2 rfl).dropAt 2 rfl).dropAt 2 rfl)
  change Sat _ _ ([(p, .cells #[.slice i0 j0 k0, .bool true] 84 (0, 0))] :: H :: F) at j2
  have hZ := Got.list nPlane_ge c1 (hX.stop (n := d0.toNat) om [])
  have v3 : Sat W _ ([(p, .cells #[.slice i0 j0 k0, .bool true] 84 (0, 0))] :: [] :: H :: F) := Sat.perm j2 (by simp)
  have hgot := Got.job a1 hZ (Got.dead _ []) (Got.dead _ [])
  exact ⟨(⟨⟨none, 0, 0, []⟩, ⟨none, 0, 0, []⟩, ⟨none, 0, 0, []⟩, 0⟩ : Job), [], _, true, rfl, ⟨RdT.nil (enc := encPlane) (sz := 4) fR _, (fun z hz => by cases hz), RdT.nil (enc := encStage) (sz := 18) fR _, (fun z hz => by cases hz), RdT.nil (enc := encI) (sz := 1) fR _⟩, hgot.any _, _, u3, v3⟩
 rintro ρ _ ⟨xsAc, aAc, nAc, kAc, GAc, rAc, bAc, fpAc, hA, w3, hLAc, hIAc, hRAc, hDAc⟩
 refine cAnchor hA (fun ρ => ?_)
 clear hA
 refine cutE (fun ρ w => ∃ (xsBc : List Stage) (aBc : Option Addr) (nBc : Nat) (kBc : Nat) (GBc : Chunk) (rBc : List Int) (bBc : Bool) (fpBc : Chunk), AllAt ρ [(0, Pt p 0), (2, Pt c0 0), (3, Pt b0 0), (4, Pt p 0), (6, Pt b0 3)] ∧ Sat W w (GBc :: GAc :: fpBc :: H :: [(b0, .cells #[.slice aAc nAc kAc, .slice aBc nBc kBc, .slice none 0 0, I a0] 28 (0, 0))] :: [(c0, .cells #[.slice none 0 0, .slice none 0 0, .slice none 0 0, I 0] 28 (0, 0))] :: F) ∧ Got (encL nStage) (wfL wfStage) rAc bAc (xsBc.map Stage.v) rBc bBc ∧ RdrR 84 H p rBc bBc fpBc ∧ RdT encStage 18 [GBc] aBc nBc kBc xsBc ∧ (∀ z ∈ xsBc, Stage.Ok [GBc] z)) ?_ ?_
 rotate_left
 ·rintro ρ _ ⟨xsBc, aBc, nBc, kBc, GBc, rBc, bBc, fpBc, hA, x3, hLBc, hIBc, hRBc, hDBc⟩
  refine cAnchor hA (fun ρ => ?_)
  clear hA
  refine sR <| pu1 ?_
  have k2 := ((x3.pick 3 rfl).pick 3 rfl)
  try dsimp only [List.set, List.eraseIdx, Value.cells] at k2
  refine sF #[Pt p 0] Try.call57 (Calls.mono (rdr_numbers W _ _ _ _ _ _ _ hIBc k2) ?_)
  rintro _ _ ⟨e0, f0, g0, y3, l2, _, _, rfl, z3, a4, m2, b4, n2⟩
  refine ⟨_, rfl, ?_⟩
  try dsimp only [List.set, List.eraseIdx, Value.cells] at n2
  refine pu1 ?_
  refine sT1 n2 5 2 (.slice e0 f0 g0) #[.slice aAc nAc kAc, .slice aBc nBc kBc, .slice e0 f0 g0, I a0] Try.sizeOf22 ?_
  intro _ i1
  try dsimp only [List.set, List.eraseIdx, Value.cells] at i1
  refine nT <| sR ?_
  refine sLA i1 5 0 [.slice aAc nAc kAc, .slice aBc nBc kBc, .slice e0 f0 g0, I a0] (Try.isAgg28 _) (Try.sizeOf28 _) ?_
  refine sTw i1 6 [.slice aAc nAc kAc, .slice aBc nBc kBc, .slice e0 f0 g0, I a0] Try.sizeOf28 ?_
  intro _ j1
  try dsimp only [List.set, List.eraseIdx, Value.cells] at j1
  refine nT <| retE <| retN (vs := [.agg #[.slice aAc nAc kAc, .slice aBc nBc kBc, .slice e0 f0 g0, I a0]]) rfl (.cons (.cell _ _ _ _ kr (lvA j1 6 0 [.slice aAc nAc kAc, .slice aBc nBc kBc, .slice e0 f0 g0, I a0] (Try.isAgg28 _) (Try.sizeOf28 _) rfl rfl rfl)) .nil) ?_
  have o2 := (((((((j1.pick 2 rfl).pick 2 rfl).pick 3 rfl).pick 4 rfl).pick 4 rfl).dropAt 5 rfl).dropAt 5 rfl)
  change Sat _ _ (m2 :: GAc :: GBc :: l2 :: H :: F) at o2
  have c4 := (Sat.perm (cs' := m2 :: (GAc ++ GBc ++ l2) :: H :: F) o2 (by simp))
  have hgot := Got.job a1 hLAc hLBc a4
  exact ⟨(⟨⟨aAc, nAc, kAc, xsAc⟩, ⟨aBc, nBc, kBc, xsBc⟩, ⟨e0, f0, g0, y3⟩, a0⟩ : Job), _, _, _, rfl, ⟨hRAc.of_mem mS, (fun z hz => (hDAc z hz).of_mem mS), hRBc.of_mem mS, (fun z hz => (hDBc z hz).of_mem mS), z3.of_mem mS⟩, hgot, _, b4, c4⟩
 refine sR <| pu1 ?_
 have p2 := ((w3.pick 2 rfl).pick 2 rfl)
 try dsimp only [List.set, List.eraseIdx, Value.cells] at p2
 refine sF #[Pt p 0, I 18] Try.call54 (Calls.mono (rdr_count_18 W _ _ _ _ _ _ _ hIAc p2) ?_)
 rintro _ _ ⟨h0, u0, k1, rfl, l1, d4, q2, r2⟩
 refine ⟨_, rfl, ?_⟩
 have hrng_v_78 := l1.rng; have hcap_v_78 := (by obtain ⟨_, _, _, _, _, _, h⟩ := q2; exact h : u0.length ≤ 262144)
 try dsimp only [List.set, List.eraseIdx, Value.cells] at r2
 refine pu1 <| nT <| blockE ?_
 have e4 := Sat.nilc r2
 have f4 := OwnT.nil (enc := encStage) (E := 61) (sz := 18) fR
 have s2 := Sat.nilc e4
 try dsimp only [List.set, List.eraseIdx, Value.cells] at s2
 refine loopE (γ := Nat × (List Stage) × (Option Addr) × Nat × Nat × Chunk × Chunk × (List Int) × Bool × Chunk) (fun ⟨iB, xsB, aB, nB, kB, cB, GB, rB, bB, fpB⟩ ρ w => AllAt ρ [(0, Pt p 0), (2, Pt c0 0), (3, Pt b0 0), (4, Pt p 0), (6, Pt b0 3), (24, Pt p 0), (25, I h0), (26, I ((iB : Nat) : Int))] ∧ Sat W w (GB :: cB :: fpB :: H :: GAc :: [(b0, .cells #[.slice aAc nAc kAc, .slice aB nB kB, .slice none 0 0, I a0] 28 (0, 0))] :: [(c0, .cells #[.slice none 0 0, .slice none 0 0, .slice none 0 0, I 0] 28 (0, 0))] :: F) ∧ (iB : Int) ≤ h0 ∧ Got (encF nStage) (wfN wfStage iB) u0 k1 (xsB.map Stage.v) rB bB ∧ RdrR 84 H p rB bB fpB ∧ OwnT encStage 61 18 aB nB kB xsB cB ∧ nB = iB ∧ (∀ z ∈ xsB, Stage.Ok [GB] z)) (fun ⟨iB, xsB, aB, nB, kB, cB, GB, rB, bB, fpB⟩ => h0.toNat - iB) (0, [], none, 0, 0, [], [], u0, k1, d4) ⟨alA, s2, om, Got.none _ _, q2, f4, rfl, (by intro z hz; cases hz)⟩ ?_
 skip
 rintro ⟨iB, xsB, aB, nB, kB, cB, GB, rB, bB, fpB⟩ ρ _ ⟨hA, m1, hiB, hGB, hIB, hOB, hnB, hDB⟩
 refine cAnchor hA (fun ρ => ?_)
 clear hA
 refine sR <| pu1 <| nT <| seqE ?_
 by_cases t2 : (((iB : Nat) : Int) : Int) < h0
 rotate_left
 ·refine cF _ (decide_eq_false t2) ?_
  refine exitE (xB <| ?_)
  refine thenK_n ?_
  have u2 := (((((((m1.pick 6 rfl).pick 6 rfl).pick 5 rfl).pick 5 rfl).pick 6 rfl).pick 6 rfl).pick 6 rfl)
  try dsimp only [List.set, List.eraseIdx, Value.cells] at u2
  have g4 : Sat W _ ((GB ++ cB) :: (GAc :: fpB :: H :: [(b0, .cells #[.slice aAc nAc kAc, .slice aB nB kB, .slice none 0 0, I a0] 28 (0, 0))] :: [(c0, .cells #[.slice none 0 0, .slice none 0 0, .slice none 0 0, I 0] 28 (0, 0))] :: F)) := Sat.perm u2 (by simp)
  have hZ : Got (encF nStage) (wfN wfStage h0.toNat) u0 k1 (xsB.map Stage.v) rB bB := by rw [show h0.toNat = iB from by omega]; exact hGB
  exact ⟨xsB, aB, nB, kB, (GB ++ cB), rB, bB, fpB, alA, g4, Got.list nStage_ge l1 hZ, hIB, (hOB.rd (fun p hp => by simp [hp])), (fun z hz => (hDB z hz).of_mem mS)⟩
 refine cT _ (decide_eq_true t2) ?_
 refine kT <| seqE <| blockE <| seqE ?_
 refine drawE [3, 4, 5, 7] [(1, ⟨b0, 1, none⟩, .slice aB nB kB)] [(true, [0, 2]), (true, [1]), (false, [3]), (false, [4]), (false, [5]), (true, [6]), (false, [7])] rfl kr ⟨.inr (m1.cell 5 rfl rfl), trivial⟩ ?_
 have h4 := m1.drew
 refine wU [0, 2] ?_
 refine wS (.slice aB nB kB) rfl rfl rfl (fun w hF => Y_load rfl (Try.isAgg26 w) kr (hF 0 _ _ rfl)) ?_
 refine wO rfl ?_
 have v2 := ((h4.pick 3 rfl).pick 3 rfl)
 try dsimp only [List.set, List.eraseIdx, Value.cells] at v2
 refine sF #[Pt p 0] Try.call56 (Calls.mono (rdr_stage W _ _ _ _ _ _ _ hIB v2) ?_)
 rintro _ _ ⟨v0, n1, o1, w2, rfl, i4, x2, _, j4, p1⟩
 refine ⟨_, rfl, ?_⟩
 try dsimp only [List.set, List.eraseIdx, Value.cells] at p1
 refine nilO ⟨⟨.inr (p1.cell 6 rfl rfl), trivial⟩, ?_⟩
 refine wO rfl ?_
 refine sBS p1 (encStage v0).toArray Try.runUnderlying26 Try.sizeOf61 Try.zeroValue61 ?_
 intro _ _ y2
 refine nilO ⟨⟨.inr (y2.cell 7 rfl rfl), trivial⟩, ?_⟩
 refine wO rfl ?_
 refine sApp (nb := 240) y2 hOB 5 (RdT.blk (enc := encStage) (sz := 18) (xs := [v0]) fR 1 0 rfl rfl rfl om) Try.underlying26 (i := Try.t61) kr fR ?_
 intro w0 x0 z2 _ k4 a3
 try dsimp only [List.set, List.eraseIdx, Value.cells] at a3
 refine nilO ⟨dA, ?_⟩
 refine wU [6] ?_
 refine wO rfl ?_
 refine sT1 a3 7 1 (.slice w0 (nB + 1) x0) #[.slice aAc nAc kAc, .slice w0 (nB + 1) x0, .slice none 0 0, I a0] Try.sizeOf26 ?_
 intro _ b3
 try dsimp only [List.set, List.eraseIdx, Value.cells] at b3
 refine nilO ⟨dA, ?_⟩
 refine wN ?_
 refine thenK_n <| seqE ?_
 have y0 := (b3.pick 1 rfl)
 try dsimp only [List.set, List.eraseIdx, Value.cells] at y0
 obtain ⟨l0, m0, n0, rfl, z0, c3⟩ := j4
 have hll_a_113 := z0.len; have hle_a_113 := z0.le
 refine regionE <| pu3 ?_
 refine sL y0 0 1 (.bool w2) (Try.isAgg4 _) ?_
 refine nT ?_
 cases w2
 ·refine cFf <| skipE <| blockK_n <| thenK_n <| regionE ?_
  refine sAdd ((iB : Nat) : Int) 1 ?_
  refine pu1 <| nT ?_
  have l4 : RdrR 84 H p o1 false [(p, .cells #[.slice l0 m0 n0, .bool false] 84 (0, 0))] := ⟨_, _, _, rfl, z0, c3⟩
  have hX := hGB.snoc pfStage x2
  have d3 := (((((((((y0.pick 8 rfl).pick 8 rfl).pick 8 rfl).pick 6 rfl).pick 4 rfl).pick 8 rfl).pick 8 rfl).pick 8 rfl).dropAt 8 rfl)
  try dsimp only [List.set, List.eraseIdx, Value.cells] at d3
  have m4 := (Sat.perm (cs' := (n1 ++ GB) :: (z2 :: [(p, .cells #[.slice l0 m0 n0, .bool false] 84 (0, 0))] :: H :: GAc :: [(b0, .cells #[.slice aAc nAc kAc, .slice w0 (nB + 1) x0, .slice none 0 0, I a0] 28 (0, 0))] :: [(c0, .cells #[.slice none 0 0, .slice none 0 0, .slice none 0 0, I 0] 28 (0, 0))] :: F)) d3 (by simp))
  have hD2 : ∀ z ∈ xsB ++ [v0], Stage.Ok [(n1 ++ GB)] z := by
   intro z hz
   rcases List.mem_append.1 hz with h | h
   ·exact (hDB z h).of_mem mS
   ·simp only [List.mem_singleton] at h; subst h; exact i4.of_mem mS
  exact ⟨(iB + 1, (xsB ++ [v0]), w0, (nB + 1), x0, z2, (n1 ++ GB), o1, false, [(p, .cells #[.slice l0 m0 n0, .bool false] 84 (0, 0))]), by dsimp only; omega, alA, m4, om, by first | simpa [Stage.v] using hX | simpa using hX, l4, k4, om, hD2⟩
 refine cTt <| sR <| pu1 ?_
 refine sTw y0 8 [.slice none 0 0, .slice none 0 0, .slice none 0 0, I 0] Try.sizeOf28 ?_
 intro _ q1
 try dsimp only [List.set, List.eraseIdx, Value.cells] at q1
 refine nT ?_
 refine retE (blockK_r <| thenK_r <| tR <| thenK_r <| ?_)
 refine retN (vs := [.agg #[.slice none 0 0, .slice none 0 0, .slice none 0 0, I 0]]) rfl (.cons (.cell _ _ _ _ kr (lvA q1 8 0 [.slice none 0 0, .slice none 0 0, .slice none 0 0, I 0] (Try.isAgg28 _) (Try.sizeOf28 _) rfl rfl rfl)) .nil) ?_
 have n4 : RdrR 84 H p o1 true [(p, .cells #[.slice l0 m0 n0, .bool true] 84 (0, 0))] := ⟨_, _, _, rfl, z0, c3⟩
 have hX := hGB.snoc pfStage x2
 have e3 := (((((((((q1.pick 3 rfl).pick 1 rfl).dropAt 2 rfl).dropAt 2 rfl).dropAt 2 rfl).dropAt 2 rfl).dropAt 2 rfl).dropAt 2 rfl).dropAt 2 rfl)
 change Sat _ _ ([(p, .cells #[.slice l0 m0 n0, .bool true] 84 (0, 0))] :: H :: F) at e3
 have hZ := Got.list nStage_ge l1 (hX.stop (n := h0.toNat) om [])
 have o4 : Sat W _ ([(p, .cells #[.slice l0 m0 n0, .bool true] 84 (0, 0))] :: [] :: H :: F) := Sat.perm e3 (by simp)
 have hgot := Got.job a1 hLAc hZ (Got.dead _ [])
 exact ⟨(⟨⟨none, 0, 0, []⟩, ⟨none, 0, 0, []⟩, ⟨none, 0, 0, []⟩, 0⟩ : Job), [], _, true, rfl, ⟨RdT.nil (enc := encPlane) (sz := 4) fR _, (fun z hz => by cases hz), RdT.nil (enc := encStage) (sz := 18) fR _, (fun z hz => by cases hz), RdT.nil (enc := encI) (sz := 1) fR _⟩, hgot.any _, _, n4, o4⟩
theorem codec_decode (W w : World) (H : Chunk) (F : List Chunk) (a : Option Addr) (n k : Nat) (x : List Int) (hx : RdT encB 1 [H] a n k x) (hB : Bytes x) (hS : Sat W w (H :: F)) :
  Calls Try.prog 17 #[.slice a n k] w fun e w' => ∃ (q : Job) (G : Chunk) (c : Int), e = .returned (.tuple #[.agg (encJob q).toArray, I c]) ∧ Job.Ok [G] q ∧ DecR x q.v c ∧ Sat W w' (G :: H :: F) := by
 have hle := hx.le; have hll := hx.len
 refine callsE (n := 52) Try.func17 rfl rfl (Nat.le_of_ble_eq_true rfl) ?_
 refine sR ?_
 refine sAlloc hS Try.zeroValue28 ?_
 intro _ _ b0
 refine pu1 <| nT <| seqE <| sR <| pu3 <| nT ?_
 by_cases v0 : (((n : Nat) : Int) : Int) > 262144
 ·refine cT _ (decide_eq_true v0) ?_
  refine sR <| pu1 ?_
  refine sTw b0 0 [.slice none 0 0, .slice none 0 0, .slice none 0 0, I 0] Try.sizeOf28 ?_
  intro _ j0
  try dsimp only [List.set, List.eraseIdx, Value.cells] at j0
  refine pu1 <| nT ?_
  refine retE (thenK_r <| ?_)
  refine retN (vs := [.agg #[.slice none 0 0, .slice none 0 0, .slice none 0 0, I 0], I 5]) rfl (.cons (.cell _ _ _ _ kr (lvA j0 0 0 [.slice none 0 0, .slice none 0 0, .slice none 0 0, I 0] (Try.isAgg28 _) (Try.sizeOf28 _) rfl rfl rfl)) (.cons (.tmp _ _ kr) .nil)) ?_
  have w0 := ((j0.pick 1 rfl).dropAt 1 rfl)
  change Sat _ _ (H :: F) at w0
  have h2 : Sat W _ ([] :: H :: F) := Sat.nilc w0
  exact ⟨(⟨⟨none, 0, 0, []⟩, ⟨none, 0, 0, []⟩, ⟨none, 0, 0, []⟩, 0⟩ : Job), [], 5, rfl, ⟨RdT.nil (enc := encPlane) (sz := 4) fR _, (fun z hz => by cases hz), RdT.nil (enc := encStage) (sz := 18) fR _, (fun z hz => by cases hz), RdT.nil (enc := encI) (sz := 1) fR _⟩, DecR.big om, h2⟩
 refine cF _ (decide_eq_false v0) ?_
 refine kT <| seqE <| sR <| pu4 ?_
 by_cases x0 : (((n : Nat) : Int) : Int) < 3
 ·refine sFix 13 _ true (decide_eq_true x0) ?_
  refine pu16 <| pu1 <| nT <| cTt <| sR <| pu1 ?_
  refine sTw b0 0 [.slice none 0 0, .slice none 0 0, .slice none 0 0, I 0] Try.sizeOf28 ?_
  intro _ k0
  try dsimp only [List.set, List.eraseIdx, Value.cells] at k0
  refine pu1 <| nT ?_
  refine retE (thenK_r <| ?_)
  refine retN (vs := [.agg #[.slice none 0 0, .slice none 0 0, .slice none 0 0, I 0], I 4]) rfl (.cons (.cell _ _ _ _ kr (lvA k0 0 0 [.slice none 0 0, .slice none 0 0, .slice none 0 0, I 0] (Try.isAgg28 _) (Try.sizeOf28 _) rfl rfl rfl)) (.cons (.tmp _ _ kr) .nil)) ?_
  have y0 := ((k0.pick 1 rfl).dropAt 1 rfl)
  change Sat _ _ (H :: F) at y0
  have h2 : Sat W _ ([] :: H :: F) := Sat.nilc y0
  exact ⟨(⟨⟨none, 0, 0, []⟩, ⟨none, 0, 0, []⟩, ⟨none, 0, 0, []⟩, 0⟩ : Job), [], 4, rfl, ⟨RdT.nil (enc := encPlane) (sz := 4) fR _, (fun z hz => by cases hz), RdT.nil (enc := encStage) (sz := 18) fR _, (fun z hz => by cases hz), RdT.nil (enc := encI) (sz := 1) fR _⟩, DecR.head om (.inl om), h2⟩
 refine sFix 13 _ false (decide_eq_false x0) ?_
 refine pu1 <| gY ?_
 refine sIdx hx 0 Try.runUnderlying31 Try.sizeOf5 ?_
 intro l0 _ _ z0 q1
 refine gY ?_
 refine sLp b0 (q1.up 1 rfl) 0 (.int .u8 l0) (Try.isAgg5 _) ?_
 refine pu3 ?_
 by_cases a1 : (l0 : Int) = 84
 rotate_left
 ·refine sFix 19 _ true (bne_iff_ne.2 a1) ?_
  refine pu11 <| nT <| cTt <| sR <| pu1 ?_
  refine sTw b0 0 [.slice none 0 0, .slice none 0 0, .slice none 0 0, I 0] Try.sizeOf28 ?_
  intro _ m0
  try dsimp only [List.set, List.eraseIdx, Value.cells] at m0
  refine pu1 <| nT ?_
  refine retE (thenK_r <| ?_)
  refine retN (vs := [.agg #[.slice none 0 0, .slice none 0 0, .slice none 0 0, I 0], I 4]) rfl (.cons (.cell _ _ _ _ kr (lvA m0 0 0 [.slice none 0 0, .slice none 0 0, .slice none 0 0, I 0] (Try.isAgg28 _) (Try.sizeOf28 _) rfl rfl rfl)) (.cons (.tmp _ _ kr) .nil)) ?_
  have b1 := ((m0.pick 1 rfl).dropAt 1 rfl)
  change Sat _ _ (H :: F) at b1
  have h2 : Sat W _ ([] :: H :: F) := Sat.nilc b1
  exact ⟨(⟨⟨none, 0, 0, []⟩, ⟨none, 0, 0, []⟩, ⟨none, 0, 0, []⟩, 0⟩ : Job), [], 4, rfl, ⟨RdT.nil (enc := encPlane) (sz := 4) fR _, (fun z hz => by cases hz), RdT.nil (enc := encStage) (sz := 18) fR _, (fun z hz => by cases hz), RdT.nil (enc := encI) (sz := 1) fR _⟩, DecR.head om (.inr (.inl ⟨_, z0, om⟩)), h2⟩
 refine sFix 19 _ false (bne_eq_false_iff_eq.2 a1) ?_
 refine pu1 <| gY ?_
 refine sIdx hx 1 Try.runUnderlying31 Try.sizeOf5 ?_
 intro n0 _ _ c1 r1
 refine gY ?_
 refine sLp b0 (r1.up 1 rfl) 0 (.int .u8 n0) (Try.isAgg5 _) ?_
 refine pu3 ?_
 by_cases d1 : (n0 : Int) = 70
 rotate_left
 ·refine sFix 25 _ true (bne_iff_ne.2 d1) ?_
  refine pu5 <| nT <| cTt <| sR <| pu1 ?_
  refine sTw b0 0 [.slice none 0 0, .slice none 0 0, .slice none 0 0, I 0] Try.sizeOf28 ?_
  intro _ o0
  try dsimp only [List.set, List.eraseIdx, Value.cells] at o0
  refine pu1 <| nT ?_
  refine retE (thenK_r <| ?_)
  refine retN (vs := [.agg #[.slice none 0 0, .slice none 0 0, .slice none 0 0, I 0], I 4]) rfl (.cons (.cell _ _ _ _ kr (lvA o0 0 0 [.slice none 0 0, .slice none 0 0, .slice none 0 0, I 0] (Try.isAgg28 _) (Try.sizeOf28 _) rfl rfl rfl)) (.cons (.tmp _ _ kr) .nil)) ?_
  have e1 := ((o0.pick 1 rfl).dropAt 1 rfl)
  change Sat _ _ (H :: F) at e1
  have h2 : Sat W _ ([] :: H :: F) := Sat.nilc e1
  exact ⟨(⟨⟨none, 0, 0, []⟩, ⟨none, 0, 0, []⟩, ⟨none, 0, 0, []⟩, 0⟩ : Job), [], 4, rfl, ⟨RdT.nil (enc := encPlane) (sz := 4) fR _, (fun z hz => by cases hz), RdT.nil (enc := encStage) (sz := 18) fR _, (fun z hz => by cases hz), RdT.nil (enc := encI) (sz := 1) fR _⟩, DecR.head om (.inr (.inr (.inl ⟨_, c1, om⟩))), h2⟩
 refine sFix 25 _ false (bne_eq_false_iff_eq.2 d1) ?_
 refine pu1 <| gY ?_
 refine sIdx hx 2 Try.runUnderlying31 Try.sizeOf5 ?_
 intro p0 _ _ f1 s1
 refine gY ?_
 refine sLp b0 (s1.up 1 rfl) 0 (.int .u8 p0) (Try.isAgg5 _) ?_
 refine pu2 <| nT ?_
 by_cases g1 : (p0 : Int) = 1
 rotate_left
 ·refine cT _ (bne_iff_ne.2 g1) ?_
  refine sR <| pu1 ?_
  refine sTw b0 0 [.slice none 0 0, .slice none 0 0, .slice none 0 0, I 0] Try.sizeOf28 ?_
  intro _ q0
  try dsimp only [List.set, List.eraseIdx, Value.cells] at q0
  refine pu1 <| nT ?_
  refine retE (thenK_r <| ?_)
  refine retN (vs := [.agg #[.slice none 0 0, .slice none 0 0, .slice none 0 0, I 0], I 4]) rfl (.cons (.cell _ _ _ _ kr (lvA q0 0 0 [.slice none 0 0, .slice none 0 0, .slice none 0 0, I 0] (Try.isAgg28 _) (Try.sizeOf28 _) rfl rfl rfl)) (.cons (.tmp _ _ kr) .nil)) ?_
  have h1 := ((q0.pick 1 rfl).dropAt 1 rfl)
  change Sat _ _ (H :: F) at h1
  have h2 : Sat W _ ([] :: H :: F) := Sat.nilc h1
  exact ⟨(⟨⟨none, 0, 0, []⟩, ⟨none, 0, 0, []⟩, ⟨none, 0, 0, []⟩, 0⟩ : Job), [], 4, rfl, ⟨RdT.nil (enc := encPlane) (sz := 4) fR _, (fun z hz => by cases hz), RdT.nil (enc := encStage) (sz := 18) fR _, (fun z hz => by cases hz), RdT.nil (enc := encI) (sz := 1) fR _⟩, DecR.head om (.inr (.inr (.inr ⟨_, f1, om⟩))), h2⟩
 refine cF _ (bne_eq_false_iff_eq.2 g1) ?_
 refine kT <| sR <| pu1 ?_
 refine sSl (some 3) none 3 n Try.runUnderlying31 Try.sizeOf5 ⟨by decide, rfl⟩ rfl om om ?_ (a := a) (len := n) (cap := k)
 have t1 := hx.part (lo := 3) (hi := n) om om
 refine pu1 ?_
 refine sBox b0 (.agg #[.slice (partAddr a k 3 1) (n - 3) (k - 3), .bool false]) #[.slice (partAddr a k 3 1) (n - 3) (k - 3), .bool false] ?_
 intro c0 _ u1
 refine pu1 <| nT <| seqE ?_
 have v1 : l0 = 84 := by omega
 have w1 : n0 = 70 := by omega
 have x1 : p0 = 1 := by omega
 have hx3 : x = [84, 70, 1] ++ x.drop 3 := by
  have h := take3 z0 c1 f1
  rw [v1, w1, x1] at h; exact h
 have hR2 := t1
 rw [List.take_of_length_le (by simp; omega)] at hR2
 have hI0 : RdrR 84 H c0 (x.drop 3) false [(c0, .cells #[.slice (partAddr a k 3 1) (n - 3) (k - 3), .bool false] 84 (0, 0))] := ⟨_, _, _, rfl, hR2, (fun y hy => hB y (List.mem_of_mem_drop hy)), by simp; omega⟩
 refine regionE <| pu1 ?_
 have i1 := ((u1.pick 2 rfl).pick 1 rfl)
 try dsimp only [List.set, List.eraseIdx, Value.cells] at i1
 refine sF #[Pt c0 0] Try.call39 (Calls.mono (rdr_job W _ _ _ _ _ _ _ hI0 i1) ?_)
 rintro _ _ ⟨a0, y1, g0, j1, rfl, z1, r0, _, a2, k1⟩
 refine ⟨_, rfl, ?_⟩
 try dsimp only [List.set, List.eraseIdx, Value.cells] at k1
 refine sAlloc k1 Try.zeroValue28 ?_
 intro _ _ b2
 refine sT b2 0 0 (.agg (encJob a0).toArray) (encJob a0) (encJob a0).toArray Try.sizeOf28 ?_
 intro _ c2
 refine nT <| seqE <| seqE ?_
 have d0 := (c2.pick 1 rfl)
 try dsimp only [List.set, List.eraseIdx, Value.cells] at d0
 obtain ⟨h0, e0, i0, rfl, f0, s0⟩ := a2
 have hll_a_53 := f0.len; have hle_a_53 := f0.le
 refine regionE <| pu3 ?_
 refine sL d0 0 1 (.bool j1) (Try.isAgg4 _) ?_
 refine pu1 ?_
 cases j1
 rotate_left
 ·refine pu7 <| nT <| cTt <| sR <| pu1 ?_
  refine sTw d0 4 [.slice none 0 0, .slice none 0 0, .slice none 0 0, I 0] Try.sizeOf28 ?_
  intro _ t0
  try dsimp only [List.set, List.eraseIdx, Value.cells] at t0
  refine pu1 <| nT ?_
  refine retE (thenK_r <| ?_)
  refine retN (vs := [.agg #[.slice none 0 0, .slice none 0 0, .slice none 0 0, I 0], I 4]) rfl (.cons (.cell _ _ _ _ kr (lvA t0 4 0 [.slice none 0 0, .slice none 0 0, .slice none 0 0, I 0] (Try.isAgg28 _) (Try.sizeOf28 _) rfl rfl rfl)) (.cons (.tmp _ _ kr) .nil)) ?_
  have y2 : RdrR 84 H c0 g0 true [(c0, .cells #[.slice h0 e0 i0, .bool true] 84 (0, 0))] := ⟨_, _, _, rfl, f0, s0⟩
  have hgot := r0
  have l1 := (((((t0.pick 3 rfl).dropAt 1 rfl).dropAt 1 rfl).dropAt 1 rfl).dropAt 1 rfl)
  change Sat _ _ (H :: F) at l1
  have h2 : Sat W _ ([] :: H :: F) := Sat.nilc l1
  exact ⟨(⟨⟨none, 0, 0, []⟩, ⟨none, 0, 0, []⟩, ⟨none, 0, 0, []⟩, 0⟩ : Job), [], 4, rfl, ⟨RdT.nil (enc := encPlane) (sz := 4) fR _, (fun z hz => by cases hz), RdT.nil (enc := encStage) (sz := 18) fR _, (fun z hz => by cases hz), RdT.nil (enc := encI) (sz := 1) fR _⟩, DecR.fail om hx3 hgot (by first | (left; rfl) | (right; omega)), h2⟩
 refine pu3 <| gY ?_
 refine sL d0 0 0 (.slice h0 e0 i0) (Try.isAgg31 _) ?_
 refine pu3 <| nT ?_
 by_cases m1 : (((e0 : Nat) : Int) : Int) > 0
 rotate_left
 ·refine cF _ (decide_eq_false m1) ?_
  refine kT <| sR ?_
  refine sLA d0 1 0 [.slice a0.inputs.a a0.inputs.n a0.inputs.k, .slice a0.stages.a a0.stages.n a0.stages.k, .slice a0.outputs.a a0.outputs.n a0.outputs.k, I a0.priority] (Try.isAgg28 _) (Try.sizeOf28 _) ?_
  refine sT d0 4 0 (.agg (encJob a0).toArray) (encJob a0) (encJob a0).toArray Try.sizeOf28 ?_
  intro _ n1
  refine pu1 <| nT <| retE <| retN (vs := [.agg (encJob a0).toArray, I 0]) rfl (.cons (.cell _ _ _ _ kr (lvA n1 4 0 (encJob a0) (Try.isAgg28 _) (Try.sizeOf28 _) rfl rfl rfl)) (.cons (.tmp _ _ kr) .nil)) ?_
  have a3 : RdrR 84 H c0 g0 false [(c0, .cells #[.slice h0 e0 i0, .bool false] 84 (0, 0))] := ⟨_, _, _, rfl, f0, s0⟩
  have hgot := r0
  have hr0 : g0 = [] := List.eq_nil_of_length_eq_zero om
  have o1 := (((((n1.pick 3 rfl).pick 3 rfl).dropAt 2 rfl).dropAt 2 rfl).dropAt 2 rfl)
  change Sat _ _ (y1 :: H :: F) at o1
  exact ⟨a0, _, 0, rfl, z1, DecR.good om hx3 hgot rfl hr0, o1⟩
 refine cT _ (decide_eq_true m1) ?_
 refine sR <| pu1 ?_
 refine sTw d0 4 [.slice none 0 0, .slice none 0 0, .slice none 0 0, I 0] Try.sizeOf28 ?_
 intro _ u0
 try dsimp only [List.set, List.eraseIdx, Value.cells] at u0
 refine pu1 <| nT ?_
 refine retE (thenK_r <| ?_)
 refine retN (vs := [.agg #[.slice none 0 0, .slice none 0 0, .slice none 0 0, I 0], I 4]) rfl (.cons (.cell _ _ _ _ kr (lvA u0 4 0 [.slice none 0 0, .slice none 0 0, .slice none 0 0, I 0] (Try.isAgg28 _) (Try.sizeOf28 _) rfl rfl rfl)) (.cons (.tmp _ _ kr) .nil)) ?_
 have c3 : RdrR 84 H c0 g0 false [(c0, .cells #[.slice h0 e0 i0, .bool false] 84 (0, 0))] := ⟨_, _, _, rfl, f0, s0⟩
 have hgot := r0
 have p1 := (((((u0.pick 3 rfl).dropAt 1 rfl).dropAt 1 rfl).dropAt 1 rfl).dropAt 1 rfl)
 change Sat _ _ (H :: F) at p1
 have h2 : Sat W _ ([] :: H :: F) := Sat.nilc p1
 exact ⟨(⟨⟨none, 0, 0, []⟩, ⟨none, 0, 0, []⟩, ⟨none, 0, 0, []⟩, 0⟩ : Job), [], 4, rfl, ⟨RdT.nil (enc := encPlane) (sz := 4) fR _, (fun z hz => by cases hz), RdT.nil (enc := encStage) (sz := 18) fR _, (fun z hz => by cases hz), RdT.nil (enc := encI) (sz := 1) fR _⟩, DecR.fail om hx3 hgot (by first | (left; rfl) | (right; omega)), h2⟩
theorem rrf_stage (W w : World) (p : Nat) (H fp : Chunk) (F : List Chunk) (r : List Int) (b : Bool) (hI : RdrR 102 H p r b fp) (hS : Sat W w (fp :: H :: F)) :
  Calls Try.prog 52 #[Pt p 0] w fun e w' => ∃ (q : Stage) (G : Chunk) (r' : List Int) (b' : Bool), e = .returned (.agg (encStage q).toArray) ∧ Stage.Ok [G] q ∧ Got nStage wfStage r b q.v r' b' ∧ ∃ fp' : Chunk, RdrR 102 H p r' b' fp' ∧ Sat W w' (fp' :: G :: H :: F) := by
 refine callsE (n := 93) Try.func52 rfl rfl (Nat.le_of_ble_eq_true rfl) ?_
 refine sR ?_
 refine sAlloc hS Try.zeroValue61 ?_
 intro c1 _ e5
 refine nT <| sR <| pu1 ?_
 refine sAlloc e5 Try.zeroValue61 ?_
 intro a0 _ f5
 refine sTw f5 0 [I 0, I 0, I 0, .bool false, I 0, I 0, I 0, I 0, .slice none 0 0, .slice none 0 0, .slice none 0 0, I 0, I 0, .slice none 0 0, .slice none 0 0, I 0, .slice none 0 0, I 0] Try.sizeOf61 ?_
 intro _ g2
 try dsimp only [List.set, List.eraseIdx, Value.cells] at g2
 refine nT <| sR <| pu1 ?_
 have h2 := ((g2.pick 3 rfl).pick 3 rfl)
 try dsimp only [List.set, List.eraseIdx, Value.cells] at h2
 refine sF #[Pt p 0] Try.call49 (Calls.mono (rrf_number W _ _ _ _ _ _ _ hI h2) ?_)
 rintro _ _ ⟨b0, _, _, rfl, g5, _, _, h5, i2⟩
 refine ⟨_, rfl, ?_⟩
 try dsimp only [List.set, List.eraseIdx, Value.cells] at i2
 refine pu1 ?_
 refine sT1 i2 2 0 (I b0) #[I b0, I 0, I 0, .bool false, I 0, I 0, I 0, I 0, .slice none 0 0, .slice none 0 0, .slice none 0 0, I 0, I 0, .slice none 0 0, .slice none 0 0, I 0, .slice none 0 0, I 0] Try.sizeOf3 ?_
 intro _ j2
 try dsimp only [List.set, List.eraseIdx, Value.cells] at j2
 refine nT <| sR <| pu1 ?_
 have k2 := ((j2.pick 1 rfl).pick 1 rfl)
 try dsimp only [List.set, List.eraseIdx, Value.cells] at k2
 refine sF #[Pt p 0] Try.call49 (Calls.mono (rrf_number W _ _ _ _ _ _ _ h5 k2) ?_)
 rintro _ _ ⟨c0, _, _, rfl, i5, _, _, j5, l2⟩
 refine ⟨_, rfl, ?_⟩
 try dsimp only [List.set, List.eraseIdx, Value.cells] at l2
 refine pu1 ?_
 refine sT1 l2 2 1 (I c0) #[I b0, I c0, I 0, .bool false, I 0, I 0, I 0, I 0, .slice none 0 0, .slice none 0 0, .slice none 0 0, I 0, I 0, .slice none 0 0, .slice none 0 0, I 0, .slice none 0 0, I 0] Try.sizeOf3 ?_
 intro _ m2
 try dsimp only [List.set, List.eraseIdx, Value.cells] at m2
 refine nT <| sR <| pu1 ?_
 have n2 := ((m2.pick 1 rfl).pick 1 rfl)
 try dsimp only [List.set, List.eraseIdx, Value.cells] at n2
 refine sF #[Pt p 0] Try.call49 (Calls.mono (rrf_number W _ _ _ _ _ _ _ j5 n2) ?_)
 rintro _ _ ⟨d0, k5, l5, rfl, m5, _, _, n5, o2⟩
 refine ⟨_, rfl, ?_⟩
 try dsimp only [List.set, List.eraseIdx, Value.cells] at o2
 refine pu1 ?_
 refine sT1 o2 2 2 (I d0) #[I b0, I c0, I d0, .bool false, I 0, I 0, I 0, I 0, .slice none 0 0, .slice none 0 0, .slice none 0 0, I 0, I 0, .slice none 0 0, .slice none 0 0, I 0, .slice none 0 0, I 0] Try.sizeOf3 ?_
 intro _ p2
 try dsimp only [List.set, List.eraseIdx, Value.cells] at p2
 refine nT ?_
 refine cutE (fun ρ w => ∃ (bar : Bool) (rb : List Int) (bb : Bool) (fpb : Chunk), AllAt ρ [(0, Pt p 0), (2, Pt c1 0), (3, Pt a0 0)] ∧ Sat W w (fpb :: [(a0, .cells #[I b0, I c0, I d0, .bool bar, I 0, I 0, I 0, I 0, .slice none 0 0, .slice none 0 0, .slice none 0 0, I 0, I 0, .slice none 0 0, .slice none 0 0, I 0, .slice none 0 0, I 0] 61 (0, 0))] :: [(c1, .cells #[I 0, I 0, I 0, .bool false, I 0, I 0, I 0, I 0, .slice none 0 0, .slice none 0 0, .slice none 0 0, I 0, I 0, .slice none 0 0, .slice none 0 0, I 0, .slice none 0 0, I 0] 61 (0, 0))] :: H :: F) ∧ Got encBo wfBo k5 l5 bar rb bb ∧ RdrR 102 H p rb bb fpb) ?_ ?_
 ·refine sR <| pu1 ?_
  have q2 := ((p2.pick 1 rfl).pick 1 rfl)
  try dsimp only [List.set, List.eraseIdx, Value.cells] at q2
  refine sF #[Pt p 0] Try.call49 (Calls.mono (rrf_number W _ _ _ _ _ _ _ n5 q2) ?_)
  rintro _ _ ⟨r2, m1, s2, rfl, u1, _, t2, v1, f1⟩
  refine ⟨_, rfl, ?_⟩
  try dsimp only [List.set, List.eraseIdx, Value.cells] at f1
  refine nT <| blockE <| sR <| pu2 <| nT ?_
  by_cases u2 : (r2 : Int) = 0
  ·refine cT _ (beq_iff_eq.2 u2) ?_
   refine skipE <| blockK_n <| thenK_n ?_
   have v2 := ((((f1.pick 1 rfl).pick 3 rfl).pick 3 rfl).pick 3 rfl)
   try dsimp only [List.set, List.eraseIdx, Value.cells] at v2
   exact ⟨false, m1, s2, t2, alA, v2, Got.bool false u1 (by simp only [nBool, if_true, if_false, Bool.false_eq_true]; omega), v1⟩
  refine cF _ (beq_eq_false_iff_ne.2 u2) ?_
  refine sR <| pu2 <| nT ?_
  by_cases w2 : (r2 : Int) = 1
  ·refine cT _ (beq_iff_eq.2 w2) ?_
   refine regionE <| pu1 ?_
   refine sT1 f1 2 3 (.bool true) #[I b0, I c0, I d0, .bool true, I 0, I 0, I 0, I 0, .slice none 0 0, .slice none 0 0, .slice none 0 0, I 0, I 0, .slice none 0 0, .slice none 0 0, I 0, .slice none 0 0, I 0] Try.sizeOf4 ?_
   intro _ x2
   try dsimp only [List.set, List.eraseIdx, Value.cells] at x2
   refine nB ?_
   have y2 := ((((x2.pick 1 rfl).pick 3 rfl).pick 3 rfl).pick 3 rfl)
   try dsimp only [List.set, List.eraseIdx, Value.cells] at y2
   exact ⟨true, m1, s2, t2, alA, y2, Got.bool true u1 (by simp only [nBool, if_true, if_false, Bool.false_eq_true]; omega), v1⟩
  refine cF _ (beq_eq_false_iff_ne.2 w2) ?_
  try dsimp only [List.set, List.eraseIdx, Value.cells] at f1
  obtain ⟨w1, x1, y1, rfl, z1, o5⟩ := v1
  have hll_a_61 := z1.len; have hle_a_61 := z1.le
  refine regionE <| pu3 ?_
  refine sT1 f1 0 1 (.bool true) #[.slice w1 x1 y1, .bool true] Try.sizeOf4 ?_
  intro _ z2
  try dsimp only [List.set, List.eraseIdx, Value.cells] at z2
  refine nB ?_
  have p5 : RdrR 102 H p m1 true [(p, .cells #[.slice w1 x1 y1, .bool true] 102 (0, 0))] := ⟨_, _, _, rfl, z1, o5⟩
  have a3 := ((((z2.pick 1 rfl).pick 3 rfl).pick 3 rfl).pick 3 rfl)
  try dsimp only [List.set, List.eraseIdx, Value.cells] at a3
  exact ⟨false, m1, true, [(p, .cells #[.slice w1 x1 y1, .bool true] 102 (0, 0))], alA, a3, Got.boolbad false u1 om om, p5⟩
 rintro ρ _ ⟨bar, rb, bb, fpb, hA, q5, hGb, hIb⟩
 refine cAnchor hA (fun ρ => ?_)
 clear hA
 refine sR <| pu1 ?_
 have b3 := ((q5.pick 3 rfl).pick 1 rfl)
 try dsimp only [List.set, List.eraseIdx, Value.cells] at b3
 refine sF #[Pt p 0] Try.call49 (Calls.mono (rrf_number W _ _ _ _ _ _ _ hIb b3) ?_)
 rintro _ _ ⟨e0, _, _, rfl, r5, _, _, s5, c3⟩
 refine ⟨_, rfl, ?_⟩
 try dsimp only [List.set, List.eraseIdx, Value.cells] at c3
 refine pu2 ?_
 refine sT1 c3 2 4 (I e0) #[I b0, I c0, I d0, .bool bar, I e0, I 0, I 0, I 0, .slice none 0 0, .slice none 0 0, .slice none 0 0, I 0, I 0, .slice none 0 0, .slice none 0 0, I 0, .slice none 0 0, I 0] Try.sizeOf3 ?_
 intro _ d3
 try dsimp only [List.set, List.eraseIdx, Value.cells] at d3
 refine nT <| sR <| pu1 ?_
 have e3 := ((d3.pick 1 rfl).pick 1 rfl)
 try dsimp only [List.set, List.eraseIdx, Value.cells] at e3
 refine sF #[Pt p 0] Try.call49 (Calls.mono (rrf_number W _ _ _ _ _ _ _ s5 e3) ?_)
 rintro _ _ ⟨f0, _, _, rfl, t5, _, _, u5, f3⟩
 refine ⟨_, rfl, ?_⟩
 try dsimp only [List.set, List.eraseIdx, Value.cells] at f3
 refine pu2 ?_
 refine sT1 f3 2 5 (I f0) #[I b0, I c0, I d0, .bool bar, I e0, I f0, I 0, I 0, .slice none 0 0, .slice none 0 0, .slice none 0 0, I 0, I 0, .slice none 0 0, .slice none 0 0, I 0, .slice none 0 0, I 0] Try.sizeOf3 ?_
 intro _ g3
 try dsimp only [List.set, List.eraseIdx, Value.cells] at g3
 refine nT <| sR <| pu1 ?_
 have h3 := ((g3.pick 1 rfl).pick 1 rfl)
 try dsimp only [List.set, List.eraseIdx, Value.cells] at h3
 refine sF #[Pt p 0] Try.call49 (Calls.mono (rrf_number W _ _ _ _ _ _ _ u5 h3) ?_)
 rintro _ _ ⟨g0, _, _, rfl, v5, _, _, w5, i3⟩
 refine ⟨_, rfl, ?_⟩
 try dsimp only [List.set, List.eraseIdx, Value.cells] at i3
 refine pu1 ?_
 refine sT1 i3 2 6 (I g0) #[I b0, I c0, I d0, .bool bar, I e0, I f0, I g0, I 0, .slice none 0 0, .slice none 0 0, .slice none 0 0, I 0, I 0, .slice none 0 0, .slice none 0 0, I 0, .slice none 0 0, I 0] Try.sizeOf3 ?_
 intro _ j3
 try dsimp only [List.set, List.eraseIdx, Value.cells] at j3
 refine nT <| sR <| pu1 ?_
 have k3 := ((j3.pick 1 rfl).pick 1 rfl)
 try dsimp only [List.set, List.eraseIdx, Value.cells] at k3
 refine sF #[Pt p 0] Try.call49 (Calls.mono (rrf_number W _ _ _ _ _ _ _ w5 k3) ?_)
 rintro _ _ ⟨h0, _, _, rfl, x5, _, _, y5, l3⟩
 refine ⟨_, rfl, ?_⟩
 try dsimp only [List.set, List.eraseIdx, Value.cells] at l3
 refine pu1 ?_
 refine sT1 l3 2 7 (I h0) #[I b0, I c0, I d0, .bool bar, I e0, I f0, I g0, I h0, .slice none 0 0, .slice none 0 0, .slice none 0 0, I 0, I 0, .slice none 0 0, .slice none 0 0, I 0, .slice none 0 0, I 0] Try.sizeOf3 ?_
 intro _ m3
 try dsimp only [List.set, List.eraseIdx, Value.cells] at m3
 refine nT <| sR <| pu1 ?_
 have n3 := ((m3.pick 1 rfl).pick 1 rfl)
 try dsimp only [List.set, List.eraseIdx, Value.cells] at n3
 refine sF #[Pt p 0] Try.call51 (Calls.mono (rrf_numbers W _ _ _ _ _ _ _ y5 n3) ?_)
 rintro _ _ ⟨i0, j0, k0, z5, n1, _, _, rfl, a6, b6, _, c6, o3⟩
 refine ⟨_, rfl, ?_⟩
 try dsimp only [List.set, List.eraseIdx, Value.cells] at o3
 refine pu1 ?_
 refine sT1 o3 3 8 (.slice i0 j0 k0) #[I b0, I c0, I d0, .bool bar, I e0, I f0, I g0, I h0, .slice i0 j0 k0, .slice none 0 0, .slice none 0 0, I 0, I 0, .slice none 0 0, .slice none 0 0, I 0, .slice none 0 0, I 0] Try.sizeOf22 ?_
 intro _ p3
 try dsimp only [List.set, List.eraseIdx, Value.cells] at p3
 refine nT <| sR <| pu1 ?_
 have q3 := ((p3.pick 2 rfl).pick 1 rfl)
 try dsimp only [List.set, List.eraseIdx, Value.cells] at q3
 refine sF #[Pt p 0] Try.call51 (Calls.mono (rrf_numbers W _ _ _ _ _ _ _ c6 q3) ?_)
 rintro _ _ ⟨l0, m0, n0, d6, o1, _, _, rfl, e6, f6, _, g6, r3⟩
 refine ⟨_, rfl, ?_⟩
 try dsimp only [List.set, List.eraseIdx, Value.cells] at r3
 refine pu1 ?_
 refine sT1 r3 4 9 (.slice l0 m0 n0) #[I b0, I c0, I d0, .bool bar, I e0, I f0, I g0, I h0, .slice i0 j0 k0, .slice l0 m0 n0, .slice none 0 0, I 0, I 0, .slice none 0 0, .slice none 0 0, I 0, .slice none 0 0, I 0] Try.sizeOf22 ?_
 intro _ s3
 try dsimp only [List.set, List.eraseIdx, Value.cells] at s3
 refine nT <| sR <| pu1 ?_
 have t3 := ((s3.pick 2 rfl).pick 1 rfl)
 try dsimp only [List.set, List.eraseIdx, Value.cells] at t3
 refine sF #[Pt p 0] Try.call51 (Calls.mono (rrf_numbers W _ _ _ _ _ _ _ g6 t3) ?_)
 rintro _ _ ⟨o0, p0, q0, h6, p1, _, _, rfl, i6, j6, _, k6, u3⟩
 refine ⟨_, rfl, ?_⟩
 try dsimp only [List.set, List.eraseIdx, Value.cells] at u3
 refine pu1 ?_
 refine sT1 u3 5 10 (.slice o0 p0 q0) #[I b0, I c0, I d0, .bool bar, I e0, I f0, I g0, I h0, .slice i0 j0 k0, .slice l0 m0 n0, .slice o0 p0 q0, I 0, I 0, .slice none 0 0, .slice none 0 0, I 0, .slice none 0 0, I 0] Try.sizeOf22 ?_
 intro _ v3
 try dsimp only [List.set, List.eraseIdx, Value.cells] at v3
 refine nT <| sR <| pu1 ?_
 have w3 := ((v3.pick 2 rfl).pick 1 rfl)
 try dsimp only [List.set, List.eraseIdx, Value.cells] at w3
 refine sF #[Pt p 0] Try.call49 (Calls.mono (rrf_number W _ _ _ _ _ _ _ k6 w3) ?_)
 rintro _ _ ⟨r0, _, _, rfl, l6, _, _, m6, x3⟩
 refine ⟨_, rfl, ?_⟩
 try dsimp only [List.set, List.eraseIdx, Value.cells] at x3
 refine pu1 ?_
 refine sT1 x3 5 11 (I r0) #[I b0, I c0, I d0, .bool bar, I e0, I f0, I g0, I h0, .slice i0 j0 k0, .slice l0 m0 n0, .slice o0 p0 q0, I r0, I 0, .slice none 0 0, .slice none 0 0, I 0, .slice none 0 0, I 0] Try.sizeOf3 ?_
 intro _ y3
 try dsimp only [List.set, List.eraseIdx, Value.cells] at y3
 refine nT <| sR <| pu1 ?_
 have z3 := ((y3.pick 1 rfl).pick 1 rfl)
 try dsimp only [List.set, List.eraseIdx, Value.cells] at z3
 refine sF #[Pt p 0] Try.call49 (Calls.mono (rrf_number W _ _ _ _ _ _ _ m6 z3) ?_)
 rintro _ _ ⟨s0, _, _, rfl, n6, _, _, o6, a4⟩
 refine ⟨_, rfl, ?_⟩
 try dsimp only [List.set, List.eraseIdx, Value.cells] at a4
 refine pu1 ?_
 refine sT1 a4 5 12 (I s0) #[I b0, I c0, I d0, .bool bar, I e0, I f0, I g0, I h0, .slice i0 j0 k0, .slice l0 m0 n0, .slice o0 p0 q0, I r0, I s0, .slice none 0 0, .slice none 0 0, I 0, .slice none 0 0, I 0] Try.sizeOf3 ?_
 intro _ b4
 try dsimp only [List.set, List.eraseIdx, Value.cells] at b4
 refine nT <| sR <| pu1 ?_
 have c4 := ((b4.pick 1 rfl).pick 1 rfl)
 try dsimp only [List.set, List.eraseIdx, Value.cells] at c4
 refine sF #[Pt p 0] Try.call64 (Calls.mono (rrf_taps W _ _ _ _ _ _ _ o6 c4) ?_)
 rintro _ _ ⟨t0, u0, v0, p6, q1, _, _, rfl, q6, r6, s6, _, t6, d4⟩
 refine ⟨_, rfl, ?_⟩
 try dsimp only [List.set, List.eraseIdx, Value.cells] at d4
 refine pu1 ?_
 refine sT1 d4 6 13 (.slice t0 u0 v0) #[I b0, I c0, I d0, .bool bar, I e0, I f0, I g0, I h0, .slice i0 j0 k0, .slice l0 m0 n0, .slice o0 p0 q0, I r0, I s0, .slice t0 u0 v0, .slice none 0 0, I 0, .slice none 0 0, I 0] Try.sizeOf58 ?_
 intro _ e4
 try dsimp only [List.set, List.eraseIdx, Value.cells] at e4
 refine nT <| sR <| pu1 ?_
 have f4 := ((e4.pick 2 rfl).pick 1 rfl)
 try dsimp only [List.set, List.eraseIdx, Value.cells] at f4
 refine sF #[Pt p 0] Try.call64 (Calls.mono (rrf_taps W _ _ _ _ _ _ _ t6 f4) ?_)
 rintro _ _ ⟨w0, x0, y0, u6, r1, _, _, rfl, v6, w6, x6, _, y6, g4⟩
 refine ⟨_, rfl, ?_⟩
 try dsimp only [List.set, List.eraseIdx, Value.cells] at g4
 refine pu1 ?_
 refine sT1 g4 7 14 (.slice w0 x0 y0) #[I b0, I c0, I d0, .bool bar, I e0, I f0, I g0, I h0, .slice i0 j0 k0, .slice l0 m0 n0, .slice o0 p0 q0, I r0, I s0, .slice t0 u0 v0, .slice w0 x0 y0, I 0, .slice none 0 0, I 0] Try.sizeOf58 ?_
 intro _ h4
 try dsimp only [List.set, List.eraseIdx, Value.cells] at h4
 refine nT <| sR <| pu1 ?_
 have i4 := ((h4.pick 2 rfl).pick 1 rfl)
 try dsimp only [List.set, List.eraseIdx, Value.cells] at i4
 refine sF #[Pt p 0] Try.call49 (Calls.mono (rrf_number W _ _ _ _ _ _ _ y6 i4) ?_)
 rintro _ _ ⟨z0, z6, a7, rfl, b7, _, _, c7, j4⟩
 refine ⟨_, rfl, ?_⟩
 try dsimp only [List.set, List.eraseIdx, Value.cells] at j4
 refine pu1 ?_
 refine sT1 j4 7 15 (I z0) #[I b0, I c0, I d0, .bool bar, I e0, I f0, I g0, I h0, .slice i0 j0 k0, .slice l0 m0 n0, .slice o0 p0 q0, I r0, I s0, .slice t0 u0 v0, .slice w0 x0 y0, I z0, .slice none 0 0, I 0] Try.sizeOf3 ?_
 intro _ k4
 try dsimp only [List.set, List.eraseIdx, Value.cells] at k4
 refine nT ?_
 refine cutE (fun ρ w => ∃ (xsAc : List POp) (aAc : Option Addr) (nAc : Nat) (kAc : Nat) (GAc : Chunk) (rAc : List Int) (bAc : Bool) (fpAc : Chunk), AllAt ρ [(0, Pt p 0), (2, Pt c1 0), (3, Pt a0 0), (26, Pt p 0), (28, Pt a0 4), (29, Pt a0 4), (30, Pt p 0), (32, Pt a0 4), (33, Pt a0 5), (34, Pt p 0), (36, Pt a0 6), (37, Pt p 0), (39, Pt a0 7), (40, Pt p 0), (42, Pt a0 8), (43, Pt p 0), (45, Pt a0 9), (46, Pt p 0), (48, Pt a0 10), (49, Pt p 0), (51, Pt a0 11), (52, Pt p 0), (54, Pt a0 12), (55, Pt p 0), (57, Pt a0 13), (58, Pt p 0), (60, Pt a0 14), (61, Pt p 0), (63, Pt a0 15)] ∧ Sat W w (GAc :: fpAc :: H :: r1 :: q1 :: p1 :: o1 :: n1 :: [(a0, .cells #[I b0, I c0, I d0, .bool bar, I e0, I f0, I g0, I h0, .slice i0 j0 k0, .slice l0 m0 n0, .slice o0 p0 q0, I r0, I s0, .slice t0 u0 v0, .slice w0 x0 y0, I z0, .slice aAc nAc kAc, I 0] 61 (0, 0))] :: [(c1, .cells #[I 0, I 0, I 0, .bool false, I 0, I 0, I 0, I 0, .slice none 0 0, .slice none 0 0, .slice none 0 0, I 0, I 0, .slice none 0 0, .slice none 0 0, I 0, .slice none 0 0, I 0] 61 (0, 0))] :: F) ∧ Got (encL nOp) (wfL wfOp) z6 a7 xsAc rAc bAc ∧ RdrR 102 H p rAc bAc fpAc ∧ RdT encPOp 2 [GAc] aAc nAc kAc xsAc) ?_ ?_
 rotate_left
 ·rintro ρ _ ⟨xsAc, aAc, nAc, kAc, GAc, rAc, bAc, fpAc, hA, d7, hLAc, hIAc, hRAc⟩
  refine cAnchor hA (fun ρ => ?_)
  clear hA
  refine sR <| pu1 ?_
  have l4 := ((d7.pick 2 rfl).pick 2 rfl)
  try dsimp only [List.set, List.eraseIdx, Value.cells] at l4
  refine sF #[Pt p 0] Try.call49 (Calls.mono (rrf_number W _ _ _ _ _ _ _ hIAc l4) ?_)
  rintro _ _ ⟨b1, _, _, rfl, e7, _, m4, f7, n4⟩
  refine ⟨_, rfl, ?_⟩
  try dsimp only [List.set, List.eraseIdx, Value.cells] at n4
  refine pu1 ?_
  refine sT1 n4 8 17 (I b1) #[I b0, I c0, I d0, .bool bar, I e0, I f0, I g0, I h0, .slice i0 j0 k0, .slice l0 m0 n0, .slice o0 p0 q0, I r0, I s0, .slice t0 u0 v0, .slice w0 x0 y0, I z0, .slice aAc nAc kAc, I b1] Try.sizeOf3 ?_
  intro _ a2
  try dsimp only [List.set, List.eraseIdx, Value.cells] at a2
  refine nT <| sR ?_
  refine sLA a2 8 0 [I b0, I c0, I d0, .bool bar, I e0, I f0, I g0, I h0, .slice i0 j0 k0, .slice l0 m0 n0, .slice o0 p0 q0, I r0, I s0, .slice t0 u0 v0, .slice w0 x0 y0, I z0, .slice aAc nAc kAc, I b1] (Try.isAgg61 _) (Try.sizeOf61 _) ?_
  refine sTw a2 9 [I b0, I c0, I d0, .bool bar, I e0, I f0, I g0, I h0, .slice i0 j0 k0, .slice l0 m0 n0, .slice o0 p0 q0, I r0, I s0, .slice t0 u0 v0, .slice w0 x0 y0, I z0, .slice aAc nAc kAc, I b1] Try.sizeOf61 ?_
  intro _ b2
  try dsimp only [List.set, List.eraseIdx, Value.cells] at b2
  refine nT <| retE <| retN (vs := [.agg #[I b0, I c0, I d0, .bool bar, I e0, I f0, I g0, I h0, .slice i0 j0 k0, .slice l0 m0 n0, .slice o0 p0 q0, I r0, I s0, .slice t0 u0 v0, .slice w0 x0 y0, I z0, .slice aAc nAc kAc, I b1]]) rfl (.cons (.cell _ _ _ _ kr (lvA b2 9 0 [I b0, I c0, I d0, .bool bar, I e0, I f0, I g0, I h0, .slice i0 j0 k0, .slice l0 m0 n0, .slice o0 p0 q0, I r0, I s0, .slice t0 u0 v0, .slice w0 x0 y0, I z0, .slice aAc nAc kAc, I b1] (Try.isAgg61 _) (Try.sizeOf61 _) rfl rfl rfl)) .nil) ?_
  have o4 := ((((((((((b2.pick 1 rfl).pick 2 rfl).pick 3 rfl).pick 4 rfl).pick 5 rfl).pick 6 rfl).pick 7 rfl).pick 7 rfl).dropAt 8 rfl).dropAt 8 rfl)
  change Sat _ _ (m4 :: n1 :: o1 :: p1 :: q1 :: r1 :: GAc :: H :: F) at o4
  have g7 := (Sat.perm (cs' := m4 :: (n1 ++ o1 ++ p1 ++ q1 ++ r1 ++ GAc) :: H :: F) o4 (by simp))
  have hgot := Got.stage g5 i5 m5 hGb r5 t5 v5 x5 b6 f6 j6 l6 n6 s6 x6 b7 hLAc e7
  exact ⟨(⟨b0, c0, d0, bar, e0, f0, g0, h0, ⟨i0, j0, k0, z5⟩, ⟨l0, m0, n0, d6⟩, ⟨o0, p0, q0, h6⟩, r0, s0, ⟨t0, u0, v0, p6⟩, ⟨w0, x0, y0, u6⟩, z0, ⟨aAc, nAc, kAc, xsAc⟩, b1⟩ : Stage), _, _, _, rfl, ⟨a6.of_mem mS, e6.of_mem mS, i6.of_mem mS, q6.of_mem mS, (fun z hz => (r6 z hz).of_mem mS), v6.of_mem mS, (fun z hz => (w6 z hz).of_mem mS), hRAc.of_mem mS⟩, hgot, _, f7, g7⟩
 refine sR <| pu1 ?_
 have p4 := ((k4.pick 1 rfl).pick 1 rfl)
 try dsimp only [List.set, List.eraseIdx, Value.cells] at p4
 refine sF #[Pt p 0] Try.call50 (Calls.mono (rrf_count W _ _ _ _ _ _ _ c7 p4) ?_)
 rintro _ _ ⟨a1, g1, s1, rfl, c2, h7, q4, r4⟩
 refine ⟨_, rfl, ?_⟩
 have hrng_v_244 := c2.rng; have hcap_v_244 := (by obtain ⟨_, _, _, _, _, _, h⟩ := q4; exact h : g1.length ≤ 262144)
 try dsimp only [List.set, List.eraseIdx, Value.cells] at r4
 refine pu1 <| nT <| blockE ?_
 have s4 := Sat.nilc r4
 have i7 := OwnT.nil (enc := encPOp) (E := 66) (sz := 2) fR
 try dsimp only [List.set, List.eraseIdx, Value.cells] at s4
 refine loopE (γ := Nat × (List POp) × (Option Addr) × Nat × Nat × Chunk × (List Int) × Bool × Chunk × Int) (fun ⟨iA, xsA, aA, nA, kA, cA, rA, bA, fpA, jA⟩ ρ w => AllAt ρ [(0, Pt p 0), (2, Pt c1 0), (3, Pt a0 0), (26, Pt p 0), (27, I e0), (28, Pt a0 4), (29, Pt a0 4), (30, Pt p 0), (31, I f0), (32, Pt a0 4), (33, Pt a0 5), (34, Pt p 0), (35, I g0), (36, Pt a0 6), (37, Pt p 0), (38, I h0), (39, Pt a0 7), (40, Pt p 0), (41, .slice i0 j0 k0), (42, Pt a0 8), (43, Pt p 0), (44, .slice l0 m0 n0), (45, Pt a0 9), (46, Pt p 0), (47, .slice o0 p0 q0), (48, Pt a0 10), (49, Pt p 0), (50, I r0), (51, Pt a0 11), (52, Pt p 0), (53, I s0), (54, Pt a0 12), (55, Pt p 0), (56, .slice t0 u0 v0), (57, Pt a0 13), (58, Pt p 0), (59, .slice w0 x0 y0), (60, Pt a0 14), (61, Pt p 0), (62, I z0), (63, Pt a0 15), (64, Pt p 0), (65, I a1), (4, I jA)] ∧ Sat W w (cA :: fpA :: H :: r1 :: q1 :: p1 :: o1 :: n1 :: [(a0, .cells #[I b0, I c0, I d0, .bool bar, I e0, I f0, I g0, I h0, .slice i0 j0 k0, .slice l0 m0 n0, .slice o0 p0 q0, I r0, I s0, .slice t0 u0 v0, .slice w0 x0 y0, I z0, .slice aA nA kA, I 0] 61 (0, 0))] :: [(c1, .cells #[I 0, I 0, I 0, .bool false, I 0, I 0, I 0, I 0, .slice none 0 0, .slice none 0 0, .slice none 0 0, I 0, I 0, .slice none 0 0, .slice none 0 0, I 0, .slice none 0 0, I 0] 61 (0, 0))] :: F) ∧ (iA : Int) ≤ a1 ∧ Got (encF nOp) (wfN wfOp iA) g1 s1 xsA rA bA ∧ RdrR 102 H p rA bA fpA ∧ OwnT encPOp 66 2 aA nA kA xsA cA ∧ nA = iA ∧ jA = a1 - iA) (fun ⟨iA, xsA, aA, nA, kA, cA, rA, bA, fpA, jA⟩ => a1.toNat - iA) (0, [], none, 0, 0, [], g1, s1, h7, a1) ⟨alA, s4, om, Got.none _ _, q4, i7, rfl, om⟩ ?_
 skip
 rintro ⟨iA, xsA, aA, nA, kA, cA, rA, bA, fpA, jA⟩ ρ _ ⟨hA, j7, hiA, hGA, hIA, hOA, hnA, hjA⟩
 refine cAnchor hA (fun ρ => ?_)
 clear hA
 refine seqE <| seqE ?_
 have h1 := (j7.pick 1 rfl)
 try dsimp only [List.set, List.eraseIdx, Value.cells] at h1
 obtain ⟨i1, j1, k1, rfl, l1, d2⟩ := hIA
 have hll_a_254 := l1.len; have hle_a_254 := l1.le
 refine regionE <| pu3 ?_
 by_cases t4 : (jA : Int) > 0
 rotate_left
 ·refine sFix 68 _ false (decide_eq_false t4) ?_
  refine pu6 <| nT <| cFf ?_
  refine exitE (xB <| ?_)
  refine thenK_n ?_
  have k7 : RdrR 102 H p rA bA [(p, .cells #[.slice i1 j1 k1, .bool bA] 102 (0, 0))] := ⟨_, _, _, rfl, l1, d2⟩
  have u4 := ((((((((((h1.pick 9 rfl).pick 9 rfl).pick 9 rfl).pick 9 rfl).pick 9 rfl).pick 9 rfl).pick 9 rfl).pick 9 rfl).pick 8 rfl).pick 9 rfl)
  try dsimp only [List.set, List.eraseIdx, Value.cells] at u4
  have hZ : Got (encF nOp) (wfN wfOp a1.toNat) g1 s1 xsA rA bA := by
   by_cases hfull : (iA : Int) = a1
   ·rw [show a1.toNat = iA from by omega]; exact hGA
   ·first | (exfalso; omega) | exact hGA.stop om _
  exact ⟨xsA, aA, nA, kA, cA, rA, bA, [(p, .cells #[.slice i1 j1 k1, .bool bA] 102 (0, 0))], alA, u4, Got.list nOp_ge1 c2 hZ, k7, (hOA.rd (fun p hp => by simp [hp]))⟩
 refine sFix 68 _ true (decide_eq_true t4) ?_
 refine pu3 <| gY ?_
 refine sL h1 0 1 (.bool bA) (Try.isAgg4 _) ?_
 refine pu2 <| nT ?_
 cases bA
 rotate_left
 ·refine cFf ?_
  refine exitE (xB <| ?_)
  refine thenK_n ?_
  have l7 : RdrR 102 H p rA true [(p, .cells #[.slice i1 j1 k1, .bool true] 102 (0, 0))] := ⟨_, _, _, rfl, l1, d2⟩
  have v4 := ((((((((((h1.pick 9 rfl).pick 9 rfl).pick 9 rfl).pick 9 rfl).pick 9 rfl).pick 9 rfl).pick 9 rfl).pick 9 rfl).pick 8 rfl).pick 9 rfl)
  try dsimp only [List.set, List.eraseIdx, Value.cells] at v4
  have hZ : Got (encF nOp) (wfN wfOp a1.toNat) g1 s1 xsA rA true := by
   by_cases hfull : (iA : Int) = a1
   ·rw [show a1.toNat = iA from by omega]; exact hGA
   ·first | (exfalso; omega) | exact hGA.stop om _
  exact ⟨xsA, aA, nA, kA, cA, rA, true, [(p, .cells #[.slice i1 j1 k1, .bool true] 102 (0, 0))], alA, v4, Got.list nOp_ge1 c2 hZ, l7, (hOA.rd (fun p hp => by simp [hp]))⟩
 refine cTt <| kT <| seqE <| blockE <| sR <| pu1 ?_
 have m7 : RdrR 102 H p rA false [(p, .cells #[.slice i1 j1 k1, .bool false] 102 (0, 0))] := ⟨_, _, _, rfl, l1, d2⟩
 have w4 := ((h1.pick 2 rfl).pick 1 rfl)
 try dsimp only [List.set, List.eraseIdx, Value.cells] at w4
 refine sF #[Pt p 0] Try.call49 (Calls.mono (rrf_number W _ _ _ _ _ _ _ m7 w4) ?_)
 rintro _ _ ⟨d1, _, _, rfl, n7, _, _, o7, x4⟩
 refine ⟨_, rfl, ?_⟩
 try dsimp only [List.set, List.eraseIdx, Value.cells] at x4
 refine pu1 ?_
 refine sAlloc x4 Try.zeroValue66 ?_
 intro _ _ p7
 refine sTw p7 0 [I d1, I 0] Try.sizeOf66 ?_
 intro _ y4
 try dsimp only [List.set, List.eraseIdx, Value.cells] at y4
 refine nT <| sR <| pu1 ?_
 have z4 := ((y4.pick 2 rfl).pick 2 rfl)
 try dsimp only [List.set, List.eraseIdx, Value.cells] at z4
 refine sF #[Pt p 0] Try.call49 (Calls.mono (rrf_number W _ _ _ _ _ _ _ o7 z4) ?_)
 rintro _ _ ⟨e1, q7, r7, rfl, s7, _, t7, u7, a5⟩
 refine ⟨_, rfl, ?_⟩
 try dsimp only [List.set, List.eraseIdx, Value.cells] at a5
 refine pu1 ?_
 refine sT1 a5 2 1 (I e1) #[I d1, I e1] Try.sizeOf3 ?_
 intro _ t1
 try dsimp only [List.set, List.eraseIdx, Value.cells] at t1
 refine nT <| regionE <| pu1 ?_
 refine sL t1 9 16 (.slice aA nA kA) (Try.isAgg59 _) ?_
 refine sLA t1 2 0 [I d1, I e1] (Try.isAgg66 _) (Try.sizeOf66 _) ?_
 refine sBS t1 #[I d1, I e1] Try.runUnderlying59 Try.sizeOf66 Try.zeroValue66 ?_
 intro _ _ v7
 refine sApp (nb := 16) v7 hOA 4 (RdT.blk (enc := encPOp) (sz := 2) (xs := [(⟨d1, e1⟩ : POp)]) fR 1 0 rfl rfl rfl om) Try.underlying59 (i := Try.t66) kr fR ?_
 intro e2 f2 w7 _ x7 b5
 try dsimp only [List.set, List.eraseIdx, Value.cells] at b5
 refine pu1 ?_
 refine sT1 b5 10 16 (.slice e2 (nA + 1) f2) #[I b0, I c0, I d0, .bool bar, I e0, I f0, I g0, I h0, .slice i0 j0 k0, .slice l0 m0 n0, .slice o0 p0 q0, I r0, I s0, .slice t0 u0 v0, .slice w0 x0 y0, I z0, .slice e2 (nA + 1) f2, I 0] Try.sizeOf59 ?_
 intro _ c5
 try dsimp only [List.set, List.eraseIdx, Value.cells] at c5
 refine nB <| regionE <| pu1 ?_
 refine sSub jA 1 ?_
 refine pu1 <| nT ?_
 have hX := hGA.snoc pfOp (Got.op n7 s7)
 have d5 := ((((((((((((c5.pick 11 rfl).pick 11 rfl).pick 11 rfl).pick 11 rfl).pick 11 rfl).pick 11 rfl).pick 11 rfl).pick 9 rfl).pick 9 rfl).pick 11 rfl).dropAt 10 rfl).dropAt 10 rfl)
 try dsimp only [List.set, List.eraseIdx, Value.cells] at d5
 exact ⟨(iA + 1, (xsA ++ [(⟨d1, e1⟩ : POp)]), e2, (nA + 1), f2, w7, q7, r7, t7, (jA - 1)), by dsimp only; omega, alA, d5, om, by first | exact hX | simpa using hX, u7, x7, om, om⟩
theorem ref_decode (W w : World) (H : Chunk) (F : List Chunk) (a : Option Addr) (n k : Nat) (x : List Int) (hx : RdT encB 1 [H] a n k x) (hB : Bytes x) (hS : Sat W w (H :: F)) :
  Calls Try.prog 38 #[.slice a n k] w fun e w' => ∃ (q : Job) (G : Chunk) (c : Int), e = .returned (.tuple #[.agg (encJob q).toArray, I c]) ∧ Job.Ok [G] q ∧ DecR x q.v c ∧ Sat W w' (G :: H :: F) := by
 have hle := hx.le; have hll := hx.len
 refine callsE (n := 110) Try.func38 rfl rfl (Nat.le_of_ble_eq_true rfl) ?_
 refine sR ?_
 refine sAlloc hS Try.zeroValue28 ?_
 intro d0 _ g0
 refine pu1 <| nT <| seqE <| sR <| pu3 <| nT ?_
 by_cases t2 : (((n : Nat) : Int) : Int) > 262144
 ·refine cT _ (decide_eq_true t2) ?_
  refine sR <| pu1 ?_
  refine sTw g0 0 [.slice none 0 0, .slice none 0 0, .slice none 0 0, I 0] Try.sizeOf28 ?_
  intro _ z1
  try dsimp only [List.set, List.eraseIdx, Value.cells] at z1
  refine pu1 <| nT ?_
  refine retE (thenK_r <| ?_)
  refine retN (vs := [.agg #[.slice none 0 0, .slice none 0 0, .slice none 0 0, I 0], I 5]) rfl (.cons (.cell _ _ _ _ kr (lvA z1 0 0 [.slice none 0 0, .slice none 0 0, .slice none 0 0, I 0] (Try.isAgg28 _) (Try.sizeOf28 _) rfl rfl rfl)) (.cons (.tmp _ _ kr) .nil)) ?_
  have u2 := ((z1.pick 1 rfl).dropAt 1 rfl)
  change Sat _ _ (H :: F) at u2
  have h2 : Sat W _ ([] :: H :: F) := Sat.nilc u2
  exact ⟨(⟨⟨none, 0, 0, []⟩, ⟨none, 0, 0, []⟩, ⟨none, 0, 0, []⟩, 0⟩ : Job), [], 5, rfl, ⟨RdT.nil (enc := encPlane) (sz := 4) fR _, (fun z hz => by cases hz), RdT.nil (enc := encStage) (sz := 18) fR _, (fun z hz => by cases hz), RdT.nil (enc := encI) (sz := 1) fR _⟩, DecR.big om, h2⟩
 refine cF _ (decide_eq_false t2) ?_
 refine kT <| seqE <| sR <| pu4 ?_
 by_cases v2 : (((n : Nat) : Int) : Int) < 3
 ·refine sFix 16 _ true (decide_eq_true v2) ?_
  refine pu16 <| pu1 <| nT <| cTt <| sR <| pu1 ?_
  refine sTw g0 0 [.slice none 0 0, .slice none 0 0, .slice none 0 0, I 0] Try.sizeOf28 ?_
  intro _ a2
  try dsimp only [List.set, List.eraseIdx, Value.cells] at a2
  refine pu1 <| nT ?_
  refine retE (thenK_r <| ?_)
  refine retN (vs := [.agg #[.slice none 0 0, .slice none 0 0, .slice none 0 0, I 0], I 4]) rfl (.cons (.cell _ _ _ _ kr (lvA a2 0 0 [.slice none 0 0, .slice none 0 0, .slice none 0 0, I 0] (Try.isAgg28 _) (Try.sizeOf28 _) rfl rfl rfl)) (.cons (.tmp _ _ kr) .nil)) ?_
  have w2 := ((a2.pick 1 rfl).dropAt 1 rfl)
  change Sat _ _ (H :: F) at w2
  have h2 : Sat W _ ([] :: H :: F) := Sat.nilc w2
  exact ⟨(⟨⟨none, 0, 0, []⟩, ⟨none, 0, 0, []⟩, ⟨none, 0, 0, []⟩, 0⟩ : Job), [], 4, rfl, ⟨RdT.nil (enc := encPlane) (sz := 4) fR _, (fun z hz => by cases hz), RdT.nil (enc := encStage) (sz := 18) fR _, (fun z hz => by cases hz), RdT.nil (enc := encI) (sz := 1) fR _⟩, DecR.head om (.inl om), h2⟩
 refine sFix 16 _ false (decide_eq_false v2) ?_
 refine pu1 <| gY ?_
 refine sIdx hx 0 Try.runUnderlying31 Try.sizeOf5 ?_
 intro x0 i1 j1 x2 c5
 refine gY ?_
 refine sLp g0 (c5.up 1 rfl) 0 (.int .u8 x0) (Try.isAgg5 _) ?_
 refine pu3 ?_
 by_cases y2 : (x0 : Int) = 84
 rotate_left
 ·refine sFix 22 _ true (bne_iff_ne.2 y2) ?_
  refine pu11 <| nT <| cTt <| sR <| pu1 ?_
  refine sTw g0 0 [.slice none 0 0, .slice none 0 0, .slice none 0 0, I 0] Try.sizeOf28 ?_
  intro _ b2
  try dsimp only [List.set, List.eraseIdx, Value.cells] at b2
  refine pu1 <| nT ?_
  refine retE (thenK_r <| ?_)
  refine retN (vs := [.agg #[.slice none 0 0, .slice none 0 0, .slice none 0 0, I 0], I 4]) rfl (.cons (.cell _ _ _ _ kr (lvA b2 0 0 [.slice none 0 0, .slice none 0 0, .slice none 0 0, I 0] (Try.isAgg28 _) (Try.sizeOf28 _) rfl rfl rfl)) (.cons (.tmp _ _ kr) .nil)) ?_
  have z2 := ((b2.pick 1 rfl).dropAt 1 rfl)
  change Sat _ _ (H :: F) at z2
  have h2 : Sat W _ ([] :: H :: F) := Sat.nilc z2
  exact ⟨(⟨⟨none, 0, 0, []⟩, ⟨none, 0, 0, []⟩, ⟨none, 0, 0, []⟩, 0⟩ : Job), [], 4, rfl, ⟨RdT.nil (enc := encPlane) (sz := 4) fR _, (fun z hz => by cases hz), RdT.nil (enc := encStage) (sz := 18) fR _, (fun z hz => by cases hz), RdT.nil (enc := encI) (sz := 1) fR _⟩, DecR.head om (.inr (.inl ⟨_, x2, om⟩)), h2⟩
 refine sFix 22 _ false (bne_eq_false_iff_eq.2 y2) ?_
 refine pu1 <| gY ?_
 refine sIdx hx 1 Try.runUnderlying31 Try.sizeOf5 ?_
 intro y0 k1 l1 a3 d5
 refine gY ?_
 refine sLp g0 (d5.up 1 rfl) 0 (.int .u8 y0) (Try.isAgg5 _) ?_
 refine pu3 ?_
 by_cases b3 : (y0 : Int) = 70
 rotate_left
 ·refine sFix 28 _ true (bne_iff_ne.2 b3) ?_
  refine pu5 <| nT <| cTt <| sR <| pu1 ?_
  refine sTw g0 0 [.slice none 0 0, .slice none 0 0, .slice none 0 0, I 0] Try.sizeOf28 ?_
  intro _ c2
  try dsimp only [List.set, List.eraseIdx, Value.cells] at c2
  refine pu1 <| nT ?_
  refine retE (thenK_r <| ?_)
  refine retN (vs := [.agg #[.slice none 0 0, .slice none 0 0, .slice none 0 0, I 0], I 4]) rfl (.cons (.cell _ _ _ _ kr (lvA c2 0 0 [.slice none 0 0, .slice none 0 0, .slice none 0 0, I 0] (Try.isAgg28 _) (Try.sizeOf28 _) rfl rfl rfl)) (.cons (.tmp _ _ kr) .nil)) ?_
  have c3 := ((c2.pick 1 rfl).dropAt 1 rfl)
  change Sat _ _ (H :: F) at c3
  have h2 : Sat W _ ([] :: H :: F) := Sat.nilc c3
  exact ⟨(⟨⟨none, 0, 0, []⟩, ⟨none, 0, 0, []⟩, ⟨none, 0, 0, []⟩, 0⟩ : Job), [], 4, rfl, ⟨RdT.nil (enc := encPlane) (sz := 4) fR _, (fun z hz => by cases hz), RdT.nil (enc := encStage) (sz := 18) fR _, (fun z hz => by cases hz), RdT.nil (enc := encI) (sz := 1) fR _⟩, DecR.head om (.inr (.inr (.inl ⟨_, a3, om⟩))), h2⟩
 refine sFix 28 _ false (bne_eq_false_iff_eq.2 b3) ?_
 refine pu1 <| gY ?_
 refine sIdx hx 2 Try.runUnderlying31 Try.sizeOf5 ?_
 intro z0 m1 n1 d3 e5
 refine gY ?_
 refine sLp g0 (e5.up 1 rfl) 0 (.int .u8 z0) (Try.isAgg5 _) ?_
 refine pu2 <| nT ?_
 by_cases e3 : (z0 : Int) = 1
 rotate_left
 ·refine cT _ (bne_iff_ne.2 e3) ?_
  refine sR <| pu1 ?_
  refine sTw g0 0 [.slice none 0 0, .slice none 0 0, .slice none 0 0, I 0] Try.sizeOf28 ?_
  intro _ d2
  try dsimp only [List.set, List.eraseIdx, Value.cells] at d2
  refine pu1 <| nT ?_
  refine retE (thenK_r <| ?_)
  refine retN (vs := [.agg #[.slice none 0 0, .slice none 0 0, .slice none 0 0, I 0], I 4]) rfl (.cons (.cell _ _ _ _ kr (lvA d2 0 0 [.slice none 0 0, .slice none 0 0, .slice none 0 0, I 0] (Try.isAgg28 _) (Try.sizeOf28 _) rfl rfl rfl)) (.cons (.tmp _ _ kr) .nil)) ?_
  have f3 := ((d2.pick 1 rfl).dropAt 1 rfl)
  change Sat _ _ (H :: F) at f3
  have h2 : Sat W _ ([] :: H :: F) := Sat.nilc f3
  exact ⟨(⟨⟨none, 0, 0, []⟩, ⟨none, 0, 0, []⟩, ⟨none, 0, 0, []⟩, 0⟩ : Job), [], 4, rfl, ⟨RdT.nil (enc := encPlane) (sz := 4) fR _, (fun z hz => by cases hz), RdT.nil (enc := encStage) (sz := 18) fR _, (fun z hz => by cases hz), RdT.nil (enc := encI) (sz := 1) fR _⟩, DecR.head om (.inr (.inr (.inr ⟨_, d3, om⟩))), h2⟩
 refine cF _ (bne_eq_false_iff_eq.2 e3) ?_
 refine kT <| sR <| pu1 ?_
 refine sSl (some 3) none 3 n Try.runUnderlying31 Try.sizeOf5 ⟨by decide, rfl⟩ rfl om om ?_ (a := a) (len := n) (cap := k)
 have f5 := hx.part (lo := 3) (hi := n) om om
 refine pu1 ?_
 refine sBox g0 (.agg #[.slice (partAddr a k 3 1) (n - 3) (k - 3), .bool false]) #[.slice (partAddr a k 3 1) (n - 3) (k - 3), .bool false] ?_
 intro a0 _ g5
 refine pu1 <| nT <| seqE ?_
 have h5 : x0 = 84 := by omega
 have i5 : y0 = 70 := by omega
 have j5 : z0 = 1 := by omega
 have hx3 : x = [84, 70, 1] ++ x.drop 3 := by
  have h := take3 x2 a3 d3
  rw [h5, i5, j5] at h; exact h
 have hR2 := f5
 rw [List.take_of_length_le (by simp; omega)] at hR2
 have hI0 : RdrR 102 H a0 (x.drop 3) false [(a0, .cells #[.slice (partAddr a k 3 1) (n - 3) (k - 3), .bool false] 102 (0, 0))] := ⟨_, _, _, rfl, hR2, (fun y hy => hB y (List.mem_of_mem_drop hy)), by simp; omega⟩
 refine regionE <| pu1 ?_
 have g3 := ((g5.pick 2 rfl).pick 1 rfl)
 try dsimp only [List.set, List.eraseIdx, Value.cells] at g3
 refine sF #[Pt a0 0] Try.call49 (Calls.mono (rrf_number W _ _ _ _ _ _ _ hI0 g3) ?_)
 rintro _ _ ⟨b0, k5, l5, rfl, e2, _, _, m5, h3⟩
 refine ⟨_, rfl, ?_⟩
 try dsimp only [List.set, List.eraseIdx, Value.cells] at h3
 refine pu1 ?_
 refine sAlloc h3 Try.zeroValue28 ?_
 intro c0 _ n5
 refine sTw n5 0 [.slice none 0 0, .slice none 0 0, .slice none 0 0, I b0] Try.sizeOf28 ?_
 intro _ i3
 try dsimp only [List.set, List.eraseIdx, Value.cells] at i3
 refine nT ?_
 refine cutE (fun ρ w => ∃ (xsAc : List Plane) (aAc : Option Addr) (nAc : Nat) (kAc : Nat) (GAc : Chunk) (rAc : List Int) (bAc : Bool) (fpAc : Chunk), AllAt ρ [(2, Pt d0 0), (18, .pointer (some ⟨i1, j1, none⟩)), (24, .pointer (some ⟨k1, l1, none⟩)), (30, .pointer (some ⟨m1, n1, none⟩)), (38, Pt a0 0), (4, Pt a0 0), (39, Pt a0 0), (5, Pt c0 0), (3, I 0)] ∧ Sat W w (GAc :: [(c0, .cells #[.slice aAc nAc kAc, .slice none 0 0, .slice none 0 0, I b0] 28 (0, 0))] :: fpAc :: H :: [(d0, .cells #[.slice none 0 0, .slice none 0 0, .slice none 0 0, I 0] 28 (0, 0))] :: F) ∧ Got (encL nPlane) (wfL wfPlane) k5 l5 (xsAc.map Plane.v) rAc bAc ∧ RdrR 102 H a0 rAc bAc fpAc ∧ RdT encPlane 4 [GAc] aAc nAc kAc xsAc ∧ (∀ z ∈ xsAc, Plane.Ok [GAc] z)) ?_ ?_
 ·refine sR <| pu1 ?_
  have j3 := ((i3.pick 2 rfl).pick 2 rfl)
  try dsimp only [List.set, List.eraseIdx, Value.cells] at j3
  refine sF #[Pt a0 0] Try.call50 (Calls.mono (rrf_count W _ _ _ _ _ _ _ m5 j3) ?_)
  rintro _ _ ⟨e0, b1, o1, rfl, f2, o5, k3, l3⟩
  refine ⟨_, rfl, ?_⟩
  have hrng_v_55 := f2.rng; have hcap_v_55 := (by obtain ⟨_, _, _, _, _, _, h⟩ := k3; exact h : b1.length ≤ 262144)
  try dsimp only [List.set, List.eraseIdx, Value.cells] at l3
  refine pu1 <| nT <| blockE ?_
  have p5 := Sat.nilc l3
  have q5 := OwnT.nil (enc := encPlane) (E := 49) (sz := 4) fR
  have m3 := Sat.nilc p5
  try dsimp only [List.set, List.eraseIdx, Value.cells] at m3
  refine loopE (γ := Nat × (List Plane) × (Option Addr) × Nat × Nat × Chunk × Chunk × (List Int) × Bool × Chunk × Int) (fun ⟨iA, xsA, aA, nA, kA, cA, GA, rA, bA, fpA, jA⟩ ρ w => AllAt ρ [(0, .slice a n k), (2, Pt d0 0), (3, I 0), (9, .slice a n k), (10, I ((n : Nat) : Int)), (11, .bool (decide ((((n : Nat) : Int) : Int) > 262144))), (13, .slice a n k), (14, I ((n : Nat) : Int)), (15, .bool (decide ((((n : Nat) : Int) : Int) < 3))), (16, .bool false), (17, .slice a n k), (18, .pointer (some ⟨i1, j1, none⟩)), (19, .int .u8 x0), (20, .bool ((x0 : Int) != 84)), (21, .bool ((x0 : Int) != 84)), (22, .bool false), (23, .slice a n k), (24, .pointer (some ⟨k1, l1, none⟩)), (25, .int .u8 y0), (26, .bool ((y0 : Int) != 70)), (27, .bool ((y0 : Int) != 70)), (28, .bool false), (29, .slice a n k), (30, .pointer (some ⟨m1, n1, none⟩)), (31, .int .u8 z0), (32, .bool ((z0 : Int) != 1)), (33, .bool ((z0 : Int) != 1)), (35, .slice a n k), (36, .slice (partAddr a k 3 1) (n - 3) (k - 3)), (37, .agg #[.slice (partAddr a k 3 1) (n - 3) (k - 3), .bool false]), (38, Pt a0 0), (4, Pt a0 0), (39, Pt a0 0), (40, I b0), (41, .agg #[.slice none 0 0, .slice none 0 0, .slice none 0 0, I b0]), (5, Pt c0 0), (42, Pt a0 0), (43, I e0), (6, I jA)] ∧ Sat W w (GA :: cA :: fpA :: H :: [(c0, .cells #[.slice aA nA kA, .slice none 0 0, .slice none 0 0, I b0] 28 (0, 0))] :: [(d0, .cells #[.slice none 0 0, .slice none 0 0, .slice none 0 0, I 0] 28 (0, 0))] :: F) ∧ (iA : Int) ≤ e0 ∧ Got (encF nPlane) (wfN wfPlane iA) b1 o1 (xsA.map Plane.v) rA bA ∧ RdrR 102 H a0 rA bA fpA ∧ OwnT encPlane 49 4 aA nA kA xsA cA ∧ nA = iA ∧ (∀ z ∈ xsA, Plane.Ok [GA] z) ∧ jA = e0 - iA) (fun ⟨iA, xsA, aA, nA, kA, cA, GA, rA, bA, fpA, jA⟩ => e0.toNat - iA) (0, [], none, 0, 0, [], [], b1, o1, o5, e0) ⟨alA, m3, om, Got.none _ _, k3, q5, rfl, (by intro z hz; cases hz), om⟩ ?_
  skip
  rintro ⟨iA, xsA, aA, nA, kA, cA, GA, rA, bA, fpA, jA⟩ ρ _ ⟨hA, r5, hiA, hGA, hIA, hOA, hnA, hDA, hjA⟩
  refine cAnchor hA (fun ρ => ?_)
  clear hA
  refine seqE <| seqE ?_
  have c1 := (r5.pick 2 rfl)
  try dsimp only [List.set, List.eraseIdx, Value.cells] at c1
  obtain ⟨l0, m0, n0, rfl, d1, g2⟩ := hIA
  have hll_a_66 := d1.len; have hle_a_66 := d1.le
  refine regionE <| pu3 ?_
  by_cases n3 : (jA : Int) > 0
  rotate_left
  ·refine sFix 46 _ false (decide_eq_false n3) ?_
   refine pu6 <| nT <| cFf ?_
   refine exitE (xB <| ?_)
   refine thenK_n ?_
   have s5 : RdrR 102 H a0 rA bA [(a0, .cells #[.slice l0 m0 n0, .bool bA] 102 (0, 0))] := ⟨_, _, _, rfl, d1, g2⟩
   have o3 := ((((((c1.pick 5 rfl).pick 4 rfl).pick 2 rfl).pick 5 rfl).pick 5 rfl).pick 5 rfl)
   try dsimp only [List.set, List.eraseIdx, Value.cells] at o3
   have t5 : Sat W _ ((GA ++ cA) :: ([(c0, .cells #[.slice aA nA kA, .slice none 0 0, .slice none 0 0, I b0] 28 (0, 0))] :: [(a0, .cells #[.slice l0 m0 n0, .bool bA] 102 (0, 0))] :: H :: [(d0, .cells #[.slice none 0 0, .slice none 0 0, .slice none 0 0, I 0] 28 (0, 0))] :: F)) := Sat.perm o3 (by simp)
   have hZ : Got (encF nPlane) (wfN wfPlane e0.toNat) b1 o1 (xsA.map Plane.v) rA bA := by
    by_cases hfull : (iA : Int) = e0
    ·rw [show e0.toNat = iA from by omega]; exact hGA
    ·first | (exfalso; omega) | exact hGA.stop om _
   exact ⟨xsA, aA, nA, kA, (GA ++ cA), rA, bA, [(a0, .cells #[.slice l0 m0 n0, .bool bA] 102 (0, 0))], alA, t5, Got.list nPlane_ge1 f2 hZ, s5, (hOA.rd (fun p hp => by simp [hp])), (fun z hz => (hDA z hz).of_mem mS)⟩
  refine sFix 46 _ true (decide_eq_true n3) ?_
  refine pu3 <| gY ?_
  refine sL c1 0 1 (.bool bA) (Try.isAgg4 _) ?_
  refine pu2 <| nT ?_
  cases bA
  rotate_left
  ·refine cFf ?_
   refine exitE (xB <| ?_)
   refine thenK_n ?_
   have u5 : RdrR 102 H a0 rA true [(a0, .cells #[.slice l0 m0 n0, .bool true] 102 (0, 0))] := ⟨_, _, _, rfl, d1, g2⟩
   have p3 := ((((((c1.pick 5 rfl).pick 4 rfl).pick 2 rfl).pick 5 rfl).pick 5 rfl).pick 5 rfl)
   try dsimp only [List.set, List.eraseIdx, Value.cells] at p3
   have v5 : Sat W _ ((GA ++ cA) :: ([(c0, .cells #[.slice aA nA kA, .slice none 0 0, .slice none 0 0, I b0] 28 (0, 0))] :: [(a0, .cells #[.slice l0 m0 n0, .bool true] 102 (0, 0))] :: H :: [(d0, .cells #[.slice none 0 0, .slice none 0 0, .slice none 0 0, I 0] 28 (0, 0))] :: F)) := Sat.perm p3 (by simp)
   have hZ : Got (encF nPlane) (wfN wfPlane e0.toNat) b1 o1 (xsA.map Plane.v) rA true := by
    by_cases hfull : (iA : Int) = e0
    ·rw [show e0.toNat = iA from by omega]; exact hGA
    ·first | (exfalso; omega) | exact hGA.stop om _
   exact ⟨xsA, aA, nA, kA, (GA ++ cA), rA, true, [(a0, .cells #[.slice l0 m0 n0, .bool true] 102 (0, 0))], alA, v5, Got.list nPlane_ge1 f2 hZ, u5, (hOA.rd (fun p hp => by simp [hp])), (fun z hz => (hDA z hz).of_mem mS)⟩
  refine cTt <| kT <| seqE <| blockE <| sR <| pu1 ?_
  have w5 : RdrR 102 H a0 rA false [(a0, .cells #[.slice l0 m0 n0, .bool false] 102 (0, 0))] := ⟨_, _, _, rfl, d1, g2⟩
  have q3 := ((c1.pick 3 rfl).pick 1 rfl)
  try dsimp only [List.set, List.eraseIdx, Value.cells] at q3
  refine sF #[Pt a0 0] Try.call49 (Calls.mono (rrf_number W _ _ _ _ _ _ _ w5 q3) ?_)
  rintro _ _ ⟨h0, _, _, rfl, x5, _, _, y5, r3⟩
  refine ⟨_, rfl, ?_⟩
  try dsimp only [List.set, List.eraseIdx, Value.cells] at r3
  refine pu1 ?_
  refine sAlloc r3 Try.zeroValue49 ?_
  intro _ _ z5
  refine sTw z5 0 [I h0, I 0, I 0, .slice none 0 0] Try.sizeOf49 ?_
  intro _ s3
  try dsimp only [List.set, List.eraseIdx, Value.cells] at s3
  refine nT <| sR <| pu1 ?_
  have t3 := ((s3.pick 2 rfl).pick 2 rfl)
  try dsimp only [List.set, List.eraseIdx, Value.cells] at t3
  refine sF #[Pt a0 0] Try.call49 (Calls.mono (rrf_number W _ _ _ _ _ _ _ y5 t3) ?_)
  rintro _ _ ⟨i0, _, _, rfl, a6, _, _, b6, u3⟩
  refine ⟨_, rfl, ?_⟩
  try dsimp only [List.set, List.eraseIdx, Value.cells] at u3
  refine pu1 ?_
  refine sT1 u3 2 1 (I i0) #[I h0, I i0, I 0, .slice none 0 0] Try.sizeOf3 ?_
  intro _ v3
  try dsimp only [List.set, List.eraseIdx, Value.cells] at v3
  refine nT <| sR <| pu1 ?_
  have w3 := ((v3.pick 1 rfl).pick 1 rfl)
  try dsimp only [List.set, List.eraseIdx, Value.cells] at w3
  refine sF #[Pt a0 0] Try.call49 (Calls.mono (rrf_number W _ _ _ _ _ _ _ b6 w3) ?_)
  rintro _ _ ⟨j0, _, _, rfl, c6, _, _, d6, x3⟩
  refine ⟨_, rfl, ?_⟩
  try dsimp only [List.set, List.eraseIdx, Value.cells] at x3
  refine pu1 ?_
  refine sT1 x3 2 2 (I j0) #[I h0, I i0, I j0, .slice none 0 0] Try.sizeOf3 ?_
  intro _ y3
  try dsimp only [List.set, List.eraseIdx, Value.cells] at y3
  refine nT <| sR <| pu1 ?_
  have z3 := ((y3.pick 1 rfl).pick 1 rfl)
  try dsimp only [List.set, List.eraseIdx, Value.cells] at z3
  refine sF #[Pt a0 0] Try.call51 (Calls.mono (rrf_numbers W _ _ _ _ _ _ _ d6 z3) ?_)
  rintro _ _ ⟨o0, p0, q0, i2, j2, e6, f6, rfl, g6, h6, a4, i6, b4⟩
  refine ⟨_, rfl, ?_⟩
  try dsimp only [List.set, List.eraseIdx, Value.cells] at b4
  refine pu1 ?_
  refine sT1 b4 3 3 (.slice o0 p0 q0) #[I h0, I i0, I j0, .slice o0 p0 q0] Try.sizeOf22 ?_
  intro _ p1
  try dsimp only [List.set, List.eraseIdx, Value.cells] at p1
  refine nT <| regionE <| pu1 ?_
  refine sL p1 6 0 (.slice aA nA kA) (Try.isAgg25 _) ?_
  refine sLA p1 3 0 [I h0, I i0, I j0, .slice o0 p0 q0] (Try.isAgg49 _) (Try.sizeOf49 _) ?_
  refine sBS p1 #[I h0, I i0, I j0, .slice o0 p0 q0] Try.runUnderlying25 Try.sizeOf49 Try.zeroValue49 ?_
  intro _ _ j6
  refine sApp (nb := 48) j6 hOA 6 (RdT.blk (enc := encPlane) (sz := 4) (xs := [(⟨h0, i0, j0, ⟨o0, p0, q0, i2⟩⟩ : Plane)]) fR 1 0 rfl rfl rfl om) Try.underlying25 (i := Try.t49) kr fR ?_
  intro q1 r1 c4 _ k6 d4
  try dsimp only [List.set, List.eraseIdx, Value.cells] at d4
  refine pu1 ?_
  refine sT1 d4 7 0 (.slice q1 (nA + 1) r1) #[.slice q1 (nA + 1) r1, .slice none 0 0, .slice none 0 0, I b0] Try.sizeOf25 ?_
  intro _ e4
  try dsimp only [List.set, List.eraseIdx, Value.cells] at e4
  refine nB <| regionE <| pu1 ?_
  refine sSub jA 1 ?_
  refine pu1 <| nT ?_
  have hX := hGA.snoc pfPlane (Got.plane x5 a6 c6 h6)
  have f4 := (((((((((e4.pick 8 rfl).pick 8 rfl).pick 5 rfl).pick 4 rfl).pick 8 rfl).pick 8 rfl).pick 7 rfl).dropAt 7 rfl).dropAt 7 rfl)
  try dsimp only [List.set, List.eraseIdx, Value.cells] at f4
  have l6 := (Sat.perm (cs' := (j2 ++ GA) :: (c4 :: a4 :: H :: [(c0, .cells #[.slice q1 (nA + 1) r1, .slice none 0 0, .slice none 0 0, I b0] 28 (0, 0))] :: [(d0, .cells #[.slice none 0 0, .slice none 0 0, .slice none 0 0, I 0] 28 (0, 0))] :: F)) f4 (by simp))
  have hD2 : ∀ z ∈ xsA ++ [(⟨h0, i0, j0, ⟨o0, p0, q0, i2⟩⟩ : Plane)], Plane.Ok [(j2 ++ GA)] z := by
   intro z hz
   rcases List.mem_append.1 hz with h | h
   ·exact (hDA z h).of_mem mS
   ·simp only [List.mem_singleton] at h; subst h; exact ⟨g6.of_mem mS⟩
  exact ⟨(iA + 1, (xsA ++ [(⟨h0, i0, j0, ⟨o0, p0, q0, i2⟩⟩ : Plane)]), q1, (nA + 1), r1, c4, (j2 ++ GA), e6, f6, a4, (jA - 1)), by dsimp only; omega, alA, l6, om, by first | simpa [Plane.v] using hX | simpa using hX, i6, k6, om, hD2, om⟩
 rintro ρ _ ⟨xsAc, aAc, nAc, kAc, GAc, rAc, bAc, fpAc, hA, m6, hLAc, hIAc, hRAc, hDAc⟩
 refine cAnchor hA (fun ρ => ?_)
 clear hA
 refine cutE (fun ρ w => ∃ (xsBc : List Stage) (aBc : Option Addr) (nBc : Nat) (kBc : Nat) (GBc : Chunk) (rBc : List Int) (bBc : Bool) (fpBc : Chunk), AllAt ρ [(2, Pt d0 0), (18, .pointer (some ⟨i1, j1, none⟩)), (24, .pointer (some ⟨k1, l1, none⟩)), (30, .pointer (some ⟨m1, n1, none⟩)), (38, Pt a0 0), (4, Pt a0 0), (39, Pt a0 0), (5, Pt c0 0), (3, I 0)] ∧ Sat W w (GBc :: GAc :: [(c0, .cells #[.slice aAc nAc kAc, .slice aBc nBc kBc, .slice none 0 0, I b0] 28 (0, 0))] :: fpBc :: H :: [(d0, .cells #[.slice none 0 0, .slice none 0 0, .slice none 0 0, I 0] 28 (0, 0))] :: F) ∧ Got (encL nStage) (wfL wfStage) rAc bAc (xsBc.map Stage.v) rBc bBc ∧ RdrR 102 H a0 rBc bBc fpBc ∧ RdT encStage 18 [GBc] aBc nBc kBc xsBc ∧ (∀ z ∈ xsBc, Stage.Ok [GBc] z)) ?_ ?_
 rotate_left
 ·rintro ρ _ ⟨xsBc, aBc, nBc, kBc, GBc, rBc, bBc, fpBc, hA, n6, hLBc, hIBc, hRBc, hDBc⟩
  refine cAnchor hA (fun ρ => ?_)
  clear hA
  refine sR <| pu1 ?_
  have g4 := ((n6.pick 4 rfl).pick 4 rfl)
  try dsimp only [List.set, List.eraseIdx, Value.cells] at g4
  refine sF #[Pt a0 0] Try.call51 (Calls.mono (rrf_numbers W _ _ _ _ _ _ _ hIBc g4) ?_)
  rintro _ _ ⟨r0, s0, t0, o6, h4, s1, i4, rfl, p6, k2, _, q6, j4⟩
  refine ⟨_, rfl, ?_⟩
  try dsimp only [List.set, List.eraseIdx, Value.cells] at j4
  refine pu1 ?_
  refine sT1 j4 5 2 (.slice r0 s0 t0) #[.slice aAc nAc kAc, .slice aBc nBc kBc, .slice r0 s0 t0, I b0] Try.sizeOf22 ?_
  intro _ k0
  try dsimp only [List.set, List.eraseIdx, Value.cells] at k0
  refine nT <| seqE <| seqE ?_
  try dsimp only [List.set, List.eraseIdx, Value.cells] at k0
  obtain ⟨t1, e1, u1, rfl, f1, l2⟩ := q6
  have hll_a_223 := f1.len; have hle_a_223 := f1.le
  refine regionE <| pu3 ?_
  refine sL k0 0 1 (.bool i4) (Try.isAgg4 _) ?_
  refine pu1 ?_
  cases i4
  rotate_left
  ·refine pu7 <| nT <| cTt <| sR <| pu1 ?_
   refine sTw k0 6 [.slice none 0 0, .slice none 0 0, .slice none 0 0, I 0] Try.sizeOf28 ?_
   intro _ m2
   try dsimp only [List.set, List.eraseIdx, Value.cells] at m2
   refine pu1 <| nT ?_
   refine retE (thenK_r <| ?_)
   refine retN (vs := [.agg #[.slice none 0 0, .slice none 0 0, .slice none 0 0, I 0], I 4]) rfl (.cons (.cell _ _ _ _ kr (lvA m2 6 0 [.slice none 0 0, .slice none 0 0, .slice none 0 0, I 0] (Try.isAgg28 _) (Try.sizeOf28 _) rfl rfl rfl)) (.cons (.tmp _ _ kr) .nil)) ?_
   have e9 : RdrR 102 H a0 s1 true [(a0, .cells #[.slice t1 e1 u1, .bool true] 102 (0, 0))] := ⟨_, _, _, rfl, f1, l2⟩
   have hgot := Got.job e2 hLAc hLBc k2
   have k4 := (((((((m2.pick 2 rfl).dropAt 1 rfl).dropAt 1 rfl).dropAt 1 rfl).dropAt 1 rfl).dropAt 1 rfl).dropAt 1 rfl)
   change Sat _ _ (H :: F) at k4
   have h2 : Sat W _ ([] :: H :: F) := Sat.nilc k4
   exact ⟨(⟨⟨none, 0, 0, []⟩, ⟨none, 0, 0, []⟩, ⟨none, 0, 0, []⟩, 0⟩ : Job), [], 4, rfl, ⟨RdT.nil (enc := encPlane) (sz := 4) fR _, (fun z hz => by cases hz), RdT.nil (enc := encStage) (sz := 18) fR _, (fun z hz => by cases hz), RdT.nil (enc := encI) (sz := 1) fR _⟩, DecR.fail om hx3 hgot (by first | (left; rfl) | (right; omega)), h2⟩
  refine pu3 <| gY ?_
  refine sL k0 0 0 (.slice t1 e1 u1) (Try.isAgg31 _) ?_
  refine pu3 <| nT ?_
  by_cases l4 : (((e1 : Nat) : Int) : Int) > 0
  ·refine cT _ (decide_eq_true l4) ?_
   refine sR <| pu1 ?_
   refine sTw k0 6 [.slice none 0 0, .slice none 0 0, .slice none 0 0, I 0] Try.sizeOf28 ?_
   intro _ n2
   try dsimp only [List.set, List.eraseIdx, Value.cells] at n2
   refine pu1 <| nT ?_
   refine retE (thenK_r <| ?_)
   refine retN (vs := [.agg #[.slice none 0 0, .slice none 0 0, .slice none 0 0, I 0], I 4]) rfl (.cons (.cell _ _ _ _ kr (lvA n2 6 0 [.slice none 0 0, .slice none 0 0, .slice none 0 0, I 0] (Try.isAgg28 _) (Try.sizeOf28 _) rfl rfl rfl)) (.cons (.tmp _ _ kr) .nil)) ?_
   have g9 : RdrR 102 H a0 s1 false [(a0, .cells #[.slice t1 e1 u1, .bool false] 102 (0, 0))] := ⟨_, _, _, rfl, f1, l2⟩
   have hgot := Got.job e2 hLAc hLBc k2
   have m4 := (((((((n2.pick 2 rfl).dropAt 1 rfl).dropAt 1 rfl).dropAt 1 rfl).dropAt 1 rfl).dropAt 1 rfl).dropAt 1 rfl)
   change Sat _ _ (H :: F) at m4
   have h2 : Sat W _ ([] :: H :: F) := Sat.nilc m4
   exact ⟨(⟨⟨none, 0, 0, []⟩, ⟨none, 0, 0, []⟩, ⟨none, 0, 0, []⟩, 0⟩ : Job), [], 4, rfl, ⟨RdT.nil (enc := encPlane) (sz := 4) fR _, (fun z hz => by cases hz), RdT.nil (enc := encStage) (sz := 18) fR _, (fun z hz => by cases hz), RdT.nil (enc := encI) (sz := 1) fR _⟩, DecR.fail om hx3 hgot (by first | (left; rfl) | (right; omega)), h2⟩
  refine cF _ (decide_eq_false l4) ?_
  refine kT <| sR ?_
  refine sLA k0 5 0 [.slice aAc nAc kAc, .slice aBc nBc kBc, .slice r0 s0 t0, I b0] (Try.isAgg28 _) (Try.sizeOf28 _) ?_
  refine sTw k0 6 [.slice aAc nAc kAc, .slice aBc nBc kBc, .slice r0 s0 t0, I b0] Try.sizeOf28 ?_
  intro _ o2
  try dsimp only [List.set, List.eraseIdx, Value.cells] at o2
  refine pu1 <| nT <| retE <| retN (vs := [.agg #[.slice aAc nAc kAc, .slice aBc nBc kBc, .slice r0 s0 t0, I b0], I 0]) rfl (.cons (.cell _ _ _ _ kr (lvA o2 6 0 [.slice aAc nAc kAc, .slice aBc nBc kBc, .slice r0 s0 t0, I b0] (Try.isAgg28 _) (Try.sizeOf28 _) rfl rfl rfl)) (.cons (.tmp _ _ kr) .nil)) ?_
  have i9 : RdrR 102 H a0 s1 false [(a0, .cells #[.slice t1 e1 u1, .bool false] 102 (0, 0))] := ⟨_, _, _, rfl, f1, l2⟩
  have hgot := Got.job e2 hLAc hLBc k2
  have hr0 : s1 = [] := List.eq_nil_of_length_eq_zero om
  have n4 := (((((((o2.pick 2 rfl).pick 2 rfl).pick 3 rfl).pick 4 rfl).dropAt 4 rfl).dropAt 4 rfl).dropAt 4 rfl)
  change Sat _ _ (GAc :: GBc :: h4 :: H :: F) at n4
  have r6 := (Sat.perm (cs' := (GAc ++ GBc ++ h4) :: H :: F) n4 (by simp))
  exact ⟨(⟨⟨aAc, nAc, kAc, xsAc⟩, ⟨aBc, nBc, kBc, xsBc⟩, ⟨r0, s0, t0, o6⟩, b0⟩ : Job), _, 0, rfl, ⟨hRAc.of_mem mS, (fun z hz => (hDAc z hz).of_mem mS), hRBc.of_mem mS, (fun z hz => (hDBc z hz).of_mem mS), p6.of_mem mS⟩, DecR.good om hx3 hgot rfl hr0, r6⟩
 refine sR <| pu1 ?_
 have o4 := ((m6.pick 3 rfl).pick 3 rfl)
 try dsimp only [List.set, List.eraseIdx, Value.cells] at o4
 refine sF #[Pt a0 0] Try.call50 (Calls.mono (rrf_count W _ _ _ _ _ _ _ hIAc o4) ?_)
 rintro _ _ ⟨f0, g1, v1, rfl, p2, s6, p4, q4⟩
 refine ⟨_, rfl, ?_⟩
 have hrng_v_154 := p2.rng; have hcap_v_154 := (by obtain ⟨_, _, _, _, _, _, h⟩ := p4; exact h : g1.length ≤ 262144)
 try dsimp only [List.set, List.eraseIdx, Value.cells] at q4
 refine pu1 <| nT <| blockE ?_
 have t6 := Sat.nilc q4
 have u6 := OwnT.nil (enc := encStage) (E := 61) (sz := 18) fR
 have r4 := Sat.nilc t6
 try dsimp only [List.set, List.eraseIdx, Value.cells] at r4
 refine loopE (γ := Nat × (List Stage) × (Option Addr) × Nat × Nat × Chunk × Chunk × (List Int) × Bool × Chunk × Int) (fun ⟨iB, xsB, aB, nB, kB, cB, GB, rB, bB, fpB, jB⟩ ρ w => AllAt ρ [(2, Pt d0 0), (18, .pointer (some ⟨i1, j1, none⟩)), (24, .pointer (some ⟨k1, l1, none⟩)), (30, .pointer (some ⟨m1, n1, none⟩)), (38, Pt a0 0), (4, Pt a0 0), (39, Pt a0 0), (5, Pt c0 0), (3, I 0), (73, Pt a0 0), (74, I f0), (8, I jB)] ∧ Sat W w (GB :: cB :: fpB :: H :: GAc :: [(c0, .cells #[.slice aAc nAc kAc, .slice aB nB kB, .slice none 0 0, I b0] 28 (0, 0))] :: [(d0, .cells #[.slice none 0 0, .slice none 0 0, .slice none 0 0, I 0] 28 (0, 0))] :: F) ∧ (iB : Int) ≤ f0 ∧ Got (encF nStage) (wfN wfStage iB) g1 v1 (xsB.map Stage.v) rB bB ∧ RdrR 102 H a0 rB bB fpB ∧ OwnT encStage 61 18 aB nB kB xsB cB ∧ nB = iB ∧ (∀ z ∈ xsB, Stage.Ok [GB] z) ∧ jB = f0 - iB) (fun ⟨iB, xsB, aB, nB, kB, cB, GB, rB, bB, fpB, jB⟩ => f0.toNat - iB) (0, [], none, 0, 0, [], [], g1, v1, s6, f0) ⟨alA, r4, om, Got.none _ _, p4, u6, rfl, (by intro z hz; cases hz), om⟩ ?_
 skip
 rintro ⟨iB, xsB, aB, nB, kB, cB, GB, rB, bB, fpB, jB⟩ ρ _ ⟨hA, v6, hiB, hGB, hIB, hOB, hnB, hDB, hjB⟩
 refine cAnchor hA (fun ρ => ?_)
 clear hA
 refine seqE <| seqE ?_
 have a1 := (v6.pick 2 rfl)
 try dsimp only [List.set, List.eraseIdx, Value.cells] at a1
 obtain ⟨u0, v0, w0, rfl, h1, q2⟩ := hIB
 have hll_a_165 := h1.len; have hle_a_165 := h1.le
 refine regionE <| pu3 ?_
 by_cases s4 : (jB : Int) > 0
 rotate_left
 ·refine sFix 77 _ false (decide_eq_false s4) ?_
  refine pu6 <| nT <| cFf ?_
  refine exitE (xB <| ?_)
  refine thenK_n ?_
  have w6 : RdrR 102 H a0 rB bB [(a0, .cells #[.slice u0 v0 w0, .bool bB] 102 (0, 0))] := ⟨_, _, _, rfl, h1, q2⟩
  have t4 := (((((((a1.pick 6 rfl).pick 4 rfl).pick 2 rfl).pick 6 rfl).pick 6 rfl).pick 6 rfl).pick 6 rfl)
  try dsimp only [List.set, List.eraseIdx, Value.cells] at t4
  have x6 : Sat W _ ((GB ++ cB) :: (GAc :: [(c0, .cells #[.slice aAc nAc kAc, .slice aB nB kB, .slice none 0 0, I b0] 28 (0, 0))] :: [(a0, .cells #[.slice u0 v0 w0, .bool bB] 102 (0, 0))] :: H :: [(d0, .cells #[.slice none 0 0, .slice none 0 0, .slice none 0 0, I 0] 28 (0, 0))] :: F)) := Sat.perm t4 (by simp)
  have hZ : Got (encF nStage) (wfN wfStage f0.toNat) g1 v1 (xsB.map Stage.v) rB bB := by
   by_cases hfull : (iB : Int) = f0
   ·rw [show f0.toNat = iB from by omega]; exact hGB
   ·first | (exfalso; omega) | exact hGB.stop om _
  exact ⟨xsB, aB, nB, kB, (GB ++ cB), rB, bB, [(a0, .cells #[.slice u0 v0 w0, .bool bB] 102 (0, 0))], alA, x6, Got.list nStage_ge1 p2 hZ, w6, (hOB.rd (fun p hp => by simp [hp])), (fun z hz => (hDB z hz).of_mem mS)⟩
 refine sFix 77 _ true (decide_eq_true s4) ?_
 refine pu3 <| gY ?_
 refine sL a1 0 1 (.bool bB) (Try.isAgg4 _) ?_
 refine pu2 <| nT ?_
 cases bB
 rotate_left
 ·refine cFf ?_
  refine exitE (xB <| ?_)
  refine thenK_n ?_
  have y6 : RdrR 102 H a0 rB true [(a0, .cells #[.slice u0 v0 w0, .bool true] 102 (0, 0))] := ⟨_, _, _, rfl, h1, q2⟩
  have u4 := (((((((a1.pick 6 rfl).pick 4 rfl).pick 2 rfl).pick 6 rfl).pick 6 rfl).pick 6 rfl).pick 6 rfl)
  try dsimp only [List.set, List.eraseIdx, Value.cells] at u4
  have z6 : Sat W _ ((GB ++ cB) :: (GAc :: [(c0, .cells #[.slice aAc nAc kAc, .slice aB nB kB, .slice none 0 0, I b0] 28 (0, 0))] :: [(a0, .cells #[.slice u0 v0 w0, .bool true] 102 (0, 0))] :: H :: [(d0, .cells #[.slice none 0 0, .slice none 0 0, .slice none 0 0, I 0] 28 (0, 0))] :: F)) := Sat.perm u4 (by simp)
  have hZ : Got (encF nStage) (wfN wfStage f0.toNat) g1 v1 (xsB.map Stage.v) rB true := by
   by_cases hfull : (iB : Int) = f0
   ·rw [show f0.toNat = iB from by omega]; exact hGB
   ·first | (exfalso; omega) | exact hGB.stop om _
  exact ⟨xsB, aB, nB, kB, (GB ++ cB), rB, true, [(a0, .cells #[.slice u0 v0 w0, .bool true] 102 (0, 0))], alA, z6, Got.list nStage_ge1 p2 hZ, y6, (hOB.rd (fun p hp => by simp [hp])), (fun z hz => (hDB z hz).of_mem mS)⟩
 refine cTt <| kT <| seqE <| blockE ?_
 refine drawE [3, 4, 5, 7] [(1, ⟨c0, 1, none⟩, .slice aB nB kB)] [(true, [0, 2]), (true, [1]), (false, [3]), (false, [4]), (false, [5]), (true, [6]), (false, [7])] rfl kr ⟨.inr (a1.cell 5 rfl rfl), trivial⟩ ?_
 have a7 := a1.drew
 refine wU [0, 2] ?_
 refine wS (.slice aB nB kB) rfl rfl rfl (fun w hF => Y_load rfl (Try.isAgg26 w) kr (hF 0 _ _ rfl)) ?_
 refine wO rfl ?_
 have b7 : RdrR 102 H a0 rB false [(a0, .cells #[.slice u0 v0 w0, .bool false] 102 (0, 0))] := ⟨_, _, _, rfl, h1, q2⟩
 have v4 := ((a7.pick 3 rfl).pick 1 rfl)
 try dsimp only [List.set, List.eraseIdx, Value.cells] at v4
 refine sF #[Pt a0 0] Try.call52 (Calls.mono (rrf_stage W _ _ _ _ _ _ _ b7 v4) ?_)
 rintro _ _ ⟨w1, r2, c7, d7, rfl, e7, f7, w4, g7, s2⟩
 refine ⟨_, rfl, ?_⟩
 try dsimp only [List.set, List.eraseIdx, Value.cells] at s2
 refine nilO ⟨⟨.inr (s2.cell 6 rfl rfl), trivial⟩, ?_⟩
 refine wO rfl ?_
 refine sBS s2 (encStage w1).toArray Try.runUnderlying26 Try.sizeOf61 Try.zeroValue61 ?_
 intro _ _ x4
 refine nilO ⟨⟨.inr (x4.cell 7 rfl rfl), trivial⟩, ?_⟩
 refine wO rfl ?_
 refine sApp (nb := 240) x4 hOB 5 (RdT.blk (enc := encStage) (sz := 18) (xs := [w1]) fR 1 0 rfl rfl rfl om) Try.underlying26 (i := Try.t61) kr fR ?_
 intro x1 y1 y4 _ h7 z4
 try dsimp only [List.set, List.eraseIdx, Value.cells] at z4
 refine nilO ⟨dA, ?_⟩
 refine wU [6] ?_
 refine wO rfl ?_
 refine sT1 z4 7 1 (.slice x1 (nB + 1) y1) #[.slice aAc nAc kAc, .slice x1 (nB + 1) y1, .slice none 0 0, I b0] Try.sizeOf26 ?_
 intro _ a5
 try dsimp only [List.set, List.eraseIdx, Value.cells] at a5
 refine nilO ⟨dA, ?_⟩
 refine wN ?_
 refine blockK_n <| thenK_n <| regionE <| pu1 ?_
 refine sSub jB 1 ?_
 refine pu1 <| nT ?_
 have hX := hGB.snoc pfStage f7
 have b5 := (((((((((a5.pick 8 rfl).pick 8 rfl).pick 8 rfl).pick 6 rfl).pick 5 rfl).pick 8 rfl).pick 8 rfl).pick 8 rfl).dropAt 8 rfl)
 try dsimp only [List.set, List.eraseIdx, Value.cells] at b5
 have i7 := (Sat.perm (cs' := (r2 ++ GB) :: (y4 :: w4 :: H :: GAc :: [(c0, .cells #[.slice aAc nAc kAc, .slice x1 (nB + 1) y1, .slice none 0 0, I b0] 28 (0, 0))] :: [(d0, .cells #[.slice none 0 0, .slice none 0 0, .slice none 0 0, I 0] 28 (0, 0))] :: F)) b5 (by simp))
 have hD2 : ∀ z ∈ xsB ++ [w1], Stage.Ok [(r2 ++ GB)] z := by
  intro z hz
  rcases List.mem_append.1 hz with h | h
  ·exact (hDB z h).of_mem mS
  ·simp only [List.mem_singleton] at h; subst h; exact e7.of_mem mS
 exact ⟨(iB + 1, (xsB ++ [w1]), x1, (nB + 1), y1, y4, (r2 ++ GB), c7, d7, w4, (jB - 1)), by dsimp only; omega, alA, i7, om, by first | simpa [Stage.v] using hX | simpa using hX, g7, h7, om, hD2, om⟩
end Go.Proofs.Ytcddcpaodcjecaa
