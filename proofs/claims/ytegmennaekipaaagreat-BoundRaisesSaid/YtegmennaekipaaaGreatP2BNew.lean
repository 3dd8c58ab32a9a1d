import Derived.Test.YtegmennaekipaaaGreatP2Short
import Derived.Test.YtegmennaekipaaaGreatP2Pq
import Derived.Test.YtegmennaekipaaaGreatP2Fi
import Derived.Test.YtegmennaekipaaaGreatP2MapI
namespace Go.Proofs.YtegmennaekipaaaGreat
open Go Go.E
set_option linter.unusedVariables false
set_option linter.unusedSimpArgs false
set_option linter.unnecessarySimpa false
set_option maxRecDepth 100000
set_option maxHeartbeats 2000000
variable {W w : World} {H : Chunk} {F : List Chunk}

-- squeezed
theorem nextOf_len : ∀ (k : Nat) (D : List (List Int)) (j : Int), (nextOf k D j).length ≤ D.length
  | _, [], _ => by simp [nextOf]
  | k, d :: D, j => by
    have := nextOf_len (k + 1) D j
    simp only [nextOf, List.length_append, List.length_cons]
    split <;> simp <;> omega
theorem nx_short {es : List BEnt} {l : List Task} {n i q : Nat} {e : List Int} {x : BEnt} (h : es.map BEnt.v = (List.range n).map (entN l (i + 1) ((l.map (·.deps.l)).take i ++ [e]))) (hx : es[q]? = some x) (hi : i < 4096) : x.next.l.length ≤ 4096 := by
  have h1 := (ent_at h hx).2
  have h2 := congrArg BEntV.next h1
  have h3 := nextOf_len 0 ((l.map (·.deps.l)).take i ++ [e]) q
  have h4 : x.next.l = nextOf 0 ((l.map (·.deps.l)).take i ++ [e]) q := by simp only [BEnt.v, entN] at h2; rw [h2]; split <;> rfl
  rw [h4]; simp at h3; omega
theorem b_new (al : Option Addr) (nl kl : Nat) (l : List Task) (hl : RdT encTask 9 [H] al nl kl l) (dl : ∀ z ∈ l, Task.Ok [H] z) (hS : Sat W w (H :: F)) :
  Calls Tryz.prog 51 #[.slice al nl kl] w fun e w' => (validC l ≠ 0 ∧ e = .returned (.tuple #[.pointer none, I (validC l)]) ∧ Sat W w' (H :: F)) ∨ (validC l = 0 ∧ ∃ (p : Nat) (M : Chunk), e = .returned (.tuple #[Pt p 0, I 0]) ∧ BoardR p (newB l) M ∧ Sat W w' (M :: H :: F)) := by
 have hl_l := hl.le; have hn_l := hl.len
 refine callsA 95 Tryz.func51 rfl ?_
 refine sR <| pu2 <| nT <| seqE <| sR <| pu4 ?_
 refine sE 15 ((nl : Nat) : Int) 0 (fun n2 => ?_) (fun n2 => ?_)
 ·refine pu4 <| nT <| cTt <| sR <| pu2 <| nT <| retE <| thenK_r <| retT [.pointer none, I 5] ?_
  exact .inl ⟨by rw [validC_lim om]; decide, by rw [validC_lim om]; rfl, hS⟩
 refine pu4 <| nT ?_
 refine cD (((nl : Nat) : Int) > 4096) (fun o2 => ?_) (fun o2 => ?_)
 ·refine sR <| pu2 <| nT <| retE <| thenK_r <| retT [.pointer none, I 5] ?_
  exact .inl ⟨by rw [validC_lim om]; decide, by rw [validC_lim om]; rfl, hS⟩
 refine kT <| seqE <| sR <| pu3 <| nT <| blockE ?_
 refine loopA (γ := Nat) (fun i => [(0, .slice al nl kl), (20, .slice al nl kl), (21, I ((nl : Nat) : Int)), (22, I ((i : Nat) : Int))]) (fun i w => Sat W w (H :: F) ∧ i ≤ nl ∧ (tasksOK 0 (l.take i) = true) ∧ (0 < nl ∧ nl ≤ 4096)) (fun i => nl - i) 0 ⟨hS, om, by simp [tasksOK], om⟩ ?_
 rintro i ρ _ ⟨z0, hi, hVi, hl0⟩
 refine sR <| pu1 <| nT <| seqE ?_
 refine cD (((i : Nat) : Int) < ((nl : Nat) : Int)) (fun p2 => ?_) (fun p2 => ?_)
 ·refine kT <| seqE <| blockE <| sR <| pu1 ?_
  refine sIdx hl ((i : Nat) : Int) Tryz.runUnderlying39 Tryz.sizeOf45 ?_
  intro i0 _ _ n0 q2
  rw [Int.toNat_natCast] at n0
  refine sLpA z0 (q2.up 0 rfl) 0 (encTask i0) (Tryz.isAgg45 _) (Tryz.sizeOf45 _) ?_
  refine sAlloc z0 Tryz.zeroValue45 ?_
  intro _ _ r2
  refine pu1 ?_
  refine sT r2 0 0 (.agg (encTask i0).toArray) (encTask i0) (encTask i0).toArray Tryz.sizeOf45 ?_
  intro _ t1
  refine nT <| sR ?_
  refine lA t1 0 0 9 (Tryz.isAgg45 _) (Tryz.sizeOf45 _) ?_
  refine pu1 ?_
  refine cR Tryz.call106 (b_valid i0 ((i : Nat) : Int) ⟨(RdT.flat ((dl i0 (List.mem_of_getElem? n0)).deps.up 1 (by rfl)))⟩ (Sat.flat t1)) ?_
  intro _ u1
  refine pu1 <| nT ?_
  refine cBn (taskOK ((i : Nat) : Int) i0) (fun a1 => ?_) (fun a1 => ?_)
  ·refine skipE <| blockK_n <| thenK_n <| regionE ?_
   refine sAdd ((i : Nat) : Int) 1 ?_
   refine pu1 <| nT ?_
   have s2 := (u1.dropAt 0 rfl)
   exact ⟨i + 1, od, alA, s2, om, (by rw [tasksOK_take n0, hVi]; simpa using a1), om⟩
  refine sR <| pu2 <| nT <| retE <| blockK_r <| thenK_r <| tR <| thenK_r <| retT [.pointer none, I 1] ?_
  have t2 := (u1.dropAt 0 rfl)
  have hv1 := validC_bad om om (tasksOK_no n0 (by simpa using a1))
  exact .inl ⟨by rw [hv1]; decide, by rw [hv1]; rfl, t2⟩
 refine exitE <| xB <| thenK_n <| seqE ?_
 have hV : tasksOK 0 l = true := by rw [← List.take_of_length_le (i := i) (l := l) om]; exact hVi
 refine regionE <| pu2 ?_
 refine sMake (kl := .i64) (kc := .i64) (enc := encBEnt) (sz := 4) (nb := 48) z0 ⟨0, 0, 0, ⟨none, 0, 0, []⟩⟩ nl ((nl : Nat) : Int) (rfl : ((nl : Nat) : Int) = ((nl : Nat) : Int)) Tryz.underlying160 (i := Tryz.t165) kr fR ?_
 intro o0 v1 _ u2 v2
 refine pu1 ?_
 refine sBox v2 (.agg #[.slice (At o0 0) nl nl, I 0]) #[.slice (At o0 0) nl nl, I 0] ?_
 intro c0 _ w2
 refine pu1 <| nT <| seqE <| sR <| pu3 <| nT <| blockE ?_
 have x2 : Sat W _ ([(c0, .cells #[.slice (At o0 0) nl nl, I 0] 162 (0, 0))] :: v1 :: (List.replicate nl ([] : Chunk)).flatten :: H :: F) := Sat.perm w2 (by simp)
 refine loopA (γ := Nat × (Option Addr) × Nat × (List BEnt) × Chunk × (List Chunk)) (fun ⟨i, ae, ke, es, c, cs⟩ => [(39, I ((i : Nat) : Int)), (37, .slice al nl kl), (38, I ((nl : Nat) : Int)), (6, Pt c0 0)]) (fun ⟨i, ae, ke, es, c, cs⟩ w => Sat W w ([(c0, .cells #[.slice ae nl ke, I 0] 162 (0, 0))] :: c :: cs.flatten :: H :: F) ∧ i ≤ nl ∧ OwnT encBEnt 165 4 ae nl ke es c ∧ Nx es cs ∧ es.map BEnt.v = (List.range nl).map (entN l i ((l.map (·.deps.l)).take i))) (fun ⟨i, ae, ke, es, c, cs⟩ => nl - i) (0, (At o0 0), nl, (List.replicate nl ⟨0, 0, 0, ⟨none, 0, 0, []⟩⟩), v1, (List.replicate nl [])) ⟨x2, om, u2, Nx.rep _ _ rfl, (by rw [List.take_zero]; exact ents_init l nl _ rfl)⟩ ?_
 rintro ⟨i, ae, ke, es, c, cs⟩ ρ _ ⟨b1, hi, hO, hN, hE⟩
 have hlo := hO.le; have hlno := hO.len
 refine sR <| pu1 <| nT <| seqE ?_
 refine cD (((i : Nat) : Int) < ((nl : Nat) : Int)) (fun y2 => ?_) (fun y2 => ?_)
 rotate_left
 ·refine exitE <| xB <| thenK_n <| sR <| pu3 <| nT <| retE <| retT [Pt c0 0, I 0] ?_
  obtain rfl : nl = i := by omega
  have hE2 := ents_new om hE
  have z2 : Sat W _ (([(c0, .cells #[.slice ae nl ke, I 0] 162 (0, 0))] ++ (c ++ cs.flatten)) :: H :: F) := Sat.perm b1 (by simp)
  exact .inr ⟨validC_ok om om hV, _, _, rfl, ⟨_, _, _, es, c, cs.flatten, by rw [done_new], hO, hN.ok, hE2⟩, z2⟩
 refine kT <| seqE <| blockE <| sR <| pu1 ?_
 refine sIdx hl ((i : Nat) : Int) Tryz.runUnderlying39 Tryz.sizeOf45 ?_
 intro a0 _ _ h0 a3
 rw [Int.toNat_natCast] at h0
 refine sLpA b1 (a3.up 3 rfl) 0 (encTask a0) (Tryz.isAgg45 _) (Tryz.sizeOf45 _) ?_
 refine sAlloc b1 Tryz.zeroValue45 ?_
 intro _ _ b3
 refine pu1 ?_
 refine sT b3 0 0 (.agg (encTask a0).toArray) (encTask a0) (encTask a0).toArray Tryz.sizeOf45 ?_
 intro _ w1
 refine nilO ?_
 have hA := taskOK_asc (tasksOK_at hV h0)
 have hnd := (dl a0 (List.mem_of_getElem? h0)).deps.len; have hld := (dl a0 (List.mem_of_getElem? h0)).deps.le
 refine thenK_n <| sR <| pu3 ?_
 refine sL w1 1 0 (.slice ae nl ke) (Tryz.isAgg160 _) ?_
 refine pu1 ?_
 refine sIdxO hO ((i : Nat) : Int) i Tryz.runUnderlying160 Tryz.sizeOf165 ?_
 intro b0 _ _ j0 _ k0
 refine pu1 <| nT <| sR <| pu3 ?_
 refine sStF w1 hO k0 2 i 0 b0 (⟨2, b0.attempt, b0.pending, b0.next⟩ : BEnt) j0 (I 2) [I 2] Tryz.sizeOf3 ?_
 intro _ _ x1 y1
 refine nT <| sR <| pu2 ?_
 refine sL y1 0 6 (.slice a0.deps.a a0.deps.n a0.deps.k) (Tryz.isAgg22 _) ?_
 refine pu3 ?_
 have z1 := set_at (y := (⟨2, b0.attempt, b0.pending, b0.next⟩ : BEnt)) j0
 have x4 := OwnT.ptr x1 k0 z1
 refine sStF y1 x1 k0 2 i 2 (⟨2, b0.attempt, b0.pending, b0.next⟩ : BEnt) (⟨2, b0.attempt, ((a0.deps.n : Nat) : Int), b0.next⟩ : BEnt) z1 (I ((a0.deps.n : Nat) : Int)) [I ((a0.deps.n : Nat) : Int)] Tryz.sizeOf3 ?_
 intro _ c3 p0 q0
 rw [List.set_set] at p0
 refine nT <| seqE <| sR <| pu3 ?_
 have a2 := set_at (y := (⟨2, b0.attempt, ((a0.deps.n : Nat) : Int), b0.next⟩ : BEnt)) j0
 have d3 := OwnT.ptr p0 k0 a2
 refine sLp q0 (d3.up 2 rfl) 2 (I ((a0.deps.n : Nat) : Int)) (Tryz.isAgg3 _) ?_
 refine pu1 <| nT ?_
 refine cD (((a0.deps.n : Nat) : Int) > 0) (fun e3 => ?_) (fun e3 => ?_)
 rotate_left
 ·refine kT <| sR <| pu1 ?_
  refine sL q0 0 6 (.slice a0.deps.a a0.deps.n a0.deps.k) (Tryz.isAgg22 _) ?_
  refine pu2 <| nT <| blockE ?_
  have f3 := (q0.dropAt 0 rfl)
  refine loopA (γ := Nat × (List BEnt) × Chunk × (List Chunk)) (fun ⟨j, es1, c1, cs1⟩ => [(70, I ((j : Nat) : Int)), (68, .slice a0.deps.a a0.deps.n a0.deps.k), (69, I ((a0.deps.n : Nat) : Int)), (7, I ((i : Nat) : Int)), (6, Pt c0 0), (39, I ((i : Nat) : Int)), (37, .slice al nl kl), (38, I ((nl : Nat) : Int))]) (fun ⟨j, es1, c1, cs1⟩ w => Sat W w ([(c0, .cells #[.slice ae nl ke, I 0] 162 (0, 0))] :: c1 :: cs1.flatten :: H :: F) ∧ j ≤ a0.deps.n ∧ OwnT encBEnt 165 4 ae nl ke es1 c1 ∧ Nx es1 cs1 ∧ es1.map BEnt.v = (List.range nl).map (entN l (i + 1) ((l.map (·.deps.l)).take i ++ [a0.deps.l.take j]))) (fun ⟨j, es1, c1, cs1⟩ => a0.deps.n - j) (0, (es.set i (⟨2, b0.attempt, ((a0.deps.n : Nat) : Int), b0.next⟩ : BEnt)), c3, cs) ⟨f3, om, p0, (Nx.keep hN j0 rfl), (ents_open hE h0 j0 (by simp only [st0]; first | rw [if_pos om] | rw [if_neg om]) rfl (by dsimp only; omega) rfl)⟩ ?_
  rintro ⟨j, es1, c1, cs1⟩ ρ _ ⟨d1, hj, hO1, hN1, hEj⟩
  have hlo1 := hO1.le; have hlno1 := hO1.len
  refine sR <| pu1 <| nT <| seqE ?_
  refine cD (((j : Nat) : Int) < ((a0.deps.n : Nat) : Int)) (fun g3 => ?_) (fun g3 => ?_)
  rotate_left
  ·refine exitE <| xB <| blockK_n <| thenK_n <| regionE ?_
   refine sAdd ((i : Nat) : Int) 1 ?_
   refine pu1 <| nT ?_
   rw [show j = a0.deps.l.length by omega] at hEj
   exact ⟨(i + 1, ae, ke, es1, c1, cs1), od, alA, d1, om, hO1, hN1, ents_done hEj h0⟩
  refine kT <| seqE <| blockE <| sR ?_
  refine sIdx (dl a0 (List.mem_of_getElem? h0)).deps ((j : Nat) : Int) Tryz.runUnderlying22 Tryz.sizeOf3 ?_
  intro f0 _ _ e1 h3
  rw [Int.toNat_natCast] at e1
  refine sLp d1 (h3.up 3 rfl) 0 (I f0) (Tryz.isAgg3 _) ?_
  refine pu1 <| nT ?_
  have hdm := asc_mem hA f0 (List.mem_of_getElem? e1)
  obtain ⟨d0, _, _, r0, _, _, _⟩ := OwnT.elem hO1 f0
  obtain ⟨i3, b2, f1⟩ := hN1.get r0
  have hlx := f1.le; have hnx := f1.len
  have l0 := Sat.openN (A := [[(c0, .cells #[.slice ae nl ke, I 0] 162 (0, 0))], c1]) f0.toNat b2 d1
  change Sat _ _ (i3 :: [(c0, .cells #[.slice ae nl ke, I 0] 162 (0, 0))] :: c1 :: (cs1.eraseIdx f0.toNat).flatten :: H :: F) at l0
  have hxb : d0.next.l.length ≤ 4096 := nx_short hEj r0 om
  obtain ⟨j3, g1, h1, c2, d2, e2, k3⟩ := OwnT.elem hO1 f0
  obtain rfl : d0 = j3 := Option.some.inj (r0.symm.trans c2)
  refine drawE [14, 15, 18] [(3, ⟨c0, 0, none⟩, .slice ae nl ke), (8, ⟨c0, 0, none⟩, .slice ae nl ke), (12, ⟨g1, h1 + (f0).toNat * 4 + 3, none⟩, .slice d0.next.a d0.next.n d0.next.k)] [(true, [0, 1, 2, 4, 5, 6, 7, 9, 13]), (true, [3]), (true, [8]), (true, [10]), (true, [11]), (true, [12]), (false, [14]), (false, [15]), (true, [16]), (true, [17]), (false, [18])] rfl kr ⟨.inr (l0.cell 1 rfl rfl), .inr (l0.cell 1 rfl rfl), .inr ((d2.up 2 rfl).cell l0 (k := 3) rfl), trivial⟩ ?_
  have l3 := l0.drew
  refine wU [0, 1, 2, 4, 5, 6, 7, 9, 13] ?_
  refine wLd (.slice ae nl ke) 0 Tryz.isAgg160 ?_
  refine wLd (.slice ae nl ke) 1 Tryz.isAgg160 ?_
  refine wY (.pointer (some ⟨g1, h1 + (f0).toNat * 4, none⟩)) rfl (fun w _ => Y_idx (a := ae) (i := f0) (len := nl) (cap := ke) rfl Tryz.runUnderlying160 Tryz.sizeOf165 kr kr e2) ?_
  refine wU [11] ?_
  refine wLd (.slice d0.next.a d0.next.n d0.next.k) 2 Tryz.isAgg22 ?_
  refine wO rfl ?_
  refine sBS l3 #[I ((i : Nat) : Int)] Tryz.runUnderlying22 Tryz.sizeOf3 Tryz.zeroValue3 ?_
  intro _ _ s0
  refine nilO ⟨⟨.inr (s0.cell 2 rfl rfl), .inr (s0.cell 2 rfl rfl), .inr ((d2.up 3 rfl).cell s0 (k := 3) rfl), trivial⟩, ?_⟩
  refine wO rfl ?_
  refine sApp (nb := 8) s0 f1 1 (RdT.blk (enc := encI) (sz := 1) (xs := [((i : Nat) : Int)]) fR 1 0 rfl rfl rfl om) Tryz.underlying22 (i := Tryz.t3) kr fR ?_
  intro t0 u0 i1 _ m3 j1
  refine nilO ⟨⟨.inr (j1.cell 2 rfl rfl), .inr (j1.cell 2 rfl rfl), dI, trivial⟩, ?_⟩
  refine wY (.pointer (some ⟨g1, h1 + (f0).toNat * 4, none⟩)) rfl (fun w _ => Y_idx (a := ae) (i := f0) (len := nl) (cap := ke) rfl Tryz.runUnderlying160 Tryz.sizeOf165 kr kr e2) ?_
  refine wU [17] ?_
  refine wO rfl ?_
  refine sStF j1 hO1 k3 3 (f0).toNat 3 d0 (⟨d0.state, d0.attempt, d0.pending, ⟨t0, (d0.next.n + 1), u0, (d0.next.l ++ [((i : Nat) : Int)])⟩⟩ : BEnt) c2 (.slice t0 (d0.next.n + 1) u0) [.slice t0 (d0.next.n + 1) u0] Tryz.sizeOf22 ?_
  intro _ k1 n3 o3
  refine nilO ⟨dA, ?_⟩
  refine wN ?_
  have p3 := (o3.dropAt 0 rfl)
  have f2 := Sat.shutN (d := i1) (A := [[(c0, .cells #[.slice ae nl ke, I 0] 162 (0, 0))], k1]) f0.toNat b2 p3
  change Sat _ _ ([(c0, .cells #[.slice ae nl ke, I 0] 162 (0, 0))] :: k1 :: (cs1.set f0.toNat i1).flatten :: H :: F) at f2
  refine blockK_n <| thenK_n <| regionE ?_
  refine sAdd ((j : Nat) : Int) 1 ?_
  refine pu1 <| nT ?_
  exact ⟨(j + 1, (es1.set ((f0).toNat) (⟨d0.state, d0.attempt, d0.pending, ⟨t0, (d0.next.n + 1), u0, (d0.next.l ++ [((i : Nat) : Int)])⟩⟩ : BEnt)), k1, (cs1.set f0.toNat i1)), od, alA, f2, om, n3, (hN1.set m3), (ents_dep hEj h0 e1 hA r0 rfl rfl rfl rfl)⟩
 refine regionE <| pu3 ?_
 refine sStF q0 p0 k0 2 i 0 (⟨2, b0.attempt, ((a0.deps.n : Nat) : Int), b0.next⟩ : BEnt) (⟨1, b0.attempt, ((a0.deps.n : Nat) : Int), b0.next⟩ : BEnt) a2 (I 1) [I 1] Tryz.sizeOf3 ?_
 intro _ q3 g2 h2
 rw [List.set_set] at g2
 refine nT <| sR <| pu1 ?_
 refine sL h2 0 6 (.slice a0.deps.a a0.deps.n a0.deps.k) (Tryz.isAgg22 _) ?_
 refine pu2 <| nT <| blockE ?_
 have r3 := (h2.dropAt 0 rfl)
 refine loopA (γ := Nat × (List BEnt) × Chunk × (List Chunk)) (fun ⟨j, es1, c1, cs1⟩ => [(70, I ((j : Nat) : Int)), (68, .slice a0.deps.a a0.deps.n a0.deps.k), (69, I ((a0.deps.n : Nat) : Int)), (7, I ((i : Nat) : Int)), (6, Pt c0 0), (39, I ((i : Nat) : Int)), (37, .slice al nl kl), (38, I ((nl : Nat) : Int))]) (fun ⟨j, es1, c1, cs1⟩ w => Sat W w ([(c0, .cells #[.slice ae nl ke, I 0] 162 (0, 0))] :: c1 :: cs1.flatten :: H :: F) ∧ j ≤ a0.deps.n ∧ OwnT encBEnt 165 4 ae nl ke es1 c1 ∧ Nx es1 cs1 ∧ es1.map BEnt.v = (List.range nl).map (entN l (i + 1) ((l.map (·.deps.l)).take i ++ [a0.deps.l.take j]))) (fun ⟨j, es1, c1, cs1⟩ => a0.deps.n - j) (0, (es.set i (⟨1, b0.attempt, ((a0.deps.n : Nat) : Int), b0.next⟩ : BEnt)), q3, cs) ⟨r3, om, g2, (Nx.keep hN j0 rfl), (ents_open hE h0 j0 (by simp only [st0]; first | rw [if_pos om] | rw [if_neg om]) rfl (by dsimp only; omega) rfl)⟩ ?_
 rintro ⟨j, es1, c1, cs1⟩ ρ _ ⟨l1, hj, hO1, hN1, hEj⟩
 have hlo1 := hO1.le; have hlno1 := hO1.len
 refine sR <| pu1 <| nT <| seqE ?_
 refine cD (((j : Nat) : Int) < ((a0.deps.n : Nat) : Int)) (fun s3 => ?_) (fun s3 => ?_)
 rotate_left
 ·refine exitE <| xB <| blockK_n <| thenK_n <| regionE ?_
  refine sAdd ((i : Nat) : Int) 1 ?_
  refine pu1 <| nT ?_
  rw [show j = a0.deps.l.length by omega] at hEj
  exact ⟨(i + 1, ae, ke, es1, c1, cs1), od, alA, l1, om, hO1, hN1, ents_done hEj h0⟩
 refine kT <| seqE <| blockE <| sR ?_
 refine sIdx (dl a0 (List.mem_of_getElem? h0)).deps ((j : Nat) : Int) Tryz.runUnderlying22 Tryz.sizeOf3 ?_
 intro g0 _ _ m1 u3
 rw [Int.toNat_natCast] at m1
 refine sLp l1 (u3.up 3 rfl) 0 (I g0) (Tryz.isAgg3 _) ?_
 refine pu1 <| nT ?_
 have hdm := asc_mem hA g0 (List.mem_of_getElem? m1)
 obtain ⟨e0, _, _, v0, _, _, _⟩ := OwnT.elem hO1 g0
 obtain ⟨v3, i2, n1⟩ := hN1.get v0
 have hlx := n1.le; have hnx := n1.len
 have m0 := Sat.openN (A := [[(c0, .cells #[.slice ae nl ke, I 0] 162 (0, 0))], c1]) g0.toNat i2 l1
 change Sat _ _ (v3 :: [(c0, .cells #[.slice ae nl ke, I 0] 162 (0, 0))] :: c1 :: (cs1.eraseIdx g0.toNat).flatten :: H :: F) at m0
 have hxb : e0.next.l.length ≤ 4096 := nx_short hEj v0 om
 obtain ⟨w3, o1, p1, j2, k2, l2, x3⟩ := OwnT.elem hO1 g0
 obtain rfl : e0 = w3 := Option.some.inj (v0.symm.trans j2)
 refine drawE [14, 15, 18] [(3, ⟨c0, 0, none⟩, .slice ae nl ke), (8, ⟨c0, 0, none⟩, .slice ae nl ke), (12, ⟨o1, p1 + (g0).toNat * 4 + 3, none⟩, .slice e0.next.a e0.next.n e0.next.k)] [(true, [0, 1, 2, 4, 5, 6, 7, 9, 13]), (true, [3]), (true, [8]), (true, [10]), (true, [11]), (true, [12]), (false, [14]), (false, [15]), (true, [16]), (true, [17]), (false, [18])] rfl kr ⟨.inr (m0.cell 1 rfl rfl), .inr (m0.cell 1 rfl rfl), .inr ((k2.up 2 rfl).cell m0 (k := 3) rfl), trivial⟩ ?_
 have y3 := m0.drew
 refine wU [0, 1, 2, 4, 5, 6, 7, 9, 13] ?_
 refine wLd (.slice ae nl ke) 0 Tryz.isAgg160 ?_
 refine wLd (.slice ae nl ke) 1 Tryz.isAgg160 ?_
 refine wY (.pointer (some ⟨o1, p1 + (g0).toNat * 4, none⟩)) rfl (fun w _ => Y_idx (a := ae) (i := g0) (len := nl) (cap := ke) rfl Tryz.runUnderlying160 Tryz.sizeOf165 kr kr l2) ?_
 refine wU [11] ?_
 refine wLd (.slice e0.next.a e0.next.n e0.next.k) 2 Tryz.isAgg22 ?_
 refine wO rfl ?_
 refine sBS y3 #[I ((i : Nat) : Int)] Tryz.runUnderlying22 Tryz.sizeOf3 Tryz.zeroValue3 ?_
 intro _ _ w0
 refine nilO ⟨⟨.inr (w0.cell 2 rfl rfl), .inr (w0.cell 2 rfl rfl), .inr ((k2.up 3 rfl).cell w0 (k := 3) rfl), trivial⟩, ?_⟩
 refine wO rfl ?_
 refine sApp (nb := 8) w0 n1 1 (RdT.blk (enc := encI) (sz := 1) (xs := [((i : Nat) : Int)]) fR 1 0 rfl rfl rfl om) Tryz.underlying22 (i := Tryz.t3) kr fR ?_
 intro x0 y0 q1 _ z3 r1
 refine nilO ⟨⟨.inr (r1.cell 2 rfl rfl), .inr (r1.cell 2 rfl rfl), dI, trivial⟩, ?_⟩
 refine wY (.pointer (some ⟨o1, p1 + (g0).toNat * 4, none⟩)) rfl (fun w _ => Y_idx (a := ae) (i := g0) (len := nl) (cap := ke) rfl Tryz.runUnderlying160 Tryz.sizeOf165 kr kr l2) ?_
 refine wU [17] ?_
 refine wO rfl ?_
 refine sStF r1 hO1 x3 3 (g0).toNat 3 e0 (⟨e0.state, e0.attempt, e0.pending, ⟨x0, (e0.next.n + 1), y0, (e0.next.l ++ [((i : Nat) : Int)])⟩⟩ : BEnt) j2 (.slice x0 (e0.next.n + 1) y0) [.slice x0 (e0.next.n + 1) y0] Tryz.sizeOf22 ?_
 intro _ s1 a4 b4
 refine nilO ⟨dA, ?_⟩
 refine wN ?_
 have c4 := (b4.dropAt 0 rfl)
 have m2 := Sat.shutN (d := q1) (A := [[(c0, .cells #[.slice ae nl ke, I 0] 162 (0, 0))], s1]) g0.toNat i2 c4
 change Sat _ _ ([(c0, .cells #[.slice ae nl ke, I 0] 162 (0, 0))] :: s1 :: (cs1.set g0.toNat q1).flatten :: H :: F) at m2
 refine blockK_n <| thenK_n <| regionE ?_
 refine sAdd ((j : Nat) : Int) 1 ?_
 refine pu1 <| nT ?_
 exact ⟨(j + 1, (es1.set ((g0).toNat) (⟨e0.state, e0.attempt, e0.pending, ⟨x0, (e0.next.n + 1), y0, (e0.next.l ++ [((i : Nat) : Int)])⟩⟩ : BEnt)), s1, (cs1.set g0.toNat q1)), od, alA, m2, om, a4, (hN1.set z3), (ents_dep hEj h0 m1 hA v0 rfl rfl rfl rfl)⟩

theorem map_zero {α : Type} (l : List α) : l.map (fun _ => (0 : Int)) = List.replicate l.length 0 := by
  induction l with
  | nil => rfl
  | cons x l ih => rw [List.map_cons, ih, List.length_cons, List.replicate_succ]
theorem st_step {l : List Task} {ss : List Int} {n i : Nat} {t : Task} {y : Int} (ht : l[i]? = some t) (h : ss = (l.take i).map (fun t => st0 t.deps.l) ++ List.replicate (n - i) 0) (hi : i < n) (hy : y = st0 t.deps.l) :
    ss.set i y = (l.take (i + 1)).map (fun t => st0 t.deps.l) ++ List.replicate (n - (i + 1)) 0 := by
  rw [h, hy]; exact set_rep (f := fun t : Task => st0 t.deps.l) ht hi
theorem r25_new (al : Option Addr) (nl kl : Nat) (l : List Task) (hl : RdT encTask 9 [H] al nl kl l) (dl : ∀ z ∈ l, Task.Ok [H] z) (hS : Sat W w (H :: F)) :
  Calls Tryz.prog 57 #[.slice al nl kl] w fun e w' => (validC l ≠ 0 ∧ e = .returned (.tuple #[.pointer none, I (validC l)]) ∧ Sat W w' (H :: F)) ∨ (validC l = 0 ∧ ∃ (p : Nat) (M : Chunk), e = .returned (.tuple #[Pt p 0, I 0]) ∧ RefR p (newB l) M ∧ Sat W w' (M :: H :: F)) := by
 have hl_l := hl.le; have hn_l := hl.len
 refine callsA 62 Tryz.func57 rfl ?_
 refine sR <| pu2 <| nT <| seqE <| sR <| pu1 ?_
 refine cR Tryz.call110 (r25_valid al nl kl l (RdT.flat (hl.up 0 (by rfl))) (fun z hz => (dl z hz).of_mem (mem_flat1 0 (by rfl))) (Sat.flat hS)) ?_
 intro _ s0
 refine pu1 <| nT <| sR <| pu2 <| nT ?_
 refine cN (validC l) 0 (fun j0 => ?_) (fun j0 => ?_)
 rotate_left
 ·refine sR <| pu3 <| nT <| retE <| thenK_r <| retT [.pointer none, I (validC l)] ?_
  exact .inl ⟨j0, rfl, s0⟩
 refine kT ?_
 refine cutA (γ := Nat × (Option Addr) × Nat × (Option Addr) × Nat × Chunk × Chunk) (fun ⟨p, sa, ks, aa, ka, cs, ca⟩ => [(0, .slice al nl kl), (5, Pt p 0)]) (fun ⟨p, sa, ks, aa, ka, cs, ca⟩ w => Sat W w ([(p, .cells #[.slice none 0 0, .slice sa nl ks, .slice aa nl ka] 169 (0, 0))] :: cs :: ca :: H :: F) ∧ OwnT encI 3 1 sa nl ks (List.replicate nl 0) cs ∧ OwnT encI 3 1 aa nl ka (List.replicate nl 0) ca) ?_ ?_
 ·have hv0 : validC l = 0 := j0
  have hvz := validC_zero hv0
  refine drawP [2, 5, 7] [] (Plan.sts [0, 1, 3, 4] <| .fk 2 5 (.ef 5 <| Plan.sts [6] <| .ef 7 <| Plan.sts [8] <| .fin) (.ef 2 <| Plan.sts [6] <| .ef 7 <| Plan.sts [8] <| .fin)) rfl kr trivial ?_
  have t0 := s0.drew
  refine qU [0, 1, 3, 4] ?_
  refine qF ?_ ?_
  rotate_left
  ·refine qO rfl ?_
   refine sMake (kl := .i64) (kc := .i64) (enc := encI) (sz := 1) (nb := 8) t0 0 nl ((nl : Nat) : Int) (rfl : ((nl : Nat) : Int) = ((nl : Nat) : Int)) Tryz.underlying22 (i := Tryz.t3) kr fR ?_
   intro m0 b1 _ c1 d1
   refine nilO ⟨trivial, ?_⟩
   refine qO rfl ?_
   refine sMake (kl := .i64) (kc := .i64) (enc := encI) (sz := 1) (nb := 8) d1 0 nl ((nl : Nat) : Int) (rfl : ((nl : Nat) : Int) = ((nl : Nat) : Int)) Tryz.underlying22 (i := Tryz.t3) kr fR ?_
   intro n0 e1 _ f1 g1
   refine nilO ⟨trivial, ?_⟩
   refine qU [6] ?_
   refine qO rfl ?_
   refine sBox g1 (.agg #[.slice none 0 0, .slice (At n0 0) nl nl, .slice (At m0 0) nl nl]) #[.slice none 0 0, .slice (At n0 0) nl nl, .slice (At m0 0) nl nl] ?_
   intro h1 _ i1
   refine nilO ⟨trivial, ?_⟩
   refine qU [8] ?_
   refine qN ?_
   refine thenK_n ?_
   exact ⟨(h1, (At n0 0), nl, (At m0 0), nl, e1, b1), alA, i1, f1, c1⟩
  refine qO rfl ?_
  refine sMake (kl := .i64) (kc := .i64) (enc := encI) (sz := 1) (nb := 8) t0 0 nl ((nl : Nat) : Int) (rfl : ((nl : Nat) : Int) = ((nl : Nat) : Int)) Tryz.underlying22 (i := Tryz.t3) kr fR ?_
  intro o0 j1 _ k1 l1
  refine nilO ⟨trivial, ?_⟩
  refine qO rfl ?_
  refine sMake (kl := .i64) (kc := .i64) (enc := encI) (sz := 1) (nb := 8) l1 0 nl ((nl : Nat) : Int) (rfl : ((nl : Nat) : Int) = ((nl : Nat) : Int)) Tryz.underlying22 (i := Tryz.t3) kr fR ?_
  intro p0 m1 _ n1 o1
  refine nilO ⟨trivial, ?_⟩
  refine qU [6] ?_
  refine qO rfl ?_
  refine sBox o1 (.agg #[.slice none 0 0, .slice (At o0 0) nl nl, .slice (At p0 0) nl nl]) #[.slice none 0 0, .slice (At o0 0) nl nl, .slice (At p0 0) nl nl] ?_
  intro p1 _ q1
  refine nilO ⟨trivial, ?_⟩
  refine qU [8] ?_
  refine qN ?_
  refine thenK_n ?_
  have r1 := (q1.picks [2, 1])
  exact ⟨(p1, (At o0 0), nl, (At p0 0), nl, j1, m1), alA, r1, k1, n1⟩
 rintro ⟨p, sa, ks, aa, ka, cs, ca⟩ ρ _ ⟨s1, hOs, hOa⟩
 refine seqE <| seqE ?_
 have hv0 : validC l = 0 := j0
 have hvz := validC_zero hv0
 refine regionE <| pu1 <| nT <| blockE ?_
 have t1 : Sat W _ ([(p, .cells #[.slice none 0 0, .slice sa nl ks, .slice aa nl ka] 169 (0, 0))] :: ([] : Chunk) :: ([] : Chunk) :: cs :: ca :: H :: F) := Sat.perm s1 (by simp)
 refine loopA (γ := Nat × (Option Addr) × Nat × Nat × (List Task) × Chunk × Chunk × (List Int) × Chunk) (fun ⟨i, at_, nt, kt, ts, ct, G, ss, cs1⟩ => [(0, .slice al nl kl), (5, Pt p 0), (6, I ((i : Nat) : Int))]) (fun ⟨i, at_, nt, kt, ts, ct, G, ss, cs1⟩ w => Sat W w ([(p, .cells #[.slice at_ nt kt, .slice sa nl ks, .slice aa nl ka] 169 (0, 0))] :: ct :: G :: cs1 :: ca :: H :: F) ∧ i ≤ nl ∧ OwnT encTask 45 9 at_ nt kt ts ct ∧ (∀ z ∈ ts, Task.Ok [G] z) ∧ OwnT encI 3 1 sa nl ks ss cs1 ∧ ts.map (·.deps.l) = (l.map (·.deps.l)).take i ∧ ss = (l.take i).map (fun t => st0 t.deps.l) ++ List.replicate (nl - i) 0) (fun ⟨i, at_, nt, kt, ts, ct, G, ss, cs1⟩ => nl - i) (0, none, 0, 0, [], [], [], (List.replicate nl 0), cs) ⟨t1, om, OwnT.nil fR, (fun z hz => by cases hz), hOs, (by simp), (by simp)⟩ ?_
 rintro ⟨i, at_, nt, kt, ts, ct, G, ss, cs1⟩ ρ _ ⟨q0, hi, hOt, hDt, hOs1, hte, hse⟩
 have hlt := hOt.le; have hlnt := hOt.len; have hls := hOs1.le; have hlns := hOs1.len; have hltm := congrArg List.length hte; simp only [List.length_map, List.length_take] at hltm
 refine seqE <| sR <| pu4 <| nT ?_
 refine cD (((i : Nat) : Int) < ((nl : Nat) : Int)) (fun u1 => ?_) (fun u1 => ?_)
 rotate_left
 ·refine exitE <| xB <| thenK_n <| sR <| pu3 <| nT <| retE <| retT [Pt p 0, I 0] ?_
  obtain rfl : nl = i := by omega
  have v1 : Sat W _ (([(p, .cells #[.slice at_ nt kt, .slice sa nl ks, .slice aa nl ka] 169 (0, 0))] ++ (ct ++ (G ++ (cs1 ++ ca)))) :: H :: F) := Sat.perm q0 (by simp)
  rw [List.take_of_length_le (by simp; omega)] at hte; rw [List.take_of_length_le om] at hse
  exact .inr ⟨hv0, _, _, rfl, ⟨_, _, _, ts, _, _, _, _, _, _, ct, G, cs1, ca, rfl, hOt, hDt, (by rw [show (newB l).st = ss by rw [hse]; simp [newB]]; exact hOs1), (by rw [show (newB l).att = List.replicate nl 0 by simp only [newB]; rw [map_zero, hn_l]]; exact hOa), hte⟩, v1⟩
 refine kT <| seqE <| blockE <| sR <| pu2 ?_
 refine sIdx hl ((i : Nat) : Int) Tryz.runUnderlying39 Tryz.sizeOf45 ?_
 intro a0 _ _ b0 w1
 rw [Int.toNat_natCast] at b0
 refine sLpA q0 (w1.up 5 rfl) 0 (encTask a0) (Tryz.isAgg45 _) (Tryz.sizeOf45 _) ?_
 refine sAlloc q0 Tryz.zeroValue45 ?_
 intro d0 _ x1
 refine sT x1 0 0 (.agg (encTask a0).toArray) (encTask a0) (encTask a0).toArray Tryz.sizeOf45 ?_
 intro _ u0
 refine nilO ?_
 have hal := asc_len om (taskOK_asc (tasksOK_at hvz.2.2 b0)); have hnd := (dl a0 (List.mem_of_getElem? b0)).deps.len; have hld := (dl a0 (List.mem_of_getElem? b0)).deps.le
 refine thenK_n <| sR <| pu1 ?_
 refine sL u0 0 6 (.slice a0.deps.a a0.deps.n a0.deps.k) (Tryz.isAgg22 _) ?_
 have y1 := Sat.nilc u0
 have z1 := OwnT.nil (enc := encI) (E := 3) (sz := 1) fR
 refine sApp (nb := 8) y1 z1 0 ((dl a0 (List.mem_of_getElem? b0)).deps.up 7 rfl) Tryz.underlying22 (i := Tryz.t3) kr fR ?_
 intro e0 f0 i0 _ v0 a2
 refine pu1 ?_
 refine tW a2 1 6 (.slice e0 (0 + a0.deps.n) f0) Tryz.sizeOf22 ?_
 intro _ c0
 refine nT <| seqE ?_
 refine drawE [6, 7, 10] [(4, ⟨p, 0, none⟩, .slice at_ nt kt), (5, ⟨d0, 0, none⟩, I a0.stage), (5, ⟨d0, 1, none⟩, I a0.part), (5, ⟨d0, 2, none⟩, I a0.rectX0), (5, ⟨d0, 3, none⟩, I a0.rectY0), (5, ⟨d0, 4, none⟩, I a0.rectX1), (5, ⟨d0, 5, none⟩, I a0.rectY1), (5, ⟨d0, 6, none⟩, .slice e0 (0 + a0.deps.n) f0), (5, ⟨d0, 7, none⟩, I a0.rows), (5, ⟨d0, 8, none⟩, I a0.scratch)] [(true, [0, 1, 2, 3]), (true, [4]), (true, [5]), (false, [6]), (false, [7]), (true, [8, 9]), (false, [10])] rfl kr ⟨.inr (c0.cell 2 rfl rfl), .inr (c0.cell 1 rfl rfl), .inr (c0.cell 1 rfl rfl), .inr (c0.cell 1 rfl rfl), .inr (c0.cell 1 rfl rfl), .inr (c0.cell 1 rfl rfl), .inr (c0.cell 1 rfl rfl), .inr (c0.cell 1 rfl rfl), .inr (c0.cell 1 rfl rfl), .inr (c0.cell 1 rfl rfl), trivial⟩ ?_
 have b2 := c0.drew
 refine wU [0, 1, 2, 3] ?_
 refine wLd (.slice at_ nt kt) 0 Tryz.isAgg39 ?_
 refine wY (.agg #[I a0.stage, I a0.part, I a0.rectX0, I a0.rectY0, I a0.rectX1, I a0.rectY1, .slice e0 (0 + a0.deps.n) f0, I a0.rows, I a0.scratch]) rfl (fun w hF => Y_loadF rfl (Tryz.isAgg45 w) (Tryz.sizeOf45 w) kr rfl ⟨hF 1 _ _ rfl, hF 2 _ _ rfl, hF 3 _ _ rfl, hF 4 _ _ rfl, hF 5 _ _ rfl, hF 6 _ _ rfl, hF 7 _ _ rfl, hF 8 _ _ rfl, hF 9 _ _ rfl, trivial⟩) ?_
 refine wO rfl ?_
 refine sBS b2 #[I a0.stage, I a0.part, I a0.rectX0, I a0.rectY0, I a0.rectX1, I a0.rectY1, .slice e0 (0 + a0.deps.n) f0, I a0.rows, I a0.scratch] Tryz.runUnderlying39 Tryz.sizeOf45 Tryz.zeroValue45 ?_
 intro _ _ w0
 refine nilO ⟨⟨.inr (w0.cell 3 rfl rfl), dI, dI, dI, dI, dI, dI, dI, dI, dI, trivial⟩, ?_⟩
 refine wO rfl ?_
 refine sApp (nb := 88) w0 hOt 4 (RdT.blk (enc := encTask) (sz := 9) (xs := [(⟨a0.stage, a0.part, a0.rectX0, a0.rectY0, a0.rectX1, a0.rectY1, ⟨e0, (0 + a0.deps.n), f0, ([] ++ a0.deps.l)⟩, a0.rows, a0.scratch⟩ : Task)]) fR 1 0 rfl rfl rfl om) Tryz.underlying39 (i := Tryz.t45) kr fR ?_
 intro g0 h0 k0 _ x0 c2
 refine nilO ⟨dA, ?_⟩
 refine wU [8, 9] ?_
 refine wO rfl ?_
 refine sT c2 3 0 (.slice g0 (nt + 1) h0) [.slice g0 (nt + 1) h0] #[.slice g0 (nt + 1) h0, .slice sa nl ks, .slice aa nl ka] Tryz.sizeOf39 ?_
 intro _ y0
 refine nilO ⟨dA, ?_⟩
 refine wN ?_
 refine thenK_n <| sR <| pu3 ?_
 refine sL y0 3 1 (.slice sa nl ks) (Tryz.isAgg22 _) ?_
 refine pu1 ?_
 refine sIdxO hOs1 ((i : Nat) : Int) i Tryz.runUnderlying22 Tryz.sizeOf3 ?_
 intro d2 _ _ e2 _ f2
 refine sStF y0 hOs1 f2 6 i 0 d2 1 e2 (I 1) [I 1] Tryz.sizeOf3 ?_
 intro _ z0 r0 l0
 refine nT <| sR <| pu1 ?_
 refine sL l0 2 6 (.slice e0 (0 + a0.deps.n) f0) (Tryz.isAgg22 _) ?_
 refine pu2 <| nT ?_
 refine cE (((0 + a0.deps.n) : Nat) : Int) 0 (fun g2 => ?_) (fun g2 => ?_)
 rotate_left
 ·refine skipE <| blockK_n <| thenK_n <| regionE <| pu1 ?_
  refine sAdd ((i : Nat) : Int) 1 ?_
  refine pu1 <| nT ?_
  have h2 := ((l0.picks [4, 4]).drops [2, 3])
  have i2 : Sat W _ ([(p, .cells #[.slice g0 (nt + 1) h0, .slice sa nl ks, .slice aa nl ka] 169 (0, 0))] :: k0 :: (i0 ++ G) :: z0 :: ca :: H :: F) := Sat.perm h2 (by simp)
  exact ⟨(i + 1, g0, (nt + 1), h0, (ts ++ [(⟨a0.stage, a0.part, a0.rectX0, a0.rectY0, a0.rectX1, a0.rectY1, ⟨e0, (0 + a0.deps.n), f0, ([] ++ a0.deps.l)⟩, a0.rows, a0.scratch⟩ : Task)]), k0, (i0 ++ G), (ss.set i 1), z0), od, alA, i2, om, x0, (by
    intro z hz
    rcases List.mem_append.1 hz with h | h
    ·exact (hDt z h).of_mem mS
    ·simp only [List.mem_singleton] at h; subst h; exact ⟨(v0.rdAt (cs := [i0]) 0 rfl).of_mem mS⟩), r0, (by rw [List.map_append, hte, take_succ_at (x := a0.deps.l) (by simp [b0])]; simp), (by first | exact st_step b0 hse om (by simp only [st0]; rw [if_neg om]) | (rw [List.set_set]; exact st_step b0 hse om (by simp only [st0]; rw [if_pos om])))⟩
 refine regionE <| pu3 ?_
 refine sL l0 3 1 (.slice sa nl ks) (Tryz.isAgg22 _) ?_
 refine pu1 ?_
 refine sIdxO r0 ((i : Nat) : Int) i Tryz.runUnderlying22 Tryz.sizeOf3 ?_
 intro j2 _ _ k2 _ l2
 refine sStF l0 r0 l2 6 i 0 j2 2 k2 (I 2) [I 2] Tryz.sizeOf3 ?_
 intro _ a1 m2 n2
 refine nB <| regionE <| pu1 ?_
 refine sAdd ((i : Nat) : Int) 1 ?_
 refine pu1 <| nT ?_
 have o2 := ((n2.picks [4, 4]).drops [2, 3])
 have p2 : Sat W _ ([(p, .cells #[.slice g0 (nt + 1) h0, .slice sa nl ks, .slice aa nl ka] 169 (0, 0))] :: k0 :: (i0 ++ G) :: a1 :: ca :: H :: F) := Sat.perm o2 (by simp)
 exact ⟨(i + 1, g0, (nt + 1), h0, (ts ++ [(⟨a0.stage, a0.part, a0.rectX0, a0.rectY0, a0.rectX1, a0.rectY1, ⟨e0, (0 + a0.deps.n), f0, ([] ++ a0.deps.l)⟩, a0.rows, a0.scratch⟩ : Task)]), k0, (i0 ++ G), ((ss.set i 1).set i 2), a1), od, alA, p2, om, x0, (by
   intro z hz
   rcases List.mem_append.1 hz with h | h
   ·exact (hDt z h).of_mem mS
   ·simp only [List.mem_singleton] at h; subst h; exact ⟨(v0.rdAt (cs := [i0]) 0 rfl).of_mem mS⟩), m2, (by rw [List.map_append, hte, take_succ_at (x := a0.deps.l) (by simp [b0])]; simp), (by first | exact st_step b0 hse om (by simp only [st0]; rw [if_neg om]) | (rw [List.set_set]; exact st_step b0 hse om (by simp only [st0]; rw [if_pos om])))⟩
end Go.Proofs.YtegmennaekipaaaGreat

namespace Go.Proofs.YtegmennaekipaaaGreat
open Go Go.E
set_option linter.unusedVariables false
set_option linter.unusedSimpArgs false
set_option linter.unnecessarySimpa false
set_option maxRecDepth 100000
set_option maxHeartbeats 2000000
variable {W w : World} {H : Chunk} {F : List Chunk}

/-! ### the program's farm: its memory -/
structure PW where
  phase : Int
  heldJob : Int
  heldTask : Int
  attempt : Int
  row : Int
  a : Nat
  d : Nat
instance : Inhabited PW := ⟨⟨0, 0, 0, 0, 0, 0, 0⟩⟩
def encPW (x : PW) : List Value := [.int .i64 x.phase, .int .i64 x.heldJob, .int .i64 x.heldTask, .int .i64 x.attempt, .int .i64 x.row, .pointer (some ⟨x.a, 0, none⟩), .pointer (some ⟨x.d, 0, none⟩)]
structure Core where
  p : Int
  h : Int
  t : Int
  a : Int
  r : Int
def PW.core (x : PW) : Core := ⟨x.phase, x.heldJob, x.heldTask, x.attempt, x.row⟩
def Wkr.core (v : Wkr) : Core := ⟨v.phase, v.heldJob, v.heldTask, v.attempt, v.row⟩
def ptrV (b : Nat) : Value := .pointer (some ⟨b, 0, none⟩)
def canc (s : JS) : Bool := !s.running && decide (doneOf s.B < ((s.tasks.length : Nat) : Int))
/-- A job of the program at b. -/
def JobP (b : Nat) (s : JS) (c : Chunk) : Prop := ∃ (ta : Option Addr) (tn tk : Nat) (tl : List Task) (bb : Nat) (T M : Chunk),
  c = [(b, .cells #[.slice ta tn tk, .int .i64 s.band, .pointer (some ⟨bb, 0, none⟩), .bool (canc s)] 118 (0, 0))] ++ (T ++ M) ∧ RdT encTask 9 [T] ta tn tk tl ∧ (∀ z ∈ tl, Task.Ok [T] z) ∧ tl.map Task.v = s.tasks ∧ BoardR bb s.B M ∧ s.added = true ∧ (s.running = true → doneOf s.B < ((s.tasks.length : Nat) : Int))
def kvJ (jm : List (Int × Nat)) : List (Int × Value) := jm.map fun x => (x.1, ptrV x.2)
structure JobsP (jobs : List JS) (jm : List (Int × Nat)) (jcs : List Chunk) : Prop where
  o : Obs JobP (jm.map (·.2)) (jm.map fun x => jobs.getD x.1.toNat default) jcs
  nd : (jm.map (·.1)).Nodup
  k : ∀ i, i ∈ jm.map (·.1) ↔ 0 ≤ i ∧ i < 64 ∧ (jobs.getD i.toNat default).added = true
  l : jobs.length = 64
theorem kv_get {jm : List (Int × Nat)} {n : Nat} {k : Int} {b : Nat} (hn : (jm.map (·.1)).Nodup) (h : jm[n]? = some (k, b)) : iget (kvJ jm) k = some (ptrV b) := by
 induction jm generalizing n with
 | nil => cases h
 | cons q jm ih =>
  rw [List.map_cons, List.nodup_cons] at hn
  cases n with
  | zero =>
   obtain rfl : q = (k, b) := by simpa using h
   simp [iget, kvJ]
  | succ n =>
   have h1 : jm[n]? = some (k, b) := by simpa using h
   have h2 := ih hn.2 h1
   have h3 : q.1 ≠ k := fun e => hn.1 (by rw [e]; exact List.mem_map.2 ⟨_, List.mem_of_getElem? h1, rfl⟩)
   unfold iget kvJ at *
   rw [List.map_cons, List.find?_cons]
   have h4 : (q.1 == k) = false := by simpa using h3
   simp only [h4]; exact h2
theorem kv_none {jm : List (Int × Nat)} {k : Int} (h : k ∉ jm.map (·.1)) : iget (kvJ jm) k = none := by
  unfold iget kvJ
  rw [List.find?_eq_none.2]
  · rfl
  · intro q hq
    obtain ⟨x, hx, rfl⟩ := List.mem_map.1 hq
    have : x.1 ≠ k := fun e => h (List.mem_map.2 ⟨x, hx, e⟩)
    simpa using this
theorem JobsP.get {jobs : List JS} {jm : List (Int × Nat)} {jcs : List Chunk} {k : Int} {j : JS} (h : JobsP jobs jm jcs) (hk : 0 ≤ k ∧ k < 64) (hj : jobs[k.toNat]? = some j) (ha : j.added = true) :
  ∃ (n b : Nat) (c : Chunk), jm[n]? = some (k, b) ∧ jcs[n]? = some c ∧ JobP b j c ∧ iget (kvJ jm) k = some (ptrV b) := by
 have e : jobs.getD k.toNat default = j := getD_some hj
 obtain ⟨x, hx, hxk⟩ := List.mem_map.1 ((h.k k).2 ⟨hk.1, hk.2, by rw [e]; exact ha⟩)
 obtain ⟨n, hn⟩ := List.getElem?_of_mem hx
 have hb : (jm.map (·.2))[n]? = some x.2 := by rw [List.getElem?_map, hn]; rfl
 obtain ⟨s, c, hs, hc, hR⟩ := h.o.get hb
 rw [List.getElem?_map, hn] at hs
 obtain rfl := Option.some.inj hs
 have hx2 : x = (k, x.2) := by rw [← hxk]
 refine ⟨n, x.2, c, by rw [hn, ← hx2], hc, ?_, kv_get h.nd (n := n) (by rw [hn, ← hx2])⟩
 have hR2 : JobP x.2 (jobs.getD x.1.toNat default) c := hR
 rw [show x.1.toNat = k.toNat by rw [← hxk], e] at hR2; exact hR2
theorem JobsP.no {jobs : List JS} {jm : List (Int × Nat)} {jcs : List Chunk} {k : Int} (h : JobsP jobs jm jcs) (hk : ¬ (0 ≤ k ∧ k < 64 ∧ (jobs.getD k.toNat default).added = true)) : iget (kvJ jm) k = none := kv_none fun hm => hk ((h.k k).1 hm)
theorem getD_set' {α : Type} {l : List α} {i k : Nat} {x d : α} (h : i < l.length) : (l.set i x).getD k d = if i = k then x else l.getD k d := by
  rw [List.getD_eq_getElem?_getD, List.getElem?_set, List.getD_eq_getElem?_getD]
  split
  · rfl
  · rfl
theorem JobsP.set {jobs : List JS} {jm : List (Int × Nat)} {jcs : List Chunk} {k : Int} {n b : Nat} {j2 : JS} {c2 : Chunk} (h : JobsP jobs jm jcs) (hk : 0 ≤ k ∧ k < 64) (hn : jm[n]? = some (k, b)) (hR : JobP b j2 c2) (ha : j2.added = true) :
  JobsP (jobs.set k.toNat j2) jm (jcs.set n c2) := by
 have hl := h.l
 have hb : (jm.map (·.2))[n]? = some b := by rw [List.getElem?_map, hn]; rfl
 have hkm : ∀ i, i ∈ jm.map (·.1) → 0 ≤ i ∧ i < 64 := fun i hi => ⟨((h.k i).1 hi).1, ((h.k i).1 hi).2.1⟩
 have e : (jm.map fun x => (jobs.set k.toNat j2).getD x.1.toNat default) = (jm.map fun x => jobs.getD x.1.toNat default).set n j2 := by
  apply List.ext_getElem?
  intro i
  rw [List.getElem?_map, List.getElem?_set, List.length_map]
  by_cases hi : n = i
  ·subst hi
   have hlt := (List.getElem?_eq_some_iff.1 hn).1
   rw [if_pos rfl, if_pos hlt, hn]
   simp only [Option.map_some]
   rw [getD_set' om, if_pos rfl]
  ·rw [if_neg hi, List.getElem?_map]
   cases hx : jm[i]? with
   | none => rfl
   | some x =>
    simp only [Option.map_some]
    rw [getD_set' om, if_neg]
    intro q
    have hx1 := hkm x.1 (List.mem_map.2 ⟨x, List.mem_of_getElem? hx, rfl⟩)
    have q2 : k = x.1 := by omega
    have h1 : (jm.map (·.1))[n]? = some k := by rw [List.getElem?_map, hn]; rfl
    have h2 : (jm.map (·.1))[i]? = some k := by rw [List.getElem?_map, hx, q2]; rfl
    have hlt := (List.getElem?_eq_some_iff.1 h1).1
    exact hi ((List.getElem?_inj hlt h.nd).1 (h1.trans h2.symm))
 refine ⟨by rw [e]; exact h.o.set hb hR, h.nd, ?_, by rw [List.length_set]; exact h.l⟩
 intro i
 rw [h.k i]
 constructor
 ·rintro ⟨h1, h2, h3⟩
  refine ⟨h1, h2, ?_⟩
  rw [getD_set' om]
  split
  ·exact ha
  ·exact h3
 ·rintro ⟨h1, h2, h3⟩
  refine ⟨h1, h2, ?_⟩
  rw [getD_set' om] at h3
  split at h3
  ·rename_i q
   have q2 : k = i := by omega
   have h4 : k ∈ jm.map (·.1) := List.mem_map.2 ⟨_, List.mem_of_getElem? hn, rfl⟩
   rw [← q2]; exact ((h.k k).1 h4).2.2
  ·exact h3
theorem JobP.open {b : Nat} {s : JS} {c : Chunk} (h : JobP b s c) : ∃ (ta : Option Addr) (tn tk : Nat) (tl : List Task) (bb : Nat) (T M : Chunk),
  c = [(b, .cells #[.slice ta tn tk, .int .i64 s.band, .pointer (some ⟨bb, 0, none⟩), .bool (canc s)] 118 (0, 0))] ++ (T ++ M) ∧ RdT encTask 9 [T] ta tn tk tl ∧ (∀ z ∈ tl, Task.Ok [T] z) ∧ tl.map Task.v = s.tasks ∧ BoardR bb s.B M ∧ s.added = true ∧ (s.running = true → doneOf s.B < ((s.tasks.length : Nat) : Int)) := h
theorem JobP.mk {b : Nat} {s : JS} {ta : Option Addr} {tn tk : Nat} {tl : List Task} {bb : Nat} {T M : Chunk} {cn : Bool} (hT : RdT encTask 9 [T] ta tn tk tl) (hD : ∀ z ∈ tl, Task.Ok [T] z) (hV : tl.map Task.v = s.tasks) (hB : BoardR bb s.B M) (ha : s.added = true) (hr : s.running = true → doneOf s.B < ((s.tasks.length : Nat) : Int)) (hc : cn = canc s) :
    JobP b s ([(b, .cells #[.slice ta tn tk, .int .i64 s.band, .pointer (some ⟨bb, 0, none⟩), .bool cn] 118 (0, 0))] ++ (T ++ M)) := by subst hc; exact ⟨_, _, _, _, _, _, _, rfl, hT, hD, hV, hB, ha, hr⟩
def preP (c : Cfg) (wb wo wn wk q m : Nat) : List Value := [.int .i64 c.workers, .int .i64 c.tileW, .int .i64 c.tileH, .int .i64 c.arena, .int .i64 c.deque, .int .i64 c.tasks, .int .i64 c.cells, .int .i64 c.jobs, .slice (some ⟨wb, wo, none⟩) wn wk, .pointer (some ⟨q, 0, none⟩), .map (some m)]
/-- The farm's memory as one piece. -/
def FarmP (p : Nat) (F : FS) (M : Chunk) : Prop := ∃ (wb wo wn wk q m : Nat) (xs : List PW) (jm : List (Int × Nat)) (Wc Qc Jc : Chunk) (acs dcs jcs : List Chunk),
  M = Tri p 85 (preP F.cfg wb wo wn wk q m) (([] : List Ref).flatMap encRef) (encStt F.st) ++ (Wc ++ (acs.flatten ++ (dcs.flatten ++ (Qc ++ (Jc ++ jcs.flatten))))) ∧
  OwnT encPW 93 7 (some ⟨wb, wo, none⟩) wn wk xs Wc ∧ xs.map PW.core = F.ws.map Wkr.core ∧ Obs PaR (xs.map (·.a)) F.ar acs ∧ Obs DqP (xs.map (·.d)) F.dq dcs ∧ InjP q F.q Qc ∧ MapI m (kvJ jm) Jc ∧ JobsP F.jobs jm jcs
theorem core_at {xs : List PW} {ws : List Wkr} {k : Nat} {x : PW} (h : xs.map PW.core = ws.map Wkr.core) (hx : xs[k]? = some x) : ∃ v, ws[k]? = some v ∧ x.phase = v.phase ∧ x.heldJob = v.heldJob ∧ x.heldTask = v.heldTask ∧ x.attempt = v.attempt ∧ x.row = v.row := by
  have h1 : (ws.map Wkr.core)[k]? = some x.core := by rw [← h, List.getElem?_map, hx]; rfl
  rw [List.getElem?_map] at h1
  cases hv : ws[k]? with
  | none => rw [hv] at h1; cases h1
  | some v =>
    rw [hv] at h1
    obtain ⟨e1, e2, e3, e4, e5⟩ := Core.mk.inj (Option.some.inj h1)
    exact ⟨v, rfl, e1.symm, e2.symm, e3.symm, e4.symm, e5.symm⟩
theorem core_set {xs : List PW} {ws : List Wkr} {k : Nat} {x' : PW} {v' : Wkr} (h : xs.map PW.core = ws.map Wkr.core) (e : x'.core = v'.core) : (xs.set k x').map PW.core = (ws.set k v').map Wkr.core := by
  rw [List.map_set, List.map_set, h, e]
theorem map_setA {xs : List PW} {k : Nat} {x x' : PW} (hx : xs[k]? = some x) (e : x'.a = x.a) : (xs.set k x').map (·.a) = xs.map (·.a) := by
  rw [List.map_set, e]; exact set_same (by rw [List.getElem?_map, hx]; rfl)
theorem map_setD {xs : List PW} {k : Nat} {x x' : PW} (hx : xs[k]? = some x) (e : x'.d = x.d) : (xs.set k x').map (·.d) = xs.map (·.d) := by
  rw [List.map_set, e]; exact set_same (by rw [List.getElem?_map, hx]; rfl)
theorem core_len {xs : List PW} {ws : List Wkr} (h : xs.map PW.core = ws.map Wkr.core) : xs.length = ws.length := by simpa using congrArg List.length h
theorem map_at' {α β : Type} {f : α → β} {l : List α} {i : Nat} {x : α} (h : l[i]? = some x) : (l.map f)[i]? = some (f x) := by rw [List.getElem?_map, h]; rfl
theorem canc_t {s : JS} (h : canc s = true) : s.running = false := by
  unfold canc at h; cases hr : s.running
  · rfl
  · rw [hr] at h; simp at h
theorem canc_f {s : JS} (h : ¬ canc s = true) (hlt : doneOf s.B < ((s.tasks.length : Nat) : Int)) : s.running = true := by
  unfold canc at h; cases hr : s.running
  · rw [hr, decide_eq_true hlt] at h; exact absurd rfl h
  · rfl
theorem canc_run {s : JS} (h : s.running = true) : canc s = false := by unfold canc; rw [h]; rfl
theorem canc_done {s : JS} (h : doneOf s.B = ((s.tasks.length : Nat) : Int)) : canc s = false := by unfold canc; rw [decide_eq_false (by omega), Bool.and_false]
theorem run_eq {s : JS} (h : ¬ canc s = true) (hr : s.running = true → doneOf s.B < ((s.tasks.length : Nat) : Int)) (hd : s.B.deps.length = s.tasks.length) : decide (doneOf s.B < ((s.B.deps.length : Nat) : Int)) = s.running := by
  rw [hd]
  cases e : s.running
  · by_cases h2 : doneOf s.B < ((s.tasks.length : Nat) : Int)
    · rw [canc_f h h2] at e; cases e
    · exact decide_eq_false h2
  · exact decide_eq_true (hr e)
theorem some_addr {b o b' o' : Nat} (h : (some ⟨b, o, none⟩ : Option Addr) = some ⟨b', o', none⟩) : b = b' ∧ o = o' := by cases h; exact ⟨rfl, rfl⟩
theorem p_holds {b off : Nat} {x : PW} {c : Chunk} {F0 : List Chunk} (hp : PtR [c] b off (encPW x)) (hS : Sat W w (c :: F0)) :
  Calls Tryz.prog 76 #[.pointer (some ⟨b, off, none⟩)] w fun e w' => e = .returned (.bool (decide (x.phase ≠ 0 ∧ x.phase ≠ 4))) ∧ Sat W w' (c :: F0) := by
 refine callsA 15 Tryz.func76 rfl ?_
 refine sR <| pu1 <| nT <| sR <| pu3 ?_
 refine sLp hS (hp.up 0 rfl) 0 (I x.phase) (Tryz.isAgg3 _) ?_
 refine pu2 ?_
 refine sN 8 x.phase 0 (fun a0 => ?_) (fun a0 => ?_)
 ·refine pu7 <| nT <| retE <| retT [.bool false] ?_
  exact ⟨congrArg (fun b => Ending.returned (.bool b)) ((decide_eq_false (p := x.phase ≠ 0 ∧ x.phase ≠ 4) om).symm), hS⟩
 refine pu3 <| gY ?_
 refine sLp hS (hp.up 0 rfl) 0 (I x.phase) (Tryz.isAgg3 _) ?_
 refine pu3 <| nT <| retE <| retT [.bool ((x.phase : Int) != 4)] ?_
 exact ⟨congrArg (fun b => Ending.returned (.bool b)) (by rw [Bool.eq_iff_iff]; simp only [decide_eq_true_eq, bne_iff_ne, ne_eq]; omega), hS⟩
theorem p_rest {wb wo wn wk k : Nat} {xs : List PW} {x : PW} {ar : List AS} {Wc : Chunk} {acs F0 : List Chunk} (hOw : OwnT encPW 93 7 (some ⟨wb, wo, none⟩) wn wk xs Wc) (hAs : Obs PaR (xs.map (·.a)) ar acs) (hx : xs[k]? = some x) (ph : Int) (hS : Sat W w (Wc :: acs.flatten :: F0)) :
  Calls Tryz.prog 65 #[.pointer (some ⟨wb, wo + k * 7, none⟩), I ph] w fun e w' => ∃ (Wc' : Chunk) (acs' : List Chunk), e = .returned (.tuple #[]) ∧ OwnT encPW 93 7 (some ⟨wb, wo, none⟩) wn wk (xs.set k (⟨ph, 0, 0, 0, 0, x.a, x.d⟩ : PW)) Wc' ∧ Obs PaR (xs.map (·.a)) (ar.set k (resetA (ar.getD k default))) acs' ∧ Sat W w' (Wc' :: acs'.flatten :: F0) := by
 have hp := OwnT.ptr hOw rfl hx
 refine callsA 23 Tryz.func65 rfl ?_
 refine sR <| pu4 ?_
 refine sStF hS hOw rfl 0 k 0 x (⟨ph, x.heldJob, x.heldTask, x.attempt, x.row, x.a, x.d⟩ : PW) hx (I ph) [I ph] Tryz.sizeOf3 ?_
 intro _ _ d0 j0
 refine nT <| sR <| pu4 ?_
 have e0 := set_at (y := (⟨ph, x.heldJob, x.heldTask, x.attempt, x.row, x.a, x.d⟩ : PW)) hx
 have c1 := OwnT.ptr d0 rfl e0
 refine sStF j0 d0 rfl 0 k 1 (⟨ph, x.heldJob, x.heldTask, x.attempt, x.row, x.a, x.d⟩ : PW) (⟨ph, 0, 0, x.attempt, x.row, x.a, x.d⟩ : PW) e0 (.agg #[I 0, I 0]) [I 0, I 0] Tryz.sizeOf60 ?_
 intro _ _ a0 k0
 rw [List.set_set] at a0
 refine nT <| sR <| pu3 ?_
 have f0 := set_at (y := (⟨ph, 0, 0, x.attempt, x.row, x.a, x.d⟩ : PW)) hx
 have f1 := OwnT.ptr a0 rfl f0
 refine sStF k0 a0 rfl 0 k 3 (⟨ph, 0, 0, x.attempt, x.row, x.a, x.d⟩ : PW) (⟨ph, 0, 0, 0, x.row, x.a, x.d⟩ : PW) f0 (I 0) [I 0] Tryz.sizeOf3 ?_
 intro _ _ b0 l0
 rw [List.set_set] at b0
 refine nT <| sR <| pu3 ?_
 have g0 := set_at (y := (⟨ph, 0, 0, 0, x.row, x.a, x.d⟩ : PW)) hx
 have i1 := OwnT.ptr b0 rfl g0
 refine sStF l0 b0 rfl 0 k 4 (⟨ph, 0, 0, 0, x.row, x.a, x.d⟩ : PW) (⟨ph, 0, 0, 0, 0, x.a, x.d⟩ : PW) g0 (I 0) [I 0] Tryz.sizeOf3 ?_
 intro _ _ c0 h0
 rw [List.set_set] at c0
 refine nT <| regionE <| pu3 ?_
 have m0 := set_at (y := (⟨ph, 0, 0, 0, 0, x.a, x.d⟩ : PW)) hx
 have n0 := OwnT.ptr c0 rfl m0
 refine sLp h0 (n0.up 0 rfl) 5 (.pointer (some ⟨x.a, 0, none⟩)) (Tryz.isAgg86 _) ?_
 obtain ⟨l1, m1, o0, i0, p0⟩ := Obs.get hAs (map_at' hx)
 have q0 := (h0.pick 1 rfl)
 have r0 := Sat.openN (A := []) k i0 q0
 refine cX Tryz.call115 (pa_reset p0  (Sat.flat1 r0)) ?_
 rintro _ _ ⟨s0, rfl, t0, u0⟩
 have v0 := Sat.unflat1 u0
 have w0 := (v0.picks [1, 1])
 have x0 := Sat.shutN (d := s0) (A := []) k i0 w0
 have y0 := Obs.set hAs (map_at' hx) t0
 refine nilO ?_
 refine ret0n rfl ?_
 have z0 := (x0.pick 1 rfl)
 exact ⟨_, _, rfl, c0, by rw [getD_some o0]; exact y0, z0⟩
theorem p_running {b : Nat} {s : JS} {c : Chunk} {K : Int} {F0 : List Chunk} (hJ : JobP b s c) (hBW : BWf s.B K) (hdl : s.B.deps.length = s.tasks.length) (hS : Sat W w (c :: F0)) :
  Calls Tryz.prog 71 #[Pt b 0] w fun e w' => e = .returned (.bool s.running) ∧ Sat W w' (c :: F0) := by
 obtain ⟨ta, tn, tk, tl, bb, T, M, rfl, hT, hD, hV, hB, ha, hr⟩ := hJ.open
 have a0 : Sat W _ ([(b, .cells #[.slice ta tn tk, I s.band, Pt bb 0, .bool (canc s)] 118 (0, 0))] :: T :: M :: F0) := Sat.perm hS (by simp)
 refine callsA 21 Tryz.func71 rfl ?_
 refine sR <| pu1 <| nT <| seqE ?_
 rcases Classical.em ((canc s) = true) with b0 | b0
 ·refine drawE [10, 15] [(3, ⟨b, 3, none⟩, .bool (canc s))] [(true, [0, 1, 2]), (true, [3]), (true, [4, 5]), (true, [6, 7, 8, 11, 12, 13, 9, 14]), (false, [10]), (false, [15]), (true, [16, 17, 18])] rfl kr ⟨.inr (a0.cell 0 rfl rfl), trivial⟩ ?_
  have c0 := a0.drew
  refine wU [0, 1, 2] ?_
  refine wLd (.bool (canc s)) 0 Tryz.isAgg4 ?_
  refine wU [4, 5] ?_
  refine wFix 8 _ false (congrArg Bool.not b0) ?_
  refine wU [6, 7, 8, 11, 12, 13, 9, 14] ?_
  refine wO rfl ?_
  refine pu1 ?_
  refine nilO ⟨⟨.inr (c0.cell 0 rfl rfl), trivial⟩, ?_⟩
  refine wO rfl ?_
  refine pu1 ?_
  refine nilO ⟨⟨.inr (c0.cell 0 rfl rfl), trivial⟩, ?_⟩
  refine wU [16, 17, 18] ?_
  refine wN ?_
  refine thenK_n <| retE <| retT [.bool false] ?_
  have f0 : Sat W _ (([(b, .cells #[.slice ta tn tk, I s.band, Pt bb 0, .bool (canc s)] 118 (0, 0))] ++ (T ++ M)) :: F0) := Sat.perm (show Sat W _ ([(b, .cells #[.slice ta tn tk, I s.band, Pt bb 0, .bool (canc s)] 118 (0, 0))] :: T :: M :: F0) from c0) (by simp)
  exact ⟨congrArg (fun b => Ending.returned (.bool b)) ((canc_t b0).symm), f0⟩
 refine drawE [10, 15] [(3, ⟨b, 3, none⟩, .bool (canc s)), (9, ⟨b, 2, none⟩, Pt bb 0), (14, ⟨b, 2, none⟩, Pt bb 0)] [(true, [0, 1, 2]), (true, [3]), (true, [4, 5]), (true, [6, 7, 8, 11, 12, 13]), (true, [9]), (true, [14]), (false, [10]), (false, [15]), (true, [16]), (true, [17, 18])] rfl kr ⟨.inr (a0.cell 0 rfl rfl), .inr (a0.cell 0 rfl rfl), .inr (a0.cell 0 rfl rfl), trivial⟩ ?_
 have g0 := a0.drew
 refine wU [0, 1, 2] ?_
 refine wLd (.bool (canc s)) 0 Tryz.isAgg4 ?_
 refine wU [4, 5] ?_
 refine wFix 8 _ true (congrArg Bool.not (Bool.eq_false_iff.2 b0)) ?_
 refine wU [6, 7, 8, 11, 12, 13] ?_
 refine wLd (Pt bb 0) 1 Tryz.isAgg112 ?_
 refine wLd (Pt bb 0) 2 Tryz.isAgg112 ?_
 refine wO rfl ?_
 refine gY ?_
 have h0 := (g0.pick 2 rfl)
 refine cX Tryz.call118 (b_done hB hBW (Sat.flat1 h0)) ?_
 rintro _ _ ⟨rfl, i0⟩
 have d0 := Sat.unflat1 i0
 refine nilO ⟨⟨.inr (d0.cell 1 rfl rfl), dI, .inr (d0.cell 1 rfl rfl), trivial⟩, ?_⟩
 refine wO rfl ?_
 refine gY ?_
 refine cX Tryz.call119 (b_total hB hBW (Sat.flat1 d0)) ?_
 rintro _ _ ⟨rfl, j0⟩
 have e0 := Sat.unflat1 j0
 refine nilO ⟨⟨.inr (e0.cell 1 rfl rfl), dI, dI, trivial⟩, ?_⟩
 refine wU [16] <| wU [17, 18] ?_
 refine wN ?_
 refine thenK_n <| retE <| retT [.bool (decide (((doneOf s.B) : Int) < ((s.B.deps.length : Nat) : Int)))] ?_
 have k0 := (e0.picks [2, 2])
 have l0 : Sat W _ (([(b, .cells #[.slice ta tn tk, I s.band, Pt bb 0, .bool (canc s)] 118 (0, 0))] ++ (T ++ M)) :: F0) := Sat.perm (show Sat W _ ([(b, .cells #[.slice ta tn tk, I s.band, Pt bb 0, .bool (canc s)] 118 (0, 0))] :: T :: M :: F0) from k0) (by simp)
 exact ⟨congrArg (fun b => Ending.returned (.bool b)) (run_eq b0 hr hdl), l0⟩
theorem pf_worker {p : Nat} {F : FS} {M : Chunk} {F0 : List Chunk} (hR : FarmP p F M) (x : Int) (hS : Sat W w (M :: H :: F0)) :
  Calls Tryz.prog 61 #[Pt p 0, I x] w fun e w' => e = .returned (.bool (decide (0 ≤ x ∧ x < ((F.ws.length : Nat) : Int)))) ∧ Sat W w' (M :: H :: F0) := by
 obtain ⟨wb, wo, wn, wk, q, m, xs, jm, Wc, Qc, Jc, acs, dcs, jcs, rfl, hOw, hco, hAs, hDs, hQ, hM, hJs⟩ := hR
 have a0 : Sat W _ ((Tri p 85 (preP F.cfg wb wo wn wk q m) (([] : List Ref).flatMap encRef) (encStt F.st)) :: Wc :: acs.flatten :: dcs.flatten :: Qc :: Jc :: jcs.flatten :: H :: F0) := Sat.perm hS (by simp)
 have hwl := hOw.len; have hwk := hOw.le; have hcl := core_len hco; have has1 := hAs.1; have hds1 := hDs.1; rw [List.length_map] at has1 hds1; have hjl1 := hJs.l
 refine callsA 20 Tryz.func61 rfl ?_
 refine sR <| pu1 <| nT <| sR <| pu7 ?_
 refine sD 11 (x ≥ 0) (fun b0 => ?_) (fun b0 => ?_)
 rotate_left
 ·refine pu9 <| nT <| retE <| retT [.bool false] ?_
  have c0 := (a0.merge7)
  exact ⟨congrArg (fun b => Ending.returned (.bool b)) ((decide_eq_false (p := 0 ≤ x ∧ x < ((F.ws.length : Nat) : Int)) om).symm), c0⟩
 refine pu4 <| gY ?_
 refine sLp a0 (ptr_up 0 rfl tri_pre) 8 (.slice (some ⟨wb, wo, none⟩) wn wk) (Tryz.isAgg81 _) ?_
 refine pu4 <| nT <| retE <| retT [.bool (decide ((x : Int) < ((wn : Nat) : Int)))] ?_
 have d0 := (a0.merge7)
 exact ⟨congrArg (fun b => Ending.returned (.bool b)) (by rw [Bool.eq_iff_iff]; simp only [decide_eq_true_eq]; omega), d0⟩
theorem p_empty {p q wb wo wn wk m : Nat} {c : Cfg} {mid post : List Value} {F0 : List Chunk} (h0 : 0 < wn ∧ wn ≤ 9223372036854775807) (hS : Sat W w ((Tri p 85 (preP c wb wo wn wk q m) mid post) :: F0)) :
  Calls Tryz.prog 50 #[Pt p 0] w fun e w' => e = .returned (.bool false) ∧ Sat W w' ((Tri p 85 (preP c wb wo wn wk q m) mid post) :: F0) := by
 refine callsA 13 Tryz.func50 rfl ?_
 refine sR <| pu1 <| nT <| sR <| pu6 <| gY ?_
 refine sLp hS (ptr_up 0 rfl tri_pre) 8 (.slice (some ⟨wb, wo, none⟩) wn wk) (Tryz.isAgg81 _) ?_
 refine pu4 <| nT <| retE <| retT [.bool ((((wn : Nat) : Int) : Int) == 0)] ?_
 exact ⟨congrArg (fun b => Ending.returned (.bool b)) (by simp; omega), hS⟩
end Go.Proofs.YtegmennaekipaaaGreat
