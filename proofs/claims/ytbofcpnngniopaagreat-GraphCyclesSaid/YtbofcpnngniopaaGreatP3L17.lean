import Derived.Test.YtbofcpnngniopaaGreatP3Cr
namespace Go.Proofs.YtbofcpnngniopaaGreat
open Go Go.E
set_option linter.unusedVariables false
set_option linter.unusedSimpArgs false
set_option linter.unnecessarySimpa false
set_option maxRecDepth 100000
set_option maxHeartbeats 2000000
variable {W w : World} {H : Chunk} {F : List Chunk}
/-! ### jobs of copies -/
-- squeezed
def pl0 : PlaneV := ⟨1, 1, 9, [5]⟩
def jobL (xs : List Int) : JobV := jobOf [pl0] (xs.map safe) 0
theorem cyc21 : cycG 1 [[2], [1]] = [1, 2] := by
 have hR : RngG 1 [[2], [1]] := by
  intro s hs x hx
  simp only [List.mem_cons, List.not_mem_nil, or_false] at hs
  rcases hs with rfl | rfl <;> (simp only [List.mem_cons, List.not_mem_nil, or_false] at hx; subst hx; decide)
 have h1 : RB 1 [[2], [1]] 1 0 2 := RB.start.take hR (by decide) (by decide) (i := 0) (v := 2) (by decide) (by decide) (.inl (by decide))
 have h2 : RB 1 [[2], [1]] 2 0 2 := h1.skip hR (by decide) (by decide) (v := 2) (by decide) (by decide)
 have hm := ((h2.fin rfl (by decide)).resolve_left (by rintro ⟨h, _⟩; omega)).2.2.2.2
 have hw := (WF.start hm (by decide)).1
 have hf : fwG (edgG 1 [[2], [1]]) 16 2 1 = 1 := by
  have := st_val hR (by decide) (t := 0) (i := 1) (by decide) (by decide)
  rcases this with h | h
  ·exact absurd h.1 (by decide)
  ·exact h.2.2.trans (by decide)
 have hw2 := hw.step (n := 2) (by decide) (by decide) ⟨by decide, hf, fun m hm _ => by
  have h3 : m ∈ [(2 : Int)] := hm
  rw [List.mem_singleton.1 h3]; exact Int.le_refl _⟩
 exact hw2.fin rfl
theorem ord20 : ordV (jobL [2, 0]) = ([2, 1], 0) := by decide
theorem ord21 : ordV (jobL [2, 1]) = ([], 7) := by decide
theorem cycV21 : cycV (jobL [2, 1]) = [1, 2] := by
  unfold cycV
  rw [ord21, if_pos rfl]
  exact cyc21
theorem shp0 : shpV (jobL [0]) = ([⟨1, 1, 9⟩, ⟨1, 1, 255⟩], 0, 0) := by decide
theorem eqvn35 (w : World) (a0 a1 a2 b0 b1 b2 : Int) : ∀ x y, ((do eqGuard .neq 35 x y (.agg #[.int .i64 a0, .int .i64 a1, .int .i64 a2]) (.agg #[.int .i64 b0, .int .i64 b1, .int .i64 b2]); binOp .neq 35 (.agg #[.int .i64 a0, .int .i64 a1, .int .i64 a2]) (.agg #[.int .i64 b0, .int .i64 b1, .int .i64 b2])) : Sem Value).run Tryz.prog w = .ok (.bool (!((a0 == b0) && (a1 == b1) && (a2 == b2)))) w := by
  intro x y
  simp [go_sem, run_eqGuard_agg, run_neq_struct, run_equalIn_agg]
  by_cases h0 : a0 = b0 <;> by_cases h1 : a1 = b1 <;> by_cases h2 : a2 = b2 <;> simp [*]
theorem eqve35 (w : World) (a0 a1 a2 b0 b1 b2 : Int) : ∀ x y, ((do eqGuard .eql 35 x y (.agg #[.int .i64 a0, .int .i64 a1, .int .i64 a2]) (.agg #[.int .i64 b0, .int .i64 b1, .int .i64 b2]); binOp .eql 35 (.agg #[.int .i64 a0, .int .i64 a1, .int .i64 a2]) (.agg #[.int .i64 b0, .int .i64 b1, .int .i64 b2])) : Sem Value).run Tryz.prog w = .ok (.bool ((a0 == b0) && (a1 == b1) && (a2 == b2))) w := by
  intro x y
  simp [go_sem, run_eqGuard_agg, run_eql_struct, run_equalIn_agg]
  by_cases h0 : a0 = b0 <;> by_cases h1 : a1 = b1 <;> by_cases h2 : a2 = b2 <;> simp [*]
theorem l17_agrees (p : Job) (hp : Job.Ok [H] p) (hb : p.inputs.n ≤ 1000000 ∧ p.stages.n ≤ 1000000 ∧ p.outputs.n ≤ 1000000) (hS : Sat W w (H :: F)) :
  Ro Tryz.prog 14 #[.agg (encJob p).toArray] (.bool true) W w (H :: F) := by
 have hl_p_inputs := hp.inputs.le; have hn_p_inputs := hp.inputs.len
 have hl_p_stages := hp.stages.le; have hn_p_stages := hp.stages.len
 have hl_p_outputs := hp.outputs.le; have hn_p_outputs := hp.outputs.len
 refine callsA 102 Tryz.func14 rfl ?_
 refine sR ?_
 refine sBox hS (.agg (encJob p).toArray) (encJob p).toArray ?_
 intro e1 _ v1
 refine pu1 <| nT <| sR ?_
 refine lA v1 0 0 4 (Tryz.isAgg28 _) (Tryz.sizeOf28 _) ?_
 refine cX Tryz.call17 (p17_order p ⟨(RdT.flat (hp.inputs.up 1 (by rfl))), (fun z hz => (hp.inputsD z hz).of_mem (mem_flat1 1 (by rfl))), (RdT.flat (hp.stages.up 1 (by rfl))), (fun z hz => (hp.stagesD z hz).of_mem (mem_flat1 1 (by rfl))), (RdT.flat (hp.outputs.up 1 (by rfl)))⟩ (od) (Sat.flat v1)) ?_
 rintro _ _ ⟨l2, m2, n2, f1, rfl, g1, o2⟩
 have w1 := Sat.unflat1 o2
 have hn_az_7 := g1.len; have hl_az_7 := g1.le
 refine pu5 <| nT <| sR ?_
 refine lA w1 1 0 4 (Tryz.isAgg28 _) (Tryz.sizeOf28 _) ?_
 refine cX Tryz.call39 (r17_order p ⟨(RdT.flat (hp.inputs.up 2 (by rfl))), (fun z hz => (hp.inputsD z hz).of_mem (mem_flat1 2 (by rfl))), (RdT.flat (hp.stages.up 2 (by rfl))), (fun z hz => (hp.stagesD z hz).of_mem (mem_flat1 2 (by rfl))), (RdT.flat (hp.outputs.up 2 (by rfl)))⟩ (od) (Sat.flat w1)) ?_
 rintro _ _ ⟨p2, q2, r2, h1, rfl, i1, s2⟩
 have x1 := Sat.unflat1 s2
 have hn_az_15 := i1.len; have hl_az_15 := i1.le
 refine pu5 <| nT <| sR ?_
 refine lA x1 2 0 4 (Tryz.isAgg28 _) (Tryz.sizeOf28 _) ?_
 refine cX Tryz.call8 (p17_shapes p ⟨(RdT.flat (hp.inputs.up 3 (by rfl))), (fun z hz => (hp.inputsD z hz).of_mem (mem_flat1 3 (by rfl))), (RdT.flat (hp.stages.up 3 (by rfl))), (fun z hz => (hp.stagesD z hz).of_mem (mem_flat1 3 (by rfl))), (RdT.flat (hp.outputs.up 3 (by rfl)))⟩ (od) (Sat.flat x1)) ?_
 rintro _ _ ⟨j0, d0, k0, j1, rfl, n0, t2⟩
 have y1 := Sat.unflat1 t2
 have hn_az_23 := n0.len; have hl_az_23 := n0.le
 refine pu7 <| nT <| sR ?_
 refine lA y1 3 0 4 (Tryz.isAgg28 _) (Tryz.sizeOf28 _) ?_
 refine cX Tryz.call40 (r17_shapes p ⟨(RdT.flat (hp.inputs.up 4 (by rfl))), (fun z hz => (hp.inputsD z hz).of_mem (mem_flat1 4 (by rfl))), (RdT.flat (hp.stages.up 4 (by rfl))), (fun z hz => (hp.stagesD z hz).of_mem (mem_flat1 4 (by rfl))), (RdT.flat (hp.outputs.up 4 (by rfl)))⟩ (od) (Sat.flat y1)) ?_
 rintro _ _ ⟨l0, h0, m0, k1, rfl, o0, u2⟩
 have z1 := Sat.unflat1 u2
 have hn_az_31 := o0.len; have hl_az_31 := o0.le
 refine pu7 <| nT <| sR ?_
 refine lA z1 4 0 4 (Tryz.isAgg28 _) (Tryz.sizeOf28 _) ?_
 refine cR Tryz.call41 (p17_check p ⟨(RdT.flat (hp.inputs.up 5 (by rfl))), (fun z hz => (hp.inputsD z hz).of_mem (mem_flat1 5 (by rfl))), (RdT.flat (hp.stages.up 5 (by rfl))), (fun z hz => (hp.stagesD z hz).of_mem (mem_flat1 5 (by rfl))), (RdT.flat (hp.outputs.up 5 (by rfl)))⟩ (od) (Sat.flat z1)) ?_
 intro _ v2
 refine pu5 <| nT <| seqE <| seqE ?_
 refine drawP [2, 37, 38, 39, 40, 41] [] (Plan.sts [0, 1] <| .ef 2 <| Plan.sts [3] <| Plan.sts [4] <| Plan.sts [5] <| Plan.sts [6] <| Plan.sts [7] <| Plan.sts [8] <| Plan.sts [9] <| Plan.sts [10] <| Plan.sts [11] <| Plan.sts [12] <| Plan.sts [13] <| Plan.sts [14] <| Plan.sts [15] <| Plan.sts [16] <| Plan.sts [17] <| Plan.sts [18] <| Plan.sts [19] <| Plan.sts [20] <| Plan.sts [21] <| Plan.sts [22] <| Plan.sts [23] <| Plan.sts [24] <| Plan.sts [25] <| Plan.sts [26] <| Plan.sts [27] <| Plan.sts [28] <| Plan.sts [29] <| Plan.sts [30] <| Plan.sts [31] <| Plan.sts [32] <| Plan.sts [33] <| Plan.sts [34] <| Plan.sts [35] <| Plan.sts [36] <| .fk 37 39 (.fk 38 39 (.ef 39 <| .ef 40 <| .ef 41 <| Plan.sts [42] <| Plan.sts [43] <| .fin) (.ef 38 <| .ef 40 <| .ef 41 <| Plan.sts [42] <| Plan.sts [43] <| .fin)) (.ef 37 <| .ef 38 <| .ef 40 <| .ef 41 <| Plan.sts [42] <| Plan.sts [43] <| .fin)) rfl kr trivial ?_
 have w2 := v2.drew
 refine qU [0, 1] ?_
 refine qO rfl ?_
 refine cR Tryz.call42 (r4_same l2 m2 n2 ((ordV p.v).1) p2 q2 r2 ((ordV p.v).1) (RdT.flat (g1.rdAt 3 (by rfl))) (RdT.flat (i1.up 2 (by rfl))) (Sat.flat w2)) ?_
 intro _ i0
 refine nilO ⟨trivial, ?_⟩
 refine qU [3] <| qU [4] ?_
 have x2 : ((ordV p.v).1) = ((ordV p.v).1) := rfl
 refine qFix 47 _ false (congrArg Bool.not (decide_eq_true x2)) ?_
 refine qU [5] <| qU [6] <| qU [7] <| qU [8] <| qU [9] ?_
 have y2 : ((ordV p.v).2 : Int) = ((ordV p.v).2) := rfl
 refine qFix 52 _ false (bne_eq_false_iff_eq.2 y2) ?_
 refine qU [10] <| qU [11] <| qU [12] <| qU [13] <| qU [14] <| qU [15] <| qU [16] ?_
 have z2 : (((d0 : Nat) : Int) : Int) = ((h0 : Nat) : Int) := by omega
 refine qFix 59 _ false (bne_eq_false_iff_eq.2 z2) ?_
 refine qU [17] <| qU [18] <| qU [19] <| qU [20] <| qU [21] ?_
 have a2 : ((shpV p.v).2.1 : Int) = ((shpV p.v).2.1) := rfl
 refine qFix 64 _ false (bne_eq_false_iff_eq.2 a2) ?_
 refine qU [22] <| qU [23] <| qU [24] <| qU [25] <| qU [26] ?_
 have l1 : ((shpV p.v).2.2 : Int) = ((shpV p.v).2.2) := rfl
 refine qFix 69 _ false (bne_eq_false_iff_eq.2 l1) ?_
 refine qU [27] <| qU [28] <| qU [29] <| qU [30] <| qU [31] ?_
 refine qFix 74 _ false (bne_eq_false_iff_eq.2 a2) ?_
 refine qU [32] <| qU [33] <| qU [34] <| qU [35] <| qU [36] ?_
 refine qF ?_ ?_
 rotate_left
 ·refine qFix 79 _ false (bne_eq_false_iff_eq.2 l1) ?_
  refine qO rfl ?_
  refine gY ?_
  refine lA i0 4 0 4 (Tryz.isAgg28 _) (Tryz.sizeOf28 _) ?_
  refine nilO ⟨trivial, ?_⟩
  refine qO rfl ?_
  refine gY ?_
  refine lA i0 4 0 4 (Tryz.isAgg28 _) (Tryz.sizeOf28 _) ?_
  refine nilO ⟨trivial, ?_⟩
  refine qO rfl ?_
  refine gY ?_
  refine cX Tryz.call18 (p17_cycle p ⟨(RdT.flat (hp.inputs.up 5 (by rfl))), (fun z hz => (hp.inputsD z hz).of_mem (mem_flat1 5 (by rfl))), (RdT.flat (hp.stages.up 5 (by rfl))), (fun z hz => (hp.stagesD z hz).of_mem (mem_flat1 5 (by rfl))), (RdT.flat (hp.outputs.up 5 (by rfl)))⟩ (od) (Sat.flat i0)) ?_
  rintro _ _ ⟨a3, b3, c3, d3, rfl, m1, e3⟩
  have f3 := Sat.unflat1 e3
  have hn_az_129 := m1.len; have hl_az_129 := m1.le
  refine nilO ⟨trivial, ?_⟩
  refine qO rfl ?_
  refine gY ?_
  refine cX Tryz.call43 (r17_cycle p ⟨(RdT.flat (hp.inputs.up 6 (by rfl))), (fun z hz => (hp.inputsD z hz).of_mem (mem_flat1 6 (by rfl))), (RdT.flat (hp.stages.up 6 (by rfl))), (fun z hz => (hp.stagesD z hz).of_mem (mem_flat1 6 (by rfl))), (RdT.flat (hp.outputs.up 6 (by rfl)))⟩ (od) (Sat.flat f3)) ?_
  rintro _ _ ⟨g3, h3, i3, j3, rfl, n1, k3⟩
  have l3 := Sat.unflat1 k3
  have hn_az_137 := n1.len; have hl_az_137 := n1.le
  refine nilO ⟨trivial, ?_⟩
  refine qO rfl ?_
  refine gY ?_
  refine cR Tryz.call42 (r4_same a3 b3 c3 (cycV p.v) g3 h3 i3 (cycV p.v) (RdT.flat (m1.rdAt 1 (by rfl))) (RdT.flat (n1.rdAt 0 (by rfl))) (Sat.flat l3)) ?_
  intro _ m3
  refine nilO ⟨trivial, ?_⟩
  refine qU [42] <| qU [43] ?_
  refine qN ?_
  refine thenK_n ?_
  have n3 : (cycV p.v) = (cycV p.v) := rfl
  refine cF _ (congrArg Bool.not (decide_eq_true n3)) ?_
  refine kT <| seqE <| sR <| pu1 <| nT <| blockE ?_
  refine loopA (γ := Nat) (fun i => [(7, .slice j0 d0 k0), (10, .slice l0 h0 m0), (15, I ((i : Nat) : Int))]) (fun i w => Sat W w (j3 :: d3 :: k1 :: j1 :: h1 :: f1 :: [(e1, .cells (encJob p).toArray 28 (0, 0))] :: H :: F) ∧ i ≤ d0) (fun i => d0 - i) 0 ⟨m3, om⟩ ?_
  rintro i ρ _ ⟨e0, hi⟩
  refine seqE <| sR <| pu4 <| nT ?_
  refine cD (((i : Nat) : Int) < ((d0 : Nat) : Int)) (fun o3 => ?_) (fun o3 => ?_)
  rotate_left
  ·refine exitE <| xB <| thenK_n <| sR <| pu1 <| nT <| retE <| retT [.bool true] ?_
   have p3 := (e0.drops [0, 0, 0, 0, 0, 0, 0])
   exact ⟨rfl, p3⟩
  refine kT <| seqE <| blockE <| seqE ?_
  obtain ⟨a0, p0, q0, b2, r0, c2, s5⟩ := OwnT.elem n0 ((i : Nat) : Int)
  rw [Int.toNat_natCast] at b2 r0 c2
  obtain ⟨q3, s0, t0, d2, o1, r3⟩ := RdT.elem o0 ((i : Nat) : Int)
  rw [Int.toNat_natCast] at d2
  obtain rfl : a0 = q3 := Option.some.inj (b2.symm.trans d2)
  refine drawE [] [(3, ⟨p0, q0 + i * 3 + 0, none⟩, I a0.w), (3, ⟨p0, q0 + i * 3 + 1, none⟩, I a0.h), (3, ⟨p0, q0 + i * 3 + 2, none⟩, I a0.max_), (7, ⟨s0, t0 + 0, none⟩, I a0.w), (7, ⟨s0, t0 + 1, none⟩, I a0.h), (7, ⟨s0, t0 + 2, none⟩, I a0.max_)] [(true, [0, 1]), (true, [2]), (true, [4, 5]), (true, [6]), (true, [3]), (true, [7]), (true, [8])] rfl kr ⟨.inr ((r0.up 3 rfl).cell e0 (k := 0) rfl), .inr ((r0.up 3 rfl).cell e0 (k := 1) rfl), .inr ((r0.up 3 rfl).cell e0 (k := 2) rfl), .inr ((o1.up 2 rfl).cell e0 (k := 0) rfl), .inr ((o1.up 2 rfl).cell e0 (k := 1) rfl), .inr ((o1.up 2 rfl).cell e0 (k := 2) rfl), trivial⟩ ?_
  have s3 := e0.drew
  refine wU [0, 1] ?_
  refine wY (.pointer (some ⟨p0, q0 + i * 3, none⟩)) rfl (fun w _ => Y_idx (a := j0) (i := ((i : Nat) : Int)) (len := d0) (cap := k0) rfl Tryz.runUnderlying30 Tryz.sizeOf35 kr kr c2) ?_
  refine wU [4, 5] ?_
  refine wY (.pointer (some ⟨s0, t0, none⟩)) rfl (fun w _ => Y_idx (a := l0) (i := ((i : Nat) : Int)) (len := h0) (cap := m0) rfl Tryz.runUnderlying30 Tryz.sizeOf35 kr kr r3) ?_
  refine wY (.agg #[I a0.w, I a0.h, I a0.max_]) rfl (fun w hF => Y_loadF rfl (Tryz.isAgg35 w) (Tryz.sizeOf35 w) kr rfl ⟨hF 0 _ _ rfl, hF 1 _ _ rfl, hF 2 _ _ rfl, trivial⟩) ?_
  refine wY (.agg #[I a0.w, I a0.h, I a0.max_]) rfl (fun w hF => Y_loadF rfl (Tryz.isAgg35 w) (Tryz.sizeOf35 w) kr rfl ⟨hF 3 _ _ rfl, hF 4 _ _ rfl, hF 5 _ _ rfl, trivial⟩) ?_
  refine wY (.bool (!(((a0.w : Int) == a0.w) && ((a0.h : Int) == a0.h) && ((a0.max_ : Int) == a0.max_)))) rfl (fun w _ => Y_eqS rfl kr kr (eqvn35 _ a0.w a0.h a0.max_ a0.w a0.h a0.max_)) ?_
  refine wN ?_
  refine thenK_n ?_
  have t3 : (a0.w : Int) = a0.w ∧ (a0.h : Int) = a0.h ∧ (a0.max_ : Int) = a0.max_ := ⟨rfl, rfl, rfl⟩
  refine cF _ (congrArg Bool.not (show (((a0.w : Int) == a0.w) && ((a0.h : Int) == a0.h) && ((a0.max_ : Int) == a0.max_)) = true from by simpa [and_assoc] using t3)) ?_
  refine skipE <| blockK_n <| thenK_n <| regionE <| pu1 ?_
  refine sAdd ((i : Nat) : Int) 1 ?_
  refine pu1 <| nT ?_
  exact ⟨i + 1, od, alA, s3, om⟩
 refine qFix 79 _ false (bne_eq_false_iff_eq.2 l1) ?_
 refine qO rfl ?_
 refine gY ?_
 refine lA i0 4 0 4 (Tryz.isAgg28 _) (Tryz.sizeOf28 _) ?_
 refine nilO ⟨trivial, ?_⟩
 refine qF ?_ ?_
 ·refine qO rfl ?_
  refine gY ?_
  refine cX Tryz.call18 (p17_cycle p ⟨(RdT.flat (hp.inputs.up 5 (by rfl))), (fun z hz => (hp.inputsD z hz).of_mem (mem_flat1 5 (by rfl))), (RdT.flat (hp.stages.up 5 (by rfl))), (fun z hz => (hp.stagesD z hz).of_mem (mem_flat1 5 (by rfl))), (RdT.flat (hp.outputs.up 5 (by rfl)))⟩ (od) (Sat.flat i0)) ?_
  rintro _ _ ⟨u3, v3, w3, x3, rfl, p1, y3⟩
  have e2 := Sat.unflat1 y3
  have hn_az_51 := p1.len; have hl_az_51 := p1.le
  refine nilO ⟨trivial, ?_⟩
  refine qO rfl ?_
  refine gY ?_
  refine lA e2 5 0 4 (Tryz.isAgg28 _) (Tryz.sizeOf28 _) ?_
  refine nilO ⟨trivial, ?_⟩
  refine qO rfl ?_
  refine gY ?_
  refine cX Tryz.call43 (r17_cycle p ⟨(RdT.flat (hp.inputs.up 6 (by rfl))), (fun z hz => (hp.inputsD z hz).of_mem (mem_flat1 6 (by rfl))), (RdT.flat (hp.stages.up 6 (by rfl))), (fun z hz => (hp.stagesD z hz).of_mem (mem_flat1 6 (by rfl))), (RdT.flat (hp.outputs.up 6 (by rfl)))⟩ (od) (Sat.flat e2)) ?_
  rintro _ _ ⟨z3, a4, b4, c4, rfl, q1, d4⟩
  have e4 := Sat.unflat1 d4
  have hn_az_59 := q1.len; have hl_az_59 := q1.le
  refine nilO ⟨trivial, ?_⟩
  refine qO rfl ?_
  refine gY ?_
  refine cR Tryz.call42 (r4_same u3 v3 w3 (cycV p.v) z3 a4 b4 (cycV p.v) (RdT.flat (p1.rdAt 1 (by rfl))) (RdT.flat (q1.rdAt 0 (by rfl))) (Sat.flat e4)) ?_
  intro _ f4
  refine nilO ⟨trivial, ?_⟩
  refine qU [42] <| qU [43] ?_
  refine qN ?_
  refine thenK_n ?_
  have g4 : (cycV p.v) = (cycV p.v) := rfl
  refine cF _ (congrArg Bool.not (decide_eq_true g4)) ?_
  refine kT <| seqE <| sR <| pu1 <| nT <| blockE ?_
  refine loopA (γ := Nat) (fun i => [(7, .slice j0 d0 k0), (10, .slice l0 h0 m0), (15, I ((i : Nat) : Int))]) (fun i w => Sat W w (c4 :: x3 :: k1 :: j1 :: h1 :: f1 :: [(e1, .cells (encJob p).toArray 28 (0, 0))] :: H :: F) ∧ i ≤ d0) (fun i => d0 - i) 0 ⟨f4, om⟩ ?_
  rintro i ρ _ ⟨f0, hi⟩
  refine seqE <| sR <| pu4 <| nT ?_
  refine cD (((i : Nat) : Int) < ((d0 : Nat) : Int)) (fun h4 => ?_) (fun h4 => ?_)
  rotate_left
  ·refine exitE <| xB <| thenK_n <| sR <| pu1 <| nT <| retE <| retT [.bool true] ?_
   have i4 := (f0.drops [0, 0, 0, 0, 0, 0, 0])
   exact ⟨rfl, i4⟩
  refine kT <| seqE <| blockE <| seqE ?_
  obtain ⟨b0, u0, v0, f2, w0, g2, x5⟩ := OwnT.elem n0 ((i : Nat) : Int)
  rw [Int.toNat_natCast] at f2 w0 g2
  obtain ⟨j4, x0, y0, h2, r1, k4⟩ := RdT.elem o0 ((i : Nat) : Int)
  rw [Int.toNat_natCast] at h2
  obtain rfl : b0 = j4 := Option.some.inj (f2.symm.trans h2)
  refine drawE [] [(3, ⟨u0, v0 + i * 3 + 0, none⟩, I b0.w), (3, ⟨u0, v0 + i * 3 + 1, none⟩, I b0.h), (3, ⟨u0, v0 + i * 3 + 2, none⟩, I b0.max_), (7, ⟨x0, y0 + 0, none⟩, I b0.w), (7, ⟨x0, y0 + 1, none⟩, I b0.h), (7, ⟨x0, y0 + 2, none⟩, I b0.max_)] [(true, [0, 1]), (true, [2]), (true, [4, 5]), (true, [6]), (true, [3]), (true, [7]), (true, [8])] rfl kr ⟨.inr ((w0.up 3 rfl).cell f0 (k := 0) rfl), .inr ((w0.up 3 rfl).cell f0 (k := 1) rfl), .inr ((w0.up 3 rfl).cell f0 (k := 2) rfl), .inr ((r1.up 2 rfl).cell f0 (k := 0) rfl), .inr ((r1.up 2 rfl).cell f0 (k := 1) rfl), .inr ((r1.up 2 rfl).cell f0 (k := 2) rfl), trivial⟩ ?_
  have l4 := f0.drew
  refine wU [0, 1] ?_
  refine wY (.pointer (some ⟨u0, v0 + i * 3, none⟩)) rfl (fun w _ => Y_idx (a := j0) (i := ((i : Nat) : Int)) (len := d0) (cap := k0) rfl Tryz.runUnderlying30 Tryz.sizeOf35 kr kr g2) ?_
  refine wU [4, 5] ?_
  refine wY (.pointer (some ⟨x0, y0, none⟩)) rfl (fun w _ => Y_idx (a := l0) (i := ((i : Nat) : Int)) (len := h0) (cap := m0) rfl Tryz.runUnderlying30 Tryz.sizeOf35 kr kr k4) ?_
  refine wY (.agg #[I b0.w, I b0.h, I b0.max_]) rfl (fun w hF => Y_loadF rfl (Tryz.isAgg35 w) (Tryz.sizeOf35 w) kr rfl ⟨hF 0 _ _ rfl, hF 1 _ _ rfl, hF 2 _ _ rfl, trivial⟩) ?_
  refine wY (.agg #[I b0.w, I b0.h, I b0.max_]) rfl (fun w hF => Y_loadF rfl (Tryz.isAgg35 w) (Tryz.sizeOf35 w) kr rfl ⟨hF 3 _ _ rfl, hF 4 _ _ rfl, hF 5 _ _ rfl, trivial⟩) ?_
  refine wY (.bool (!(((b0.w : Int) == b0.w) && ((b0.h : Int) == b0.h) && ((b0.max_ : Int) == b0.max_)))) rfl (fun w _ => Y_eqS rfl kr kr (eqvn35 _ b0.w b0.h b0.max_ b0.w b0.h b0.max_)) ?_
  refine wN ?_
  refine thenK_n ?_
  have m4 : (b0.w : Int) = b0.w ∧ (b0.h : Int) = b0.h ∧ (b0.max_ : Int) = b0.max_ := ⟨rfl, rfl, rfl⟩
  refine cF _ (congrArg Bool.not (show (((b0.w : Int) == b0.w) && ((b0.h : Int) == b0.h) && ((b0.max_ : Int) == b0.max_)) = true from by simpa [and_assoc] using m4)) ?_
  refine skipE <| blockK_n <| thenK_n <| regionE <| pu1 ?_
  refine sAdd ((i : Nat) : Int) 1 ?_
  refine pu1 <| nT ?_
  exact ⟨i + 1, od, alA, l4, om⟩
 refine qO rfl ?_
 refine gY ?_
 refine lA i0 4 0 4 (Tryz.isAgg28 _) (Tryz.sizeOf28 _) ?_
 refine nilO ⟨trivial, ?_⟩
 refine qO rfl ?_
 refine gY ?_
 refine cX Tryz.call18 (p17_cycle p ⟨(RdT.flat (hp.inputs.up 5 (by rfl))), (fun z hz => (hp.inputsD z hz).of_mem (mem_flat1 5 (by rfl))), (RdT.flat (hp.stages.up 5 (by rfl))), (fun z hz => (hp.stagesD z hz).of_mem (mem_flat1 5 (by rfl))), (RdT.flat (hp.outputs.up 5 (by rfl)))⟩ (od) (Sat.flat i0)) ?_
 rintro _ _ ⟨n4, o4, p4, q4, rfl, s1, r4⟩
 have s4 := Sat.unflat1 r4
 have hn_az_90 := s1.len; have hl_az_90 := s1.le
 refine nilO ⟨trivial, ?_⟩
 refine qO rfl ?_
 refine gY ?_
 refine cX Tryz.call43 (r17_cycle p ⟨(RdT.flat (hp.inputs.up 6 (by rfl))), (fun z hz => (hp.inputsD z hz).of_mem (mem_flat1 6 (by rfl))), (RdT.flat (hp.stages.up 6 (by rfl))), (fun z hz => (hp.stagesD z hz).of_mem (mem_flat1 6 (by rfl))), (RdT.flat (hp.outputs.up 6 (by rfl)))⟩ (od) (Sat.flat s4)) ?_
 rintro _ _ ⟨t4, u4, v4, w4, rfl, t1, x4⟩
 have y4 := Sat.unflat1 x4
 have hn_az_98 := t1.len; have hl_az_98 := t1.le
 refine nilO ⟨trivial, ?_⟩
 refine qO rfl ?_
 refine gY ?_
 refine cR Tryz.call42 (r4_same n4 o4 p4 (cycV p.v) t4 u4 v4 (cycV p.v) (RdT.flat (s1.rdAt 1 (by rfl))) (RdT.flat (t1.rdAt 0 (by rfl))) (Sat.flat y4)) ?_
 intro _ z4
 refine nilO ⟨trivial, ?_⟩
 refine qU [42] <| qU [43] ?_
 refine qN ?_
 refine thenK_n ?_
 have a5 : (cycV p.v) = (cycV p.v) := rfl
 refine cF _ (congrArg Bool.not (decide_eq_true a5)) ?_
 refine kT <| seqE <| sR <| pu1 <| nT <| blockE ?_
 refine loopA (γ := Nat) (fun i => [(7, .slice j0 d0 k0), (10, .slice l0 h0 m0), (15, I ((i : Nat) : Int))]) (fun i w => Sat W w (w4 :: q4 :: k1 :: j1 :: h1 :: f1 :: [(e1, .cells (encJob p).toArray 28 (0, 0))] :: H :: F) ∧ i ≤ d0) (fun i => d0 - i) 0 ⟨z4, om⟩ ?_
 rintro i ρ _ ⟨g0, hi⟩
 refine seqE <| sR <| pu4 <| nT ?_
 refine cD (((i : Nat) : Int) < ((d0 : Nat) : Int)) (fun b5 => ?_) (fun b5 => ?_)
 rotate_left
 ·refine exitE <| xB <| thenK_n <| sR <| pu1 <| nT <| retE <| retT [.bool true] ?_
  have c5 := (g0.drops [0, 0, 0, 0, 0, 0, 0])
  exact ⟨rfl, c5⟩
 refine kT <| seqE <| blockE <| seqE ?_
 obtain ⟨c0, z0, a1, i2, b1, j2, c6⟩ := OwnT.elem n0 ((i : Nat) : Int)
 rw [Int.toNat_natCast] at i2 b1 j2
 obtain ⟨d5, c1, d1, k2, u1, e5⟩ := RdT.elem o0 ((i : Nat) : Int)
 rw [Int.toNat_natCast] at k2
 obtain rfl : c0 = d5 := Option.some.inj (i2.symm.trans k2)
 refine drawE [] [(3, ⟨z0, a1 + i * 3 + 0, none⟩, I c0.w), (3, ⟨z0, a1 + i * 3 + 1, none⟩, I c0.h), (3, ⟨z0, a1 + i * 3 + 2, none⟩, I c0.max_), (7, ⟨c1, d1 + 0, none⟩, I c0.w), (7, ⟨c1, d1 + 1, none⟩, I c0.h), (7, ⟨c1, d1 + 2, none⟩, I c0.max_)] [(true, [0, 1]), (true, [2]), (true, [4, 5]), (true, [6]), (true, [3]), (true, [7]), (true, [8])] rfl kr ⟨.inr ((b1.up 3 rfl).cell g0 (k := 0) rfl), .inr ((b1.up 3 rfl).cell g0 (k := 1) rfl), .inr ((b1.up 3 rfl).cell g0 (k := 2) rfl), .inr ((u1.up 2 rfl).cell g0 (k := 0) rfl), .inr ((u1.up 2 rfl).cell g0 (k := 1) rfl), .inr ((u1.up 2 rfl).cell g0 (k := 2) rfl), trivial⟩ ?_
 have f5 := g0.drew
 refine wU [0, 1] ?_
 refine wY (.pointer (some ⟨z0, a1 + i * 3, none⟩)) rfl (fun w _ => Y_idx (a := j0) (i := ((i : Nat) : Int)) (len := d0) (cap := k0) rfl Tryz.runUnderlying30 Tryz.sizeOf35 kr kr j2) ?_
 refine wU [4, 5] ?_
 refine wY (.pointer (some ⟨c1, d1, none⟩)) rfl (fun w _ => Y_idx (a := l0) (i := ((i : Nat) : Int)) (len := h0) (cap := m0) rfl Tryz.runUnderlying30 Tryz.sizeOf35 kr kr e5) ?_
 refine wY (.agg #[I c0.w, I c0.h, I c0.max_]) rfl (fun w hF => Y_loadF rfl (Tryz.isAgg35 w) (Tryz.sizeOf35 w) kr rfl ⟨hF 0 _ _ rfl, hF 1 _ _ rfl, hF 2 _ _ rfl, trivial⟩) ?_
 refine wY (.agg #[I c0.w, I c0.h, I c0.max_]) rfl (fun w hF => Y_loadF rfl (Tryz.isAgg35 w) (Tryz.sizeOf35 w) kr rfl ⟨hF 3 _ _ rfl, hF 4 _ _ rfl, hF 5 _ _ rfl, trivial⟩) ?_
 refine wY (.bool (!(((c0.w : Int) == c0.w) && ((c0.h : Int) == c0.h) && ((c0.max_ : Int) == c0.max_)))) rfl (fun w _ => Y_eqS rfl kr kr (eqvn35 _ c0.w c0.h c0.max_ c0.w c0.h c0.max_)) ?_
 refine wN ?_
 refine thenK_n ?_
 have g5 : (c0.w : Int) = c0.w ∧ (c0.h : Int) = c0.h ∧ (c0.max_ : Int) = c0.max_ := ⟨rfl, rfl, rfl⟩
 refine cF _ (congrArg Bool.not (show (((c0.w : Int) == c0.w) && ((c0.h : Int) == c0.h) && ((c0.max_ : Int) == c0.max_)) = true from by simpa [and_assoc] using g5)) ?_
 refine skipE <| blockK_n <| thenK_n <| regionE <| pu1 ?_
 refine sAdd ((i : Nat) : Int) 1 ?_
 refine pu1 <| nT ?_
 exact ⟨i + 1, od, alA, f5, om⟩
theorem l17_point (a : Int) {F : List Chunk} (hS : Sat W w F) :
  Calls Tryz.prog 61 #[I a] w fun e w' => ∃ (q : Stage) (G : Chunk), e = .returned (.agg (encStage q).toArray) ∧ Stage.Ok [G] q ∧ q.v = safe a ∧ Sat W w' (G :: F) := by
 refine callsA 7 Tryz.func61 rfl ?_
 refine sR ?_
 refine sAlloc hS Tryz.zeroValue44 ?_
 intro _ _ c0
 refine nT <| sR <| pu2 ?_
 refine sBS c0 #[I 0, I 0] Tryz.runUnderlying42 Tryz.sizeOf68 Tryz.zeroValue68 ?_
 intro a0 _ d0
 refine pu1 ?_
 refine sT d0 1 0 (.agg #[I 6, I a, I (-1), .bool false, I 0, I 0, I 0, I 0, .slice none 0 0, .slice none 0 0, .slice none 0 0, I 0, I 0, .slice none 0 0, .slice none 0 0, I 0, .slice (At a0 0) 1 1, I 255]) [I 6, I a, I (-1), .bool false, I 0, I 0, I 0, I 0, .slice none 0 0, .slice none 0 0, .slice none 0 0, I 0, I 0, .slice none 0 0, .slice none 0 0, I 0, .slice (At a0 0) 1 1, I 255] #[I 6, I a, I (-1), .bool false, I 0, I 0, I 0, I 0, .slice none 0 0, .slice none 0 0, .slice none 0 0, I 0, I 0, .slice none 0 0, .slice none 0 0, I 0, .slice (At a0 0) 1 1, I 255] Tryz.sizeOf44 ?_
 intro _ b0
 refine nT <| retE <| retN (vs := [.agg #[I 6, I a, I (-1), .bool false, I 0, I 0, I 0, I 0, .slice none 0 0, .slice none 0 0, .slice none 0 0, I 0, I 0, .slice none 0 0, .slice none 0 0, I 0, .slice (At a0 0) 1 1, I 255]]) rfl (.cons (.cell _ _ _ _ kr (lvA b0 1 0 [I 6, I a, I (-1), .bool false, I 0, I 0, I 0, I 0, .slice none 0 0, .slice none 0 0, .slice none 0 0, I 0, I 0, .slice none 0 0, .slice none 0 0, I 0, .slice (At a0 0) 1 1, I 255] (Tryz.isAgg44 _) (Tryz.sizeOf44 _) rfl rfl rfl)) .nil) ?_
 have e0 := (b0.dropAt 1 rfl)
 exact ⟨(⟨6, a, -1, false, 0, 0, 0, 0, ⟨none, 0, 0, []⟩, ⟨none, 0, 0, []⟩, ⟨none, 0, 0, []⟩, 0, 0, ⟨none, 0, 0, []⟩, ⟨none, 0, 0, []⟩, 0, ⟨(At a0 0), 1, 1, [(⟨0, 0⟩ : POp)]⟩, 255⟩ : Stage), _, rfl, ⟨RdT.nil (enc := encI) (sz := 1) fR _, RdT.nil (enc := encI) (sz := 1) fR _, RdT.nil (enc := encI) (sz := 1) fR _, RdT.nil (enc := encTap) (sz := 2) fR _, (fun z hz => by cases hz), RdT.nil (enc := encTap) (sz := 2) fR _, (fun z hz => by cases hz), (RdT.blk (cs := [[(a0, .cells #[I 0, I 0] 68 (0, 0))]]) (enc := encPOp) (sz := 2) (xs := [(⟨0, 0⟩ : POp)]) fR 1 0 rfl rfl rfl om)⟩, rfl, e0⟩
theorem l17_job {a : Option Addr} {n k : Nat} {x : List Int} (hx : RdT encI 1 [H] a n k x) (hb : n ≤ 1000) (hS : Sat W w (H :: F)) :
  Calls Tryz.prog 34 #[.slice a n k] w fun e w' => ∃ (q : Job) (C G G2 : Chunk), e = .returned (.agg (encJob q).toArray) ∧ OwnT encStage 44 18 q.stages.a q.stages.n q.stages.k q.stages.l C ∧ (∀ z ∈ q.stages.l, Stage.Ok [G] z) ∧ RdT encPlane 4 [G2] q.inputs.a q.inputs.n q.inputs.k q.inputs.l ∧ (∀ z ∈ q.inputs.l, Plane.Ok [G2] z) ∧ RdT encI 1 [G2] q.outputs.a q.outputs.n q.outputs.k q.outputs.l ∧ (q.v = jobL x ∧ q.inputs.n = 1 ∧ q.stages.n = n ∧ q.outputs.n = 1) ∧ Sat W w' (C :: G :: G2 :: H :: F) := by
 have hnx := hx.len; have hlx := hx.le
 refine callsA 27 Tryz.func34 rfl ?_
 refine sR ?_
 refine sAlloc hS Tryz.zeroValue28 ?_
 intro f0 _ s0
 refine nT <| sR ?_
 refine sBS s0 #[I 5] Tryz.runUnderlying22 Tryz.sizeOf3 Tryz.zeroValue3 ?_
 intro c0 _ t0
 refine pu1 ?_
 refine sBS t0 #[I 1, I 1, I 9, .slice (At c0 0) 1 1] Tryz.runUnderlying25 Tryz.sizeOf38 Tryz.zeroValue38 ?_
 intro a0 _ u0
 refine sBS u0 #[I 0] Tryz.runUnderlying22 Tryz.sizeOf3 Tryz.zeroValue3 ?_
 intro b0 _ v0
 refine pu1 ?_
 refine sAlloc v0 Tryz.zeroValue28 ?_
 intro d0 _ w0
 refine sT w0 0 0 (.agg #[.slice (At a0 0) 1 1, .slice none 0 0, .slice (At b0 0) 1 1, I 0]) [.slice (At a0 0) 1 1, .slice none 0 0, .slice (At b0 0) 1 1, I 0] #[.slice (At a0 0) 1 1, .slice none 0 0, .slice (At b0 0) 1 1, I 0] Tryz.sizeOf28 ?_
 intro _ x0
 refine nT <| seqE <| sR <| pu1 <| nT <| blockE ?_
 have y0 := Sat.nilc x0
 have z0 := OwnT.nil (enc := encStage) (E := 44) (sz := 18) fR
 have a1 := Sat.nilc y0
 refine loopA (γ := Nat × (List Stage) × (Option Addr) × Nat × Nat × Chunk × Chunk) (fun ⟨i, ss, ass, nss, kss, css, Gss⟩ => [(0, .slice a n k), (2, Pt f0 0), (3, Pt d0 0), (4, I ((i : Nat) : Int))]) (fun ⟨i, ss, ass, nss, kss, css, Gss⟩ w => Sat W w (Gss :: css :: [(d0, .cells #[.slice (At a0 0) 1 1, .slice ass nss kss, .slice (At b0 0) 1 1, I 0] 28 (0, 0))] :: [(b0, .cells #[I 0] 3 (0, 0))] :: [(a0, .cells #[I 1, I 1, I 9, .slice (At c0 0) 1 1] 38 (0, 0))] :: [(c0, .cells #[I 5] 3 (0, 0))] :: [(f0, .cells #[.slice none 0 0, .slice none 0 0, .slice none 0 0, I 0] 28 (0, 0))] :: H :: F) ∧ i ≤ n ∧ (ss.map Stage.v = (x.take i).map safe) ∧ (ss.length = i) ∧ OwnT encStage 44 18 ass nss kss ss css ∧ (∀ z ∈ ss, Stage.Ok [Gss] z)) (fun ⟨i, ss, ass, nss, kss, css, Gss⟩ => n - i) (0, [], none, 0, 0, [], []) ⟨a1, om, by rfl, by rfl, z0, (by intro z hz; cases hz)⟩ ?_
 rintro ⟨i, ss, ass, nss, kss, css, Gss⟩ ρ _ ⟨e0, hi, hss, hsl, hOss, hDss⟩
 have hn_ss := hOss.len; have hl_ss := hOss.le
 refine seqE <| sR <| pu4 <| nT ?_
 refine cD (((i : Nat) : Int) < ((n : Nat) : Int)) (fun b1 => ?_) (fun b1 => ?_)
 rotate_left
 ·refine exitE <| xB <| thenK_n <| sR ?_
  refine lA e0 2 0 4 (Tryz.isAgg28 _) (Tryz.sizeOf28 _) ?_
  refine sT e0 6 0 (.agg #[.slice (At a0 0) 1 1, .slice ass nss kss, .slice (At b0 0) 1 1, I 0]) [.slice (At a0 0) 1 1, .slice ass nss kss, .slice (At b0 0) 1 1, I 0] #[.slice (At a0 0) 1 1, .slice ass nss kss, .slice (At b0 0) 1 1, I 0] Tryz.sizeOf28 ?_
  intro _ m0
  refine nT <| retE <| retN (vs := [.agg #[.slice (At a0 0) 1 1, .slice ass nss kss, .slice (At b0 0) 1 1, I 0]]) rfl (.cons (.cell _ _ _ _ kr (lvA m0 6 0 [.slice (At a0 0) 1 1, .slice ass nss kss, .slice (At b0 0) 1 1, I 0] (Tryz.isAgg28 _) (Tryz.sizeOf28 _) rfl rfl rfl)) .nil) ?_
  have c1 := ((m0.picks [4, 1, 2]).drops [3, 5])
  have d1 : Sat W _ (css :: Gss :: ([(a0, .cells #[I 1, I 1, I 9, .slice (At c0 0) 1 1] 38 (0, 0))] ++ [(b0, .cells #[I 0] 3 (0, 0))] ++ [(c0, .cells #[I 5] 3 (0, 0))]) :: (H :: F)) := Sat.perm (show Sat W _ (css :: Gss :: [(a0, .cells #[I 1, I 1, I 9, .slice (At c0 0) 1 1] 38 (0, 0))] :: [(b0, .cells #[I 0] 3 (0, 0))] :: [(c0, .cells #[I 5] 3 (0, 0))] :: H :: F) from c1) (by simp [Value.cells])
  have hfin : ss.map Stage.v = x.map safe := by rw [hss, List.take_of_length_le om]
  have hnn := hOss.len; have hln : ss.length = x.length := by have h := congrArg List.length hfin; simpa using h
  exact ⟨(⟨⟨(At a0 0), 1, 1, [(⟨1, 1, 9, ⟨(At c0 0), 1, 1, [5]⟩⟩ : Plane)]⟩, ⟨ass, nss, kss, ss⟩, ⟨(At b0 0), 1, 1, [0]⟩, 0⟩ : Job), _, _, ([(a0, .cells #[I 1, I 1, I 9, .slice (At c0 0) 1 1] 38 (0, 0))] ++ [(b0, .cells #[I 0] 3 (0, 0))] ++ [(c0, .cells #[I 5] 3 (0, 0))]), rfl, hOss, hDss, ((RdT.blk (cs := [[(a0, .cells #[I 1, I 1, I 9, .slice (At c0 0) 1 1] 38 (0, 0))]]) (enc := encPlane) (sz := 4) (xs := [(⟨1, 1, 9, ⟨(At c0 0), 1, 1, [5]⟩⟩ : Plane)]) fR 1 0 rfl rfl rfl om)).of_mem mS, (fun z hz => by rw [List.mem_singleton.1 hz]; exact ⟨((RdT.blk (cs := [[(c0, .cells #[I 5] 3 (0, 0))]]) (enc := encI) (sz := 1) (xs := [5]) fR 1 0 rfl rfl rfl om)).of_mem mS⟩), ((RdT.blk (cs := [[(b0, .cells #[I 0] 3 (0, 0))]]) (enc := encI) (sz := 1) (xs := [0]) fR 1 0 rfl rfl rfl om)).of_mem mS, ⟨by unfold Job.v jobL jobOf; rw [← hfin]; rfl, rfl, (show nss = n by omega), rfl⟩, d1⟩
 refine kT <| seqE <| blockE ?_
 obtain ⟨i0, n0, o0, p0, e1, f1⟩ := RdT.elem hx ((i : Nat) : Int)
 rw [Int.toNat_natCast] at p0
 refine drawE [6, 7, 8, 10] [(1, ⟨d0, 1, none⟩, .slice ass nss kss), (5, ⟨n0, o0, none⟩, I i0)] [(true, [0, 2, 3]), (true, [4]), (true, [1]), (true, [5]), (false, [6]), (false, [7]), (false, [8]), (true, [9]), (false, [10])] rfl kr ⟨.inr (e0.cell 2 rfl rfl), .inr ((e1.up 7 rfl).cell e0 (k := 0) rfl), trivial⟩ ?_
 have g1 := e0.drew
 refine wU [0, 2, 3] ?_
 refine wY (.pointer (some ⟨n0, o0, none⟩)) rfl (fun w _ => Y_idx (a := a) (i := ((i : Nat) : Int)) (len := n) (cap := k) rfl Tryz.runUnderlying22 Tryz.sizeOf3 kr kr f1) ?_
 refine wLd (.slice ass nss kss) 0 Tryz.isAgg26 ?_
 refine wLd (I i0) 1 Tryz.isAgg3 ?_
 refine wO rfl ?_
 refine cX Tryz.call61 (l17_point i0 g1) ?_
 rintro _ _ ⟨j0, k0, rfl, h1, i1, q0⟩
 refine nilO ⟨⟨.inr (q0.cell 3 rfl rfl), dI, trivial⟩, ?_⟩
 refine wO rfl ?_
 refine sBS q0 (encStage j0).toArray Tryz.runUnderlying26 Tryz.sizeOf44 Tryz.zeroValue44 ?_
 intro _ _ r0
 refine nilO ⟨⟨.inr (r0.cell 4 rfl rfl), dI, trivial⟩, ?_⟩
 refine wO rfl ?_
 refine sApp (nb := 240) r0 hOss 3 (RdT.blk (enc := encStage) (sz := 18) (xs := [j0]) fR 1 0 rfl rfl rfl om) Tryz.underlying26 (i := Tryz.t44) kr fR ?_
 intro g0 h0 l0 _ j1 k1
 refine nilO ⟨dA, ?_⟩
 refine wU [9] ?_
 refine wO rfl ?_
 refine tW k1 4 1 (.slice g0 (nss + 1) h0) Tryz.sizeOf26 ?_
 intro _ l1
 refine nilO ⟨dA, ?_⟩
 refine wN ?_
 refine blockK_n <| thenK_n <| regionE <| pu1 ?_
 refine sAdd ((i : Nat) : Int) 1 ?_
 refine pu1 <| nT ?_
 have m1 := (l1.dropAt 0 rfl)
 have n1 := (Sat.perm (cs' := (k0 ++ Gss) :: (l0 :: [(d0, .cells #[.slice (At a0 0) 1 1, .slice g0 (nss + 1) h0, .slice (At b0 0) 1 1, I 0] 28 (0, 0))] :: [(b0, .cells #[I 0] 3 (0, 0))] :: [(a0, .cells #[I 1, I 1, I 9, .slice (At c0 0) 1 1] 38 (0, 0))] :: [(c0, .cells #[I 5] 3 (0, 0))] :: [(f0, .cells #[.slice none 0 0, .slice none 0 0, .slice none 0 0, I 0] 28 (0, 0))] :: H :: F)) (show Sat W _ (k0 :: Gss :: l0 :: [(d0, .cells #[.slice (At a0 0) 1 1, .slice g0 (nss + 1) h0, .slice (At b0 0) 1 1, I 0] 28 (0, 0))] :: [(b0, .cells #[I 0] 3 (0, 0))] :: [(a0, .cells #[I 1, I 1, I 9, .slice (At c0 0) 1 1] 38 (0, 0))] :: [(c0, .cells #[I 5] 3 (0, 0))] :: [(f0, .cells #[.slice none 0 0, .slice none 0 0, .slice none 0 0, I 0] 28 (0, 0))] :: H :: F) from m1) (by simp))
 exact ⟨(i + 1, (ss ++ [j0]), g0, (nss + 1), h0, l0, (k0 ++ Gss)), od, alA, n1, om, (by rw [List.map_append, hss, take_succ_at p0, List.map_append, List.map_singleton, List.map_singleton, i1]), by simp; omega, j1, (by
   intro z hz
   rcases List.mem_append.1 hz with h | h
   ·exact (hDss z h).of_mem mS
   ·simp only [List.mem_singleton] at h; subst h; exact h1.of_mem mS)⟩
theorem l17_sane  (hS : Sat W w (H :: F)) :
  Ro Tryz.prog 12 #[] (.bool true) W w (H :: F) := by
 refine callsA 85 Tryz.func12 rfl ?_
 refine sR <| pu1 <| nT <| sR ?_
 refine sBS hS #[I 2, I 0] Tryz.runUnderlying22 Tryz.sizeOf3 Tryz.zeroValue3 ?_
 intro _ _ q0
 refine cX Tryz.call34 (l17_job (RdT.flat (RdT.blk (enc := encI) (sz := 1) (xs := [2, 0]) (fun _ => (by rfl)) 2 0 rfl rfl rfl om)) om (Sat.flat q0)) ?_
 rintro _ _ ⟨e0, _, _, _, rfl, r0, s0, t0, u0, v0, ⟨w0, _, _, _⟩, x0⟩
 have y0 := Sat.unflat3 x0
 refine cX Tryz.call17 (p17_order e0 ⟨(RdT.flat (t0.up 2 (by rfl))), (fun z hz => (u0 z hz).of_mem (mem_flat1 2 (by rfl))), (RdT.flat (r0.rdAt 0 (by rfl))), (fun z hz => (s0 z hz).of_mem (mem_flat1 1 (by rfl))), (RdT.flat (v0.up 2 (by rfl)))⟩ (od) (Sat.flat y0)) ?_
 rintro _ _ ⟨_, l0, _, _, rfl, c0, z0⟩
 have a1 := Sat.unflat1 z0
 have hn_az_23 := c0.len; have hl_az_23 := c0.le
 have hval0 : ordV e0.v = ([2, 1], 0) := by rw [w0]; exact ord20
 have hl0 : l0 = 2 := by have h := hn_az_23; rw [hval0] at h; exact h.symm
 refine pu5 <| nT <| sR ?_
 refine sBS a1 #[I 2, I 1] Tryz.runUnderlying22 Tryz.sizeOf3 Tryz.zeroValue3 ?_
 intro _ _ b1
 refine cX Tryz.call34 (l17_job (RdT.flat (RdT.blk (enc := encI) (sz := 1) (xs := [2, 1]) (fun _ => (by rfl)) 2 0 rfl rfl rfl om)) om (Sat.flat b1)) ?_
 rintro _ _ ⟨f0, _, _, _, rfl, c1, d1, e1, f1, g1, ⟨h1, _, _, _⟩, i1⟩
 have j1 := Sat.unflat3 i1
 refine cX Tryz.call17 (p17_order f0 ⟨(RdT.flat (e1.up 2 (by rfl))), (fun z hz => (f1 z hz).of_mem (mem_flat1 2 (by rfl))), (RdT.flat (c1.rdAt 0 (by rfl))), (fun z hz => (d1 z hz).of_mem (mem_flat1 1 (by rfl))), (RdT.flat (g1.up 2 (by rfl)))⟩ (od) (Sat.flat j1)) ?_
 rintro _ _ ⟨_, k1, _, _, rfl, m0, l1⟩
 have m1 := Sat.unflat1 l1
 have hn_az_50 := m0.len; have hl_az_50 := m0.le
 have hval1 : ordV f0.v = ([], 7) := by rw [h1]; exact ord21
 have hl1 : k1 = 0 := by have h := hn_az_50; rw [hval1] at h; exact h.symm
 refine pu5 <| nT <| sR ?_
 refine sBS m1 #[I 2, I 1] Tryz.runUnderlying22 Tryz.sizeOf3 Tryz.zeroValue3 ?_
 intro _ _ n1
 refine cX Tryz.call34 (l17_job (RdT.flat (RdT.blk (enc := encI) (sz := 1) (xs := [2, 1]) (fun _ => (by rfl)) 2 0 rfl rfl rfl om)) om (Sat.flat n1)) ?_
 rintro _ _ ⟨n0, _, _, _, rfl, o1, p1, q1, r1, s1, ⟨t1, _, _, _⟩, u1⟩
 have v1 := Sat.unflat3 u1
 refine cX Tryz.call18 (p17_cycle n0 ⟨(RdT.flat (q1.up 2 (by rfl))), (fun z hz => (r1 z hz).of_mem (mem_flat1 2 (by rfl))), (RdT.flat (o1.rdAt 0 (by rfl))), (fun z hz => (p1 z hz).of_mem (mem_flat1 1 (by rfl))), (RdT.flat (s1.up 2 (by rfl)))⟩ (od) (Sat.flat v1)) ?_
 rintro _ _ ⟨_, o0, _, _, rfl, g0, w1⟩
 have x1 := Sat.unflat1 w1
 have hn_az_77 := g0.len; have hl_az_77 := g0.le
 have hval2 : cycV n0.v = [1, 2] := by rw [t1]; exact cycV21
 have hl2 : o0 = 2 := by have h := hn_az_77; rw [hval2] at h; exact h.symm
 refine pu1 <| nT <| sR ?_
 refine sBS x1 #[I 0] Tryz.runUnderlying22 Tryz.sizeOf3 Tryz.zeroValue3 ?_
 intro _ _ y1
 refine cX Tryz.call34 (l17_job (RdT.flat (RdT.blk (enc := encI) (sz := 1) (xs := [0]) (fun _ => (by rfl)) 1 0 rfl rfl rfl om)) om (Sat.flat y1)) ?_
 rintro _ _ ⟨d0, _, _, _, rfl, z1, a2, b2, c2, d2, ⟨e2, _, _, _⟩, f2⟩
 have g2 := Sat.unflat3 f2
 refine cX Tryz.call8 (p17_shapes d0 ⟨(RdT.flat (b2.up 2 (by rfl))), (fun z hz => (c2 z hz).of_mem (mem_flat1 2 (by rfl))), (RdT.flat (z1.rdAt 0 (by rfl))), (fun z hz => (a2 z hz).of_mem (mem_flat1 1 (by rfl))), (RdT.flat (d2.up 2 (by rfl)))⟩ (od) (Sat.flat g2)) ?_
 rintro _ _ ⟨_, p0, _, _, rfl, h0, h2⟩
 have b0 := Sat.unflat1 h2
 have hn_az_104 := h0.len; have hl_az_104 := h0.le
 have hval3 : shpV d0.v = ([⟨1, 1, 9⟩, ⟨1, 1, 255⟩], 0, 0) := by rw [e2]; exact shp0
 have hl3 : p0 = 2 := by have h := hn_az_104; rw [hval3] at h; exact h.symm
 refine pu7 <| nT <| sR <| pu3 ?_
 have i2 : ((ordV e0.v).2 : Int) = 0 := by rw [hval0]
 refine sFix 33 _ true (beq_iff_eq.2 i2) ?_
 refine pu5 ?_
 have j2 : (((l0 : Nat) : Int) : Int) = 2 := by omega
 refine sFix 38 _ true (beq_iff_eq.2 j2) ?_
 refine pu1 <| gY ?_
 refine sIdxO c0 0 0 Tryz.runUnderlying22 Tryz.sizeOf3 ?_
 intro i0 _ _ k2 l2 _
 have hv_x_111 : i0 = 2 := by have h := k2; rw [hval0] at h; exact (Option.some.inj h).symm
 refine gY ?_
 refine sLp b0 (l2.up 15 rfl) 0 (I i0) (Tryz.isAgg3 _) ?_
 refine pu3 ?_
 have m2 : (i0 : Int) = 2 := by omega
 refine sFix 44 _ true (beq_iff_eq.2 m2) ?_
 refine pu1 <| gY ?_
 refine sIdxO c0 1 1 Tryz.runUnderlying22 Tryz.sizeOf3 ?_
 intro j0 _ _ n2 o2 _
 have hv_x_118 : j0 = 1 := by have h := n2; rw [hval0] at h; exact (Option.some.inj h).symm
 refine gY ?_
 refine sLp b0 (o2.up 15 rfl) 0 (I j0) (Tryz.isAgg3 _) ?_
 refine pu3 ?_
 have p2 : (j0 : Int) = 1 := by omega
 refine sFix 50 _ true (beq_iff_eq.2 p2) ?_
 refine pu4 ?_
 have q2 : ((ordV f0.v).2 : Int) = 7 := by rw [hval1]
 refine sFix 54 _ true (beq_iff_eq.2 q2) ?_
 refine pu5 ?_
 have r2 : (((o0 : Nat) : Int) : Int) = 2 := by omega
 refine sFix 59 _ true (beq_iff_eq.2 r2) ?_
 refine pu1 <| gY ?_
 refine sIdxO g0 0 0 Tryz.runUnderlying22 Tryz.sizeOf3 ?_
 intro k0 _ _ s2 t2 _
 have hv_x_127 : k0 = 1 := by have h := s2; rw [hval2] at h; exact (Option.some.inj h).symm
 refine gY ?_
 refine sLp b0 (t2.up 5 rfl) 0 (I k0) (Tryz.isAgg3 _) ?_
 refine pu3 ?_
 have u2 : (k0 : Int) = 1 := by omega
 refine sFix 65 _ true (beq_iff_eq.2 u2) ?_
 refine pu4 ?_
 have v2 : ((shpV d0.v).2.2 : Int) = 0 := by rw [hval3]
 refine sFix 69 _ true (beq_iff_eq.2 v2) ?_
 refine pu4 ?_
 have w2 : ((shpV d0.v).2.1 : Int) = 0 := by rw [hval3]
 refine sFix 73 _ true (beq_iff_eq.2 w2) ?_
 refine pu5 ?_
 have x2 : (((p0 : Nat) : Int) : Int) = 2 := by omega
 refine sFix 78 _ true (beq_iff_eq.2 x2) ?_
 refine pu1 <| gY ?_
 refine sIdxO h0 1 1 Tryz.runUnderlying30 Tryz.sizeOf35 ?_
 intro a0 _ _ y2 z2 _
 have hv_x_137 : a0 = (⟨1, 1, 255⟩ : Shape) := by have h := y2; rw [hval3] at h; exact (Option.some.inj h).symm
 refine gY ?_
 refine sLpA b0 (z2.up 0 rfl) 0 [I a0.w, I a0.h, I a0.max_] (Tryz.isAgg35 _) (Tryz.sizeOf35 _) ?_
 refine pu1 <| gY ?_
 refine stepY (.bool (((a0.w : Int) == 1) && ((a0.h : Int) == 1) && ((a0.max_ : Int) == 255))) rfl rfl (Y_eqS rfl kr kr (eqve35 _ a0.w a0.h a0.max_ 1 1 255)) ?_
 refine pu2 <| nT <| retE <| retT [.bool (((a0.w : Int) == 1) && ((a0.h : Int) == 1) && ((a0.max_ : Int) == 255))] ?_
 have a3 := (b0.drops [0, 0, 0, 0, 0, 0, 0, 0, 0, 0, 0, 0, 0, 0, 0, 0, 0, 0, 0, 0])
 exact ⟨by rw [hv_x_137]; rfl, a3⟩
end Go.Proofs.YtbofcpnngniopaaGreat

namespace Go.Proofs.YtbofcpnngniopaaGreat
open Go Go.E
set_option linter.unusedVariables false
set_option linter.unusedSimpArgs false
set_option linter.unnecessarySimpa false
set_option maxRecDepth 100000
set_option maxHeartbeats 2000000
variable {W w : World} {H : Chunk} {F : List Chunk}
/-! ### what cycles are -/
theorem cover_le : ∀ {n : Nat} {l : List Nat}, (∀ k, k < n → k ∈ l) → n ≤ l.length
  | 0, _, _ => Nat.zero_le _
  | n + 1, l, h => by
    have h1 := h n (by omega)
    have h2 := cover_le (n := n) (l := l.erase n) (fun k hk => (List.mem_erase_of_ne (by omega)).2 (h k (by omega)))
    rw [List.length_erase_of_mem h1] at h2
    have : 0 < l.length := List.length_pos_of_mem h1
    omega
theorem closed_walk {e : Nat → Nat → Bool} {P : Nat → Prop} {N a0 : Nat} (hU : ∀ a, P a → ∃ b, e a b = true ∧ P b) (hb : ∀ a, P a → a < N) (h0 : P a0) : ∃ L a, walkG e L a a := by
 classical
 let f : Nat → Nat := fun a => if h : P a then Classical.choose (hU a h) else 0
 have hf : ∀ a, P a → e a (f a) = true ∧ P (f a) := by
  intro a h
  have := Classical.choose_spec (hU a h)
  simp only [f, h, dif_pos]
  exact this
 let s : Nat → Nat := fun k => Nat.rec a0 (fun _ x => f x) k
 have hs : ∀ k, P (s k) := by
  intro k
  induction k with
  | zero => exact h0
  | succ k ih => exact (hf _ ih).2
 have hw : ∀ d i, walkG e d (s i) (s (i + d + 1)) := by
  intro d
  induction d with
  | zero => intro i; exact (hf _ (hs i)).1
  | succ d ih =>
   intro i
   refine ⟨s (i + 1), (hf _ (hs i)).1, ?_⟩
   rw [show i + (d + 1) + 1 = (i + 1) + d + 1 by omega]
   exact ih (i + 1)
 by_cases hc : ∃ i j, i < j ∧ s i = s j
 ·obtain ⟨i, j, hij, he⟩ := hc
  refine ⟨j - i - 1, s i, ?_⟩
  have := hw (j - i - 1) i
  rw [show i + (j - i - 1) + 1 = j by omega, ← he] at this
  exact this
 ·exfalso
  have hn : ((List.range (N + 1)).map s).Nodup := by
   rw [List.nodup_iff_pairwise_ne, List.pairwise_map]
   exact List.pairwise_lt_range.imp (fun h he => hc ⟨_, _, h, he⟩)
  have := nodup_le (n := N) hn (fun x hx => by
   obtain ⟨y, _, rfl⟩ := List.mem_map.1 hx
   exact hb _ (hs y)) rfl
  rw [List.length_map, List.length_range] at this
  omega
theorem list_stuck {ni : Int} (hni : 0 ≤ ni) {D : List (List Int)} : ∀ (k : Nat) {out : List Int}, OutG ni D out → D.length + 1 ≤ out.length + k → pickG ni (listG ni D k out) D 0 < 0
  | 0, out, h, hl => by have := h.len; omega
  | k + 1, out, h, hl => by
    unfold listG
    by_cases c : pickG ni out D 0 < 0
    · rw [if_pos c]; exact c
    · rw [if_neg c]
      rcases pick0 hni (out := out) (D := D) with h1 | ⟨m, h1, h2, _⟩
      · exact absurd h1.1 c
      · rw [h1]
        exact list_stuck hni k (h.add h2) (by rw [List.length_append, List.length_singleton]; omega)
/-- Where not every stage could be listed there is a cycle. -/
theorem stuck_cyc {ni : Nat} {D : List (List Int)} {out : List Int} (hR : RngG ni D) (hp : pickG ni out D 0 < 0) (hl : out.length < D.length) : ∃ L a, walkG (edgG ni D) L a a := by
 have hno : ∀ k, ¬ canG ni D out k := by
  rcases pick0 (ni := ni) om (out := out) (D := D) with h | ⟨k, h, _⟩
  ·exact h.2
  ·omega
 obtain ⟨k0, hk0, hk1⟩ : ∃ k, k < D.length ∧ ¬ ((ni : Int) + ((k : Nat) : Int)) ∈ out := by
  apply Classical.byContradiction
  intro hc
  have := cover_le (n := D.length) (l := out.map fun x => (x - ((ni : Nat) : Int)).toNat) (fun k hk => by
   refine List.mem_map.2 ⟨((ni : Nat) : Int) + ((k : Nat) : Int), Classical.byContradiction fun h => hc ⟨k, hk, h⟩, om⟩)
  rw [List.length_map] at this
  omega
 refine closed_walk (P := fun a => ni ≤ a ∧ a < ni + D.length ∧ ¬ ((a : Nat) : Int) ∈ out) (N := ni + D.length) (a0 := ni + k0) ?_ (fun a h => h.2.1) ⟨om, om, by rw [show (((ni + k0 : Nat)) : Int) = ((ni : Nat) : Int) + ((k0 : Nat) : Int) by omega]; exact hk1⟩
 rintro a ⟨h1, h2, h3⟩
 have hs : D[a - ni]? = some (D[a - ni]'om) := List.getElem?_eq_getElem om
 have hc : ∃ x ∈ D[a - ni]'om, ¬ (x < ((ni : Nat) : Int) ∨ x ∈ out) := by
  apply Classical.byContradiction
  intro h
  refine hno (a - ni) ⟨_, hs, ?_, fun x hx => Classical.byContradiction fun hn => h ⟨x, hx, hn⟩⟩
  rw [show ((ni : Nat) : Int) + ((a - ni : Nat) : Int) = ((a : Nat) : Int) by omega]; exact h3
 obtain ⟨x, hx, hn⟩ := hc
 have hr := hR _ (List.mem_of_getElem? hs) x hx
 have hx1 : ¬ x < ((ni : Nat) : Int) := fun h => hn (.inl h)
 have hx2 : ¬ x ∈ out := fun h => hn (.inr h)
 refine ⟨x.toNat, edg_iff.2 ⟨h1, _, hs, by rw [show ((x.toNat : Nat) : Int) = x by omega]; exact hx⟩, om, om, by rw [show ((x.toNat : Nat) : Int) = x by omega]; exact hx2⟩
theorem cyc_ex {ni : Nat} {D : List (List Int)} (hR : RngG ni D) (hN : ni + D.length ≤ 16) (h : ∃ L a, walkG (edgG ni D) L a a) : ∃ rt bs, minV (fwG (edgG ni D) 16) 16 = (rt, bs) ∧ 0 ≤ rt := by
 obtain ⟨L, a, hw⟩ := h
 obtain ⟨M, _, hM⟩ := lst_ex hw
 have h1 := lst_lt edg_src hM
 have h2 := lst_fw (edg_dst hR hN) hM om
 obtain ⟨y, hy⟩ := walk_out hw
 have h3 := edg_src a y hy
 rcases minV_spec (f := fwG (edgG ni D) 16) 16 with ⟨_, _, h4⟩ | ⟨i, _, h5, _⟩
 ·have := h4 a om; omega
 ·cases hm : minV (fwG (edgG ni D) 16) 16 with
  | mk rt bs => rw [hm] at h5; exact ⟨rt, bs, rfl, by simp only at h5; omega⟩
attribute [local irreducible] fwG minV
/-- A way of k steps, as a list of its nodes. -/
def WO (f : Nat → Int) (S : Int → List Int) : Nat → Int → List Int → Prop
  | 0, _, l => l = []
  | k + 1, a, l => ∃ n t, l = n :: t ∧ (n ∈ S a ∧ 0 ≤ n ∧ f n.toNat = ((k : Nat) : Int) + 1) ∧ WO f S k n t
theorem src_rng {ni : Nat} {D : List (List Int)} (hR : RngG ni D) {a x : Int} (h : x ∈ srcG ni D a) : 0 ≤ x := by
  unfold srcG at h
  rw [List.getD_eq_getElem?_getD] at h
  cases hs : D[(a - ((ni : Nat) : Int)).toNat]? with
  | none => rw [hs] at h; cases h
  | some s => rw [hs] at h; exact (hR s (List.mem_of_getElem? hs) x h).1
theorem way_WO {ni rt : Nat} {D : List (List Int)} (hR : RngG ni D) (hN : ni + D.length ≤ 16) : ∀ (k : Nat) (a : Int), 0 ≤ a → fwG (edgG ni D) 16 a.toNat rt = ((k : Nat) : Int) + 1 → k + 1 < 1000 →
  WO (fun x => fwG (edgG ni D) 16 x rt) (srcG ni D) k a (wayF (fun x => fwG (edgG ni D) 16 x rt) (srcG ni D) k a)
 | 0, a, _, _, _ => by unfold WO wayF; rfl
 | k + 1, a, h0, hf, hk => by
  obtain ⟨c, hc1, hc2, hc3⟩ := fw_next (lf := ((k : Nat) : Int) + 1) hR hN (by rw [hf]; omega) om om
  rw [show ((a.toNat : Nat) : Int) = a by omega] at hc1
  unfold wayF
  cases hn : nxtF (fun x => fwG (edgG ni D) 16 x rt) (((k : Nat) : Int) + 1) (srcG ni D a) with
  | none => exact absurd hc3 (nxt_none hn c hc1)
  | some n =>
   have hx := nxt_some hn
   exact ⟨n, _, rfl, ⟨hx.1, src_rng hR hx.1, hx.2.1⟩, way_WO hR hN k n (src_rng hR hx.1) hx.2.1 om⟩
theorem src_edg {ni : Nat} {D : List (List Int)} {a y : Int} (h0 : 0 ≤ a) (hy : 0 ≤ y) (ha : ((ni : Nat) : Int) ≤ a) (h : y ∈ srcG ni D a) : edgG ni D a.toNat y.toNat = true := by
  unfold srcG at h
  rw [List.getD_eq_getElem?_getD] at h
  cases hs : D[(a - ((ni : Nat) : Int)).toNat]? with
  | none => rw [hs] at h; cases h
  | some s =>
    rw [hs] at h
    exact edg_iff.2 ⟨by omega, s, by rw [show a.toNat - ni = (a - ((ni : Nat) : Int)).toNat by omega]; exact hs, by rw [show ((y.toNat : Nat) : Int) = y by omega]; exact h⟩
theorem edg_srcG {ni a b : Nat} {D : List (List Int)} (h : edgG ni D a b = true) : ((b : Nat) : Int) ∈ srcG ni D ((a : Nat) : Int) := by
  obtain ⟨h1, s, h2, h3⟩ := edg_iff.1 h
  unfold srcG
  rw [show (((a : Nat) : Int) - ((ni : Nat) : Int)).toNat = a - ni by omega, List.getD_eq_getElem?_getD, h2]; exact h3
theorem WO.at {ni rt : Nat} {D : List (List Int)} : ∀ {k : Nat} {a : Int} {l : List Int}, WO (fun x => fwG (edgG ni D) 16 x rt) (srcG ni D) k a l → 0 ≤ a → fwG (edgG ni D) 16 a.toNat rt = ((k : Nat) : Int) + 1 → k + 1 < 1000 →
  (a :: l).length = k + 1 ∧ ∀ i x, (a :: l)[i]? = some x → 0 ≤ x ∧ fwG (edgG ni D) 16 x.toNat rt + ((i : Nat) : Int) = ((k : Nat) : Int) + 1 ∧ (∀ y, (a :: l)[i + 1]? = some y → y ∈ srcG ni D x) ∧ ((i = 0 ∧ x = a) ∨ ∃ j, i = j + 1 ∧ walkG (edgG ni D) j a.toNat x.toNat)
 | 0, a, l, h, h0, hf, _ => by
  have h : l = [] := h
  subst h
  refine ⟨rfl, fun i x hx => ?_⟩
  cases i with
  | zero =>
   obtain rfl : a = x := by simpa using hx
   exact ⟨h0, om, fun y hy => by simp at hy, .inl ⟨rfl, rfl⟩⟩
  | succ i => simp at hx
 | k + 1, a, l, h, h0, hf, hk => by
  obtain ⟨n, t, rfl, ⟨h1, h2, h3⟩, h4⟩ := h
  have h3 : fwG (edgG ni D) 16 n.toNat rt = ((k : Nat) : Int) + 1 := h3
  obtain ⟨hl, hr⟩ := WO.at h4 h2 h3 om
  have hst := fw_stage (ni := ni) (D := D) (N := 16) (a := a.toNat) (b := rt) om
  have he := src_edg h0 h2 om h1
  refine ⟨by rw [List.length_cons, hl], fun i x hx => ?_⟩
  cases i with
  | zero =>
   obtain rfl : a = x := by simpa using hx
   exact ⟨h0, om, fun y hy => by
    have e : n = y := by simpa using hy
    rw [← e]; exact h1, .inl ⟨rfl, rfl⟩⟩
  | succ i =>
   obtain ⟨q1, q2, q3, q4⟩ := hr i x (by simpa using hx)
   refine ⟨q1, om, fun y hy => q3 y (by simpa using hy), .inr ⟨i, rfl, ?_⟩⟩
   rcases q4 with ⟨rfl, rfl⟩ | ⟨j, rfl, q5⟩
   ·exact he
   ·exact ⟨n.toNat, he, q5⟩
/-- What Cycle names is a cycle that begins with its least stage. -/
theorem cyc_at {ni : Nat} {D : List (List Int)} {rt bs : Int} (hR : RngG ni D) (hN : ni + D.length ≤ 16) (hm : minV (fwG (edgG ni D) 16) 16 = (rt, bs)) (hrt : 0 ≤ rt) :
  0 < (cycG ni D).length ∧ (cycG ni D)[0]? = some rt ∧ ∀ i x, (cycG ni D)[i]? = some x → (((ni : Nat) : Int) ≤ x ∧ x < ((ni : Nat) : Int) + ((D.length : Nat) : Int)) ∧ rt ≤ x ∧ (∀ y, (cycG ni D)[i + 1]? = some y → y ∈ srcG ni D x) ∧ (i + 1 = (cycG ni D).length → rt ∈ srcG ni D x) := by
 have hs := minV_spec (f := fwG (edgG ni D) 16) 16
 rw [hm] at hs
 rcases hs with ⟨h1, _⟩ | ⟨r, h1, h2, h3, h4, h5, h6⟩
 ·simp only at h1; omega
 ·simp only at h2 h3
  have hp := fw_pos (e := edgG ni D) (k := 16) (a := r) (b := r)
  have hrn : rt.toNat = r := by omega
  have hc : cycG ni D = rt :: wayF (fun x => fwG (edgG ni D) 16 x r) (srcG ni D) (bs - 1).toNat rt := by
   unfold cycG; rw [hm]; simp only; rw [if_neg om, hrn]
  have hf : fwG (edgG ni D) 16 rt.toNat r = (((bs - 1).toNat : Nat) : Int) + 1 := by rw [hrn]; omega
  have hw := way_WO hR hN (bs - 1).toNat rt hrt hf om
  obtain ⟨hl, ha⟩ := hw.at hrt hf om
  rw [← hc] at hl ha
  refine ⟨om, by rw [hc]; rfl, fun i x hx => ?_⟩
  obtain ⟨q1, q2, q3, q4⟩ := ha i x hx
  have hi := (List.getElem?_eq_some_iff.1 hx).1
  have hst := fw_stage (ni := ni) (D := D) (N := 16) (a := x.toNat) (b := r) om
  refine ⟨om, ?_, q3, fun he => ?_⟩
  ·rcases q4 with ⟨_, rfl⟩ | ⟨j, hj, q5⟩
   ·exact Int.le_refl _
   ·apply Classical.byContradiction
    intro hlt
    have w1 := fw_sound (e := edgG ni D) (k := 16) (a := x.toNat) (b := r) om
    rw [hrn] at q5
    have w2 := walk_app q5 w1
    have h7 := fw_compl (N := 16) (edg_dst hR hN) w2
    have h8 := h6 x.toNat om
    have h9 := fw_pos (e := edgG ni D) (k := 16) (a := x.toNat) (b := r)
    omega
  ·have w1 := fw_sound (e := edgG ni D) (k := 16) (a := x.toNat) (b := r) om
   rw [show (fwG (edgG ni D) 16 x.toNat r).toNat - 1 = 0 by omega] at w1
   have := edg_srcG (a := x.toNat) (b := r) w1
   rw [show ((x.toNat : Nat) : Int) = x by omega, show ((r : Nat) : Int) = rt by omega] at this
   exact this
theorem tmod_wrap {i n : Nat} (h : i < n) : (i + 1 = n ∧ (((i : Nat) : Int) + 1).tmod ((n : Nat) : Int) = 0) ∨ (i + 1 < n ∧ (((i : Nat) : Int) + 1).tmod ((n : Nat) : Int) = ((i : Nat) : Int) + 1) := by
  by_cases c : i + 1 = n
  · subst c
    exact .inl ⟨rfl, by rw [show ((i + 1 : Nat) : Int) = ((i : Nat) : Int) + 1 by omega]; exact Int.tmod_self⟩
  · exact .inr ⟨by omega, Int.tmod_eq_of_lt (by omega) (by omega)⟩
theorem fd_yes {l : List Int} {k : Nat} {y : Int} (h : y ∈ l.take k) : (true = true) ↔ y ∈ l.take (k + 1) :=
  ⟨fun _ => (List.take_subset_take_left l (Nat.le_succ k)) h, fun _ => rfl⟩
theorem fd_no {l : List Int} {k : Nat} {x y : Int} (hx : l[k]? = some x) (h : ¬ y ∈ l.take k) : (x == y) = true ↔ y ∈ l.take (k + 1) := by
  rw [take_succ_at hx, List.mem_append, List.mem_singleton, beq_iff_eq]
  exact ⟨fun e => .inr e.symm, fun e => (e.resolve_left h).symm⟩
/-! ### jobs of copies with freely chosen sources -/
def LK (n : Nat) (S : List StageV) : Prop := S.length = n ∧ ∀ s ∈ S, s.kind = 6 ∧ (0 ≤ s.a ∧ s.a ≤ ((n : Nat) : Int)) ∧ (s.b = -1 ∨ (0 ≤ s.b ∧ s.b ≤ ((n : Nat) : Int)))
theorem lk_safe {n : Nat} {xs : List Int} (hl : xs.length = n) (h : ∀ x ∈ xs, 0 ≤ x ∧ x ≤ ((n : Nat) : Int)) : LK n (xs.map safe) := by
  refine ⟨by rw [List.length_map]; exact hl, fun s hs => ?_⟩
  obtain ⟨x, hx, rfl⟩ := List.mem_map.1 hs
  exact ⟨rfl, h x hx, .inl rfl⟩
theorem lk_set {n : Nat} {ss : List Stage} {i : Nat} {x y : Stage} (h : LK n (ss.map Stage.v)) (hx : ss[i]? = some x) (e1 : y.v.kind = x.v.kind) (e2 : y.v.a = x.v.a) (e3 : 0 ≤ y.v.b ∧ y.v.b ≤ ((n : Nat) : Int)) : LK n ((ss.set i y).map Stage.v) := by
  refine ⟨by have := h.1; simpa using this, fun s hs => ?_⟩
  obtain ⟨z, hz, rfl⟩ := List.mem_map.1 hs
  rcases List.mem_or_eq_of_mem_set hz with h1 | h1
  · exact h.2 _ (List.mem_map_of_mem h1)
  · have := h.2 _ (List.mem_map_of_mem (List.mem_of_getElem? hx))
    subst h1
    rw [e1, e2]
    exact ⟨this.1, this.2.1, .inr e3⟩
theorem job_v {q : Job} {xs : List Int} (hv : q.v = jobL xs) {t : Sl Stage} : Job.v ⟨q.inputs, t, q.outputs, q.priority⟩ = jobOf [pl0] (t.l.map Stage.v) 0 := by
  have h1 : q.inputs.l.map Plane.v = [pl0] := congrArg JobV.inputs hv
  have h2 : q.outputs.l = [0] := congrArg JobV.outputs hv
  have h3 : q.priority = 0 := congrArg JobV.priority hv
  unfold Job.v jobOf
  rw [h1, h2, h3]
theorem lk_src {n : Nat} {S : List StageV} (h : LK n S) {s : StageV} (hs : s ∈ S) : ∀ x ∈ srcs s, 0 ≤ x ∧ x < ((n : Nat) : Int) + 1 := by
  intro x hx
  have h1 := h.2 s hs
  unfold srcs at hx
  split at hx
  · rename_i ht
    have ht : s.kind = 6 ∧ ¬ s.b = -1 := ht
    simp only [List.mem_cons, List.not_mem_nil, or_false] at hx
    rcases hx with rfl | rfl <;> omega
  · rw [List.mem_singleton.1 hx]; omega
theorem lk_chk {n : Nat} {S : List StageV} (h : LK n S) (h1 : 1 ≤ n) (h8 : n ≤ 8) : chkCode (jobOf [pl0] S 0) = 0 := by
  have hl := h.1
  unfold chkCode jobOf
  dsimp only
  rw [if_pos (by simp only [List.length_singleton]; omega), if_pos (by omega), if_pos, if_pos]
  · unfold inR; simp; omega
  · rw [List.all_eq_true]
    intro s hs
    unfold inR
    rw [List.all_eq_true]
    intro x hx
    have := lk_src h hs x hx
    simp only [List.length_singleton]
    exact decide_eq_true (by omega)
theorem ord_cases {j : JobV} (h : chkCode j = 0) : ((ordV j).2 = 0 ∧ (ordV j).1.length = j.stages.length ∧ cycV j = []) ∨ ((ordV j).2 = 7 ∧ (ordV j).1 = [] ∧ ∃ rt bs, minV (fwG (edgG j.inputs.length (j.stages.map srcs)) 16) 16 = (rt, bs) ∧ 0 ≤ rt ∧ cycV j = cycG j.inputs.length (j.stages.map srcs)) := by
 have hl := ord_list h
 have hc := go_list (ni := j.inputs.length) om (D := j.stages.map srcs) j.stages.length OutG.nil (by simp)
 have hb := chk_len h
 by_cases c : (listV j).length < j.stages.length
 ·right
  have e : ordV j = ([], 7) := by rw [hl.1, if_pos c]
  have hst := list_stuck (ni := j.inputs.length) om (D := j.stages.map srcs) (j.stages.length + 1) OutG.nil (by simp)
  have hR := chk_rng h
  obtain ⟨rt, bs, h1, h2⟩ := cyc_ex hR (by rw [List.length_map]; omega) (stuck_cyc hR hst (by rw [List.length_map]; exact c))
  exact ⟨by rw [e], by rw [e], rt, bs, h1, h2, by unfold cycV; rw [e, if_pos rfl]⟩
 ·left
  have e : ordV j = (listV j, 0) := by rw [hl.1, if_neg c]
  have hlen : (listV j).length = j.stages.length := by
   have := hl.2.len
   rw [List.length_map] at this; omega
  exact ⟨by rw [e], by rw [e]; exact hlen, by unfold cycV; rw [e, if_neg (by simp)]⟩
theorem l17_links {p : Nat} {a : Option Addr} {n k : Nat} {i : Int} {xs : List Int} (hR : RdT encI 1 [H] a n k xs) (hi : 0 ≤ i ∧ i ≤ n) (hS : Sat W w ([(p, .cells #[.slice a n k, I i] 59 (0, 0))] :: H :: F)) (m : Int) (hm : 1 ≤ m ∧ m ≤ 8) :
  Calls Tryz.prog 15 #[Pt p 0, I m] w fun e w' => ∃ (q : Job) (G : Chunk), e = .returned (.agg (encJob q).toArray) ∧ (Job.Ok [G] q) ∧ (∃ S, LK m.toNat S ∧ q.v = jobOf [pl0] S 0) ∧ (q.inputs.n = 1 ∧ q.stages.n = m.toNat ∧ q.outputs.n = 1) ∧ ∃ i' : Int, (0 ≤ i' ∧ i' ≤ n) ∧ Sat W w' ([(p, .cells #[.slice a n k, I i'] 59 (0, 0))] :: G :: H :: F) := by
 have hle := hR.le
 refine callsA 41 Tryz.func15 rfl ?_
 refine sR ?_
 refine sAlloc hS Tryz.zeroValue28 ?_
 intro c0 _ r0
 refine nT <| sR <| pu1 <| nT <| seqE <| sR <| pu1 <| nT <| blockE ?_
 have s0 := Sat.nilc r0
 have t0 := OwnT.nil (enc := encI) (E := 3) (sz := 1) fR
 refine loopA (γ := Nat × Int × (List Int) × (Option Addr) × Nat × Nat × Chunk) (fun ⟨i, iti, zs, azs, nzs, kzs, czs⟩ => [(0, Pt p 0), (1, I m), (4, Pt c0 0), (6, I ((i : Nat) : Int)), (5, .slice azs nzs kzs)]) (fun ⟨i, iti, zs, azs, nzs, kzs, czs⟩ w => Sat W w (czs :: [(c0, .cells #[.slice none 0 0, .slice none 0 0, .slice none 0 0, I 0] 28 (0, 0))] :: [(p, .cells #[.slice a n k, I iti] 59 (0, 0))] :: H :: F) ∧ i ≤ m.toNat ∧ (∀ x ∈ zs, 0 ≤ x ∧ x ≤ m) ∧ (zs.length = i) ∧ (0 ≤ iti ∧ iti ≤ n) ∧ OwnT encI 3 1 azs nzs kzs zs czs) (fun ⟨i, iti, zs, azs, nzs, kzs, czs⟩ => m.toNat - i) (0, i, [], none, 0, 0, []) ⟨s0, om, (fun x hx => by cases hx), by rfl, om, t0⟩ ?_
 rintro ⟨i, iti, zs, azs, nzs, kzs, czs⟩ ρ _ ⟨m0, hi, hzr, hzl, hiti, hOzs⟩
 have hn_zs := hOzs.len; have hl_zs := hOzs.le
 refine seqE <| sR <| pu3 <| nT ?_
 refine cD (((i : Nat) : Int) < m) (fun u0 => ?_) (fun u0 => ?_)
 ·refine kT <| seqE <| blockE <| regionE <| pu3 ?_
  refine sAdd m 1 ?_
  have v0 := (m0.pick 2 rfl)
  refine cX Tryz.call19 (tape_next (RdT.flat (hR.up 2 (by rfl))) om (Sat.flat1 v0) (m + 1) om) ?_
  rintro _ _ ⟨h0, rfl, _, w0, _, x0⟩
  have y0 := Sat.unflat1 x0
  refine sBS y0 #[I h0] Tryz.runUnderlying22 Tryz.sizeOf3 Tryz.zeroValue3 ?_
  intro _ _ z0
  refine sApp (nb := 8) z0 hOzs 2 (RdT.blk (enc := encI) (sz := 1) (xs := [h0]) fR 1 0 rfl rfl rfl om) Tryz.underlying22 (i := Tryz.t3) kr fR ?_
  intro a1 b1 c1 _ d1 e1
  refine pu1 <| nB <| regionE <| pu1 ?_
  refine sAdd ((i : Nat) : Int) 1 ?_
  refine pu1 <| nT ?_
  have f1 := ((e1.picks [3, 3]).dropAt 2 rfl)
  exact ⟨(i + 1, w0, (zs ++ [h0]), a1, (nzs + 1), b1, c1), od, alA, f1, om, (mem_snoc hzr om), by simp; omega, om, d1⟩
 refine exitE <| xB <| thenK_n <| sR <| pu1 ?_
 refine cX Tryz.call34 (l17_job (RdT.flat (hOzs.rdAt 0 (by rfl))) om (Sat.flat m0)) ?_
 rintro _ _ ⟨a0, g1, h1, d0, rfl, i1, j1, k1, l1, m1, ⟨n0, n1, _, o1⟩, p1⟩
 have q1 := Sat.unflat3 p1
 have hlk0 : LK m.toNat (a0.stages.l.map Stage.v) := by rw [show a0.stages.l.map Stage.v = zs.map safe from congrArg JobV.stages n0]; exact lk_safe om (fun x hx => by have := hzr x hx; omega)
 refine sAlloc q1 Tryz.zeroValue28 ?_
 intro f0 _ r1
 refine sT r1 0 0 (.agg (encJob a0).toArray) (encJob a0) (encJob a0).toArray Tryz.sizeOf28 ?_
 intro _ s1
 refine nT <| seqE <| sR <| pu1 <| nT <| blockE ?_
 have t1 := (s1.pick 1 rfl)
 have u1 := (t1.pick 2 rfl)
 refine loopA (γ := Nat × Int × (List Stage) × (Option Addr) × Nat × Nat × Chunk × Chunk) (fun ⟨i, iti, ss, ass, nss, kss, css, Gss⟩ => [(0, Pt p 0), (1, I m), (4, Pt c0 0), (7, Pt f0 0), (8, I ((i : Nat) : Int))]) (fun ⟨i, iti, ss, ass, nss, kss, css, Gss⟩ w => Sat W w (Gss :: css :: [(f0, .cells #[.slice a0.inputs.a a0.inputs.n a0.inputs.k, .slice ass nss kss, .slice a0.outputs.a a0.outputs.n a0.outputs.k, I a0.priority] 28 (0, 0))] :: d0 :: czs :: [(c0, .cells #[.slice none 0 0, .slice none 0 0, .slice none 0 0, I 0] 28 (0, 0))] :: [(p, .cells #[.slice a n k, I iti] 59 (0, 0))] :: H :: F) ∧ i ≤ m.toNat ∧ (LK m.toNat (ss.map Stage.v)) ∧ (0 ≤ iti ∧ iti ≤ n) ∧ OwnT encStage 44 18 ass nss kss ss css ∧ (∀ z ∈ ss, Stage.Ok [Gss] z)) (fun ⟨i, iti, ss, ass, nss, kss, css, Gss⟩ => m.toNat - i) (0, iti, a0.stages.l, a0.stages.a, a0.stages.n, a0.stages.k, g1, h1) ⟨u1, om, hlk0, om, i1, j1⟩ ?_
 rintro ⟨i, iti, ss, ass, nss, kss, css, Gss⟩ ρ _ ⟨i0, hi, hLK, hiti, hOss, hDss⟩
 have hn_ss := hOss.len; have hl_ss := hOss.le
 have hlk1 := hLK.1; rw [List.length_map] at hlk1
 refine seqE <| sR <| pu3 <| nT ?_
 refine cD (((i : Nat) : Int) < m) (fun v1 => ?_) (fun v1 => ?_)
 rotate_left
 ·refine exitE <| xB <| thenK_n <| sR ?_
  refine lA i0 2 0 4 (Tryz.isAgg28 _) (Tryz.sizeOf28 _) ?_
  refine sT i0 5 0 (.agg #[.slice a0.inputs.a a0.inputs.n a0.inputs.k, .slice ass nss kss, .slice a0.outputs.a a0.outputs.n a0.outputs.k, I a0.priority]) [.slice a0.inputs.a a0.inputs.n a0.inputs.k, .slice ass nss kss, .slice a0.outputs.a a0.outputs.n a0.outputs.k, I a0.priority] #[.slice a0.inputs.a a0.inputs.n a0.inputs.k, .slice ass nss kss, .slice a0.outputs.a a0.outputs.n a0.outputs.k, I a0.priority] Tryz.sizeOf28 ?_
  intro _ o0
  refine nT <| retE <| retN (vs := [.agg #[.slice a0.inputs.a a0.inputs.n a0.inputs.k, .slice ass nss kss, .slice a0.outputs.a a0.outputs.n a0.outputs.k, I a0.priority]]) rfl (.cons (.cell _ _ _ _ kr (lvA o0 5 0 [.slice a0.inputs.a a0.inputs.n a0.inputs.k, .slice ass nss kss, .slice a0.outputs.a a0.outputs.n a0.outputs.k, I a0.priority] (Tryz.isAgg28 _) (Tryz.sizeOf28 _) rfl rfl rfl)) .nil) ?_
  have w1 := ((o0.picks [1, 6]).drops [3, 4, 4])
  have x1 : Sat W _ ([(p, .cells #[.slice a n k, I iti] 59 (0, 0))] :: (css ++ Gss ++ d0) :: (H :: F)) := Sat.perm (show Sat W _ ([(p, .cells #[.slice a n k, I iti] 59 (0, 0))] :: css :: Gss :: d0 :: H :: F) from w1) (by simp [Value.cells])
  have hlk2 := hLK.1; rw [List.length_map] at hlk2; have hos := hOss.len
  exact ⟨(⟨a0.inputs, ⟨ass, nss, kss, ss⟩, a0.outputs, a0.priority⟩ : Job), (css ++ Gss ++ d0), rfl, ⟨(k1).of_mem mS, (fun z hz => (l1 z hz).of_mem mS), ((hOss.rdAt (cs := [css]) 0 rfl)).of_mem mS, (fun z hz => (hDss z hz).of_mem mS), (m1).of_mem mS⟩, ⟨ss.map Stage.v, hLK, job_v n0⟩, ⟨n1, (show nss = m.toNat by omega), o1⟩, _, om, x1⟩
 refine kT <| seqE <| blockE <| sR <| pu1 ?_
 have y1 := (i0.pick 6 rfl)
 refine cX Tryz.call19 (tape_next (RdT.flat (hR.up 6 (by rfl))) om (Sat.flat1 y1) 3 om) ?_
 rintro _ _ ⟨z1, rfl, _, a2, _, b2⟩
 have j0 := Sat.unflat1 b2
 refine pu1 <| nT ?_
 refine cE z1 0 (fun c2 => ?_) (fun c2 => ?_)
 rotate_left
 ·refine skipE <| blockK_n <| thenK_n <| regionE <| pu1 ?_
  refine sAdd ((i : Nat) : Int) 1 ?_
  refine pu1 <| nT ?_
  have d2 := (j0.picks [6, 6, 6, 6, 6, 6])
  exact ⟨(i + 1, a2, ss, ass, nss, kss, css, Gss), od, alA, d2, om, hLK, om, hOss, hDss⟩
 obtain ⟨b0, e2, f2, g0, g2, p0, h2⟩ := OwnT.elem hOss ((i : Nat) : Int)
 rw [Int.toNat_natCast] at g0 g2 p0
 refine drawE [6, 9] [(1, ⟨f0, 1, none⟩, .slice ass nss kss)] [(true, [0, 2, 3, 4]), (true, [5]), (true, [1]), (false, [6]), (true, [7]), (true, [8]), (false, [9])] rfl kr ⟨.inr (j0.cell 3 rfl rfl), trivial⟩ ?_
 have i2 := j0.drew
 refine wU [0, 2, 3, 4] ?_
 refine wAdd m 1 ?_
 refine wLd (.slice ass nss kss) 0 Tryz.isAgg26 ?_
 refine wO rfl ?_
 refine cX Tryz.call19 (tape_next (RdT.flat (hR.up 6 (by rfl))) om (Sat.flat1 i2) (m + 1) om) ?_
 rintro _ _ ⟨e0, rfl, _, k0, _, j2⟩
 have q0 := Sat.unflat1 j2
 refine nilO ⟨⟨.inr (q0.cell 3 rfl rfl), trivial⟩, ?_⟩
 refine wY (.pointer (some ⟨e2, f2 + i * 18, none⟩)) rfl (fun w _ => Y_idx (a := ass) (i := ((i : Nat) : Int)) (len := nss) (cap := kss) rfl Tryz.runUnderlying26 Tryz.sizeOf44 kr kr p0) ?_
 refine wU [8] ?_
 refine wO rfl ?_
 refine sStF q0 hOss h2 2 i 2 b0 (⟨b0.kind, b0.a, e0, b0.barrier, b0.edgePolicy, b0.edgeFill, b0.kW, b0.kH, b0.weights, b0.row, b0.col, b0.shift, b0.shift2, b0.x, b0.y, b0.bins, b0.ops, b0.max_⟩ : Stage) g0 (I e0) [I e0] Tryz.sizeOf3 ?_
 intro _ l0 k2 l2
 refine nilO ⟨dA, ?_⟩
 refine wN ?_
 refine blockK_n <| thenK_n <| regionE <| pu1 ?_
 refine sAdd ((i : Nat) : Int) 1 ?_
 refine pu1 <| nT ?_
 have m2 := (l2.picks [6, 6, 6, 6, 6, 6])
 have n2 := (Sat.perm (cs' := (Gss) :: (l0 :: [(f0, .cells #[.slice a0.inputs.a a0.inputs.n a0.inputs.k, .slice ass nss kss, .slice a0.outputs.a a0.outputs.n a0.outputs.k, I a0.priority] 28 (0, 0))] :: d0 :: czs :: [(c0, .cells #[.slice none 0 0, .slice none 0 0, .slice none 0 0, I 0] 28 (0, 0))] :: [(p, .cells #[.slice a n k, I k0] 59 (0, 0))] :: H :: F)) (show Sat W _ (Gss :: l0 :: [(f0, .cells #[.slice a0.inputs.a a0.inputs.n a0.inputs.k, .slice ass nss kss, .slice a0.outputs.a a0.outputs.n a0.outputs.k, I a0.priority] 28 (0, 0))] :: d0 :: czs :: [(c0, .cells #[.slice none 0 0, .slice none 0 0, .slice none 0 0, I 0] 28 (0, 0))] :: [(p, .cells #[.slice a n k, I k0] 59 (0, 0))] :: H :: F) from m2) (by simp))
 exact ⟨(i + 1, k0, (ss.set i (⟨b0.kind, b0.a, e0, b0.barrier, b0.edgePolicy, b0.edgeFill, b0.kW, b0.kH, b0.weights, b0.row, b0.col, b0.shift, b0.shift2, b0.x, b0.y, b0.bins, b0.ops, b0.max_⟩ : Stage)), ass, nss, kss, l0, (Gss)), od, alA, n2, om, (lk_set hLK g0 rfl rfl (show 0 ≤ e0 ∧ e0 ≤ ((m.toNat : Nat) : Int) from by omega)), om, k2, (mem_set (fun z hz => (hDss z hz).of_mem mS) (have h := hDss b0 (List.mem_of_getElem? g0); ⟨h.weights, h.row, h.col, h.x, h.xD, h.y, h.yD, h.ops⟩))⟩
end Go.Proofs.YtbofcpnngniopaaGreat
