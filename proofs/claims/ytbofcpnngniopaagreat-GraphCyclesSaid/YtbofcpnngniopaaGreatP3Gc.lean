import Derived.Test.YtbofcpnngniopaaGreatP3L17
namespace Go.Proofs.YtbofcpnngniopaaGreat
open Go Go.E
set_option linter.unusedVariables false
set_option linter.unusedSimpArgs false
set_option linter.unnecessarySimpa false
set_option maxRecDepth 100000
set_option maxHeartbeats 2000000
variable {W w : World} {H : Chunk} {F : List Chunk}
-- squeezed
theorem l17_cycles (W w : World) (H : Chunk) (F : List Chunk) (t : Option Addr) (nt kt : Nat) (xt : List Int) (size : Int) (ht : RdT encI 1 [H] t nt kt xt) (_hsize : -9223372036854775808 ≤ size ∧ size ≤ 9223372036854775807) (hS : Sat W w (H :: F)) :
  Calls Tryz.prog 5 #[.slice t nt kt, I size] w fun e w' => e = .returned (.bool true) ∧ Sat W w' (H :: F) := by
 have hlt := ht.le
 refine callsA 112 Tryz.func5 rfl ?_
 refine sR <| pu1 <| nT <| sR <| pu1 ?_
 refine cX Tryz.call6 (tape_new t nt kt hS) ?_
 rintro _ _ ⟨a1, rfl, i3⟩
 have l6 := ht.le
 refine pu1 <| nT <| sR <| pu2 ?_
 refine cX Tryz.call16 (mod_ok size 8 om om i3) ?_
 rintro _ _ ⟨w1, rfl, _, j3⟩
 refine sAdd 1 w1 ?_
 refine cX Tryz.call15 (l17_links (RdT.flat (ht.up 0 (by rfl))) om (Sat.flat1 j3) (1 + w1) om) ?_
 rintro _ _ ⟨a0, b1, rfl, d0, k3, l3, c1, _, m3⟩
 have n3 := Sat.unflat2 m3
 refine sAlloc n3 Tryz.zeroValue28 ?_
 intro p0 _ o3
 refine sT o3 0 0 (.agg (encJob a0).toArray) (encJob a0) (encJob a0).toArray Tryz.sizeOf28 ?_
 intro _ x1
 refine nilO ?_
 obtain ⟨S, hLK, hqv⟩ := k3; have hjn := l3
 have hch : chkCode a0.v = 0 := by rw [hqv]; exact lk_chk hLK om om
 have hb : a0.inputs.n ≤ 1000000 ∧ a0.stages.n ≤ 1000000 ∧ a0.outputs.n ≤ 1000000 := by omega
 have hcs := ord_cases hch; have hSl : a0.v.stages.length = a0.stages.n := by rw [hqv]; show S.length = _; rw [hLK.1]; omega
 have hqs : a0.stages.l.map Stage.v = S := congrArg JobV.stages hqv
 refine thenK_n <| sR ?_
 refine lA x1 0 0 4 (Tryz.isAgg28 _) (Tryz.sizeOf28 _) ?_
 refine cX Tryz.call17 (p17_order a0 ⟨(RdT.flat (d0.inputs.up 2 (by rfl))), (fun z hz => (d0.inputsD z hz).of_mem (mem_flat1 2 (by rfl))), (RdT.flat (d0.stages.up 2 (by rfl))), (fun z hz => (d0.stagesD z hz).of_mem (mem_flat1 2 (by rfl))), (RdT.flat (d0.outputs.up 2 (by rfl)))⟩ (od) (Sat.flat x1)) ?_
 rintro _ _ ⟨d1, v0, e1, f1, rfl, y1, p3⟩
 have z1 := Sat.unflat1 p3
 have hn_az_27 := y1.len; have hl_az_27 := y1.le
 refine pu5 <| nT <| sR ?_
 refine lA z1 1 0 4 (Tryz.isAgg28 _) (Tryz.sizeOf28 _) ?_
 refine cX Tryz.call18 (p17_cycle a0 ⟨(RdT.flat (d0.inputs.up 3 (by rfl))), (fun z hz => (d0.inputsD z hz).of_mem (mem_flat1 3 (by rfl))), (RdT.flat (d0.stages.up 3 (by rfl))), (fun z hz => (d0.stagesD z hz).of_mem (mem_flat1 3 (by rfl))), (RdT.flat (d0.outputs.up 3 (by rfl)))⟩ (od) (Sat.flat z1)) ?_
 rintro _ _ ⟨q0, e0, r0, g1, rfl, s0, q3⟩
 have a2 := Sat.unflat1 q3
 have hn_az_35 := s0.len; have hl_az_35 := s0.le
 refine pu1 <| nilO ?_
 have hcd : ((ordV a0.v).2 = 0 ∧ v0 = a0.stages.n ∧ e0 = 0) ∨ ((ordV a0.v).2 = 7 ∧ 0 < e0) := by
  have hz := hn_az_35; have ho := hn_az_27
  rcases hcs with ⟨h1, h2, h3⟩ | ⟨h1, h2, rt, bs, h3, h4, h5⟩
  ·left; rw [h3] at hz; exact ⟨h1, om, by simpa using hz.symm⟩
  ·right
   have h6 := (cyc_at (chk_rng hch) (by have h7 := chk_len hch; rw [List.length_map]; omega) h3 h4).1
   rw [← h5] at h6; exact ⟨h1, om⟩
 refine thenK_n <| seqE <| sR ?_
 refine lA a2 2 0 4 (Tryz.isAgg28 _) (Tryz.sizeOf28 _) ?_
 refine cR Tryz.call14 (l17_agrees a0 ⟨(RdT.flat (d0.inputs.up 4 (by rfl))), (fun z hz => (d0.inputsD z hz).of_mem (mem_flat1 4 (by rfl))), (RdT.flat (d0.stages.up 4 (by rfl))), (fun z hz => (d0.stagesD z hz).of_mem (mem_flat1 4 (by rfl))), (RdT.flat (d0.outputs.up 4 (by rfl)))⟩ (od) (Sat.flat a2)) ?_
 intro _ b2
 refine pu5 ?_
 refine sN 35 ((ordV a0.v).2) 0 (fun r3 => ?_) (fun r3 => ?_)
 ·refine pu12 <| nT ?_
  have s3 : (((ordV a0.v).2 : Int) == 7) = (decide ((((e0 : Nat) : Int) : Int) > 0)) := by rw [Bool.eq_iff_iff, beq_iff_eq, decide_eq_true_eq]; omega
  refine cF _ (congrArg Bool.not (show ((((ordV a0.v).2 : Int) == 7) == (decide ((((e0 : Nat) : Int) : Int) > 0))) = true from by simpa using s3)) ?_
  refine kT <| seqE <| sR <| pu1 <| nT <| blockE ?_
  refine loopA (γ := Nat) (fun i => [(6, Pt p0 0), (7, .slice d1 v0 e1), (8, I ((ordV a0.v).2)), (9, .slice q0 e0 r0), (10, I ((i : Nat) : Int))]) (fun i w => Sat W w (g1 :: f1 :: [(p0, .cells (encJob a0).toArray 28 (0, 0))] :: [(a1, .cells #[.slice t nt kt, I c1] 59 (0, 0))] :: b1 :: H :: F) ∧ i ≤ e0) (fun i => e0 - i) 0 ⟨b2, om⟩ ?_
  rintro i ρ _ ⟨f0, hi⟩
  refine seqE <| sR <| pu4 <| nT ?_
  refine cD (((i : Nat) : Int) < ((e0 : Nat) : Int)) (fun t3 => ?_) (fun t3 => ?_)
  rotate_left
  ·refine exitE <| xB <| thenK_n <| sR <| pu3 ?_
   refine sN 101 ((ordV a0.v).2) 0 (fun u3 => ?_) (fun u3 => ?_)
   rotate_left
   ·refine pu8 <| gY ?_
    refine cR Tryz.call12 (l17_sane  (Sat.flat f0)) ?_
    intro _ v3
    refine pu2 <| nT <| retE <| retT [.bool true] ?_
    have w3 := (v3.pick 5 rfl)
    have x3 := w3.dropAt 1 rfl
    have y3 := x3.dropAt 1 rfl
    have z3 := y3.dropAt 1 rfl
    have a4 := z3.dropAt 1 rfl
    have b4 := a4.dropAt 1 rfl
    exact ⟨rfl, b4⟩
   refine pu3 <| gY ?_
   refine sL f0 2 1 (.slice a0.stages.a a0.stages.n a0.stages.k) (Tryz.isAgg26 _) ?_
   refine pu4 ?_
   have c4 : (((v0 : Nat) : Int) : Int) = ((a0.stages.n : Nat) : Int) := by omega
   refine sFix 109 _ true (beq_iff_eq.2 c4) ?_
   refine gY ?_
   refine cR Tryz.call12 (l17_sane  (Sat.flat f0)) ?_
   intro _ d4
   refine pu2 <| nT <| retE <| retT [.bool true] ?_
   have e4 := (d4.pick 5 rfl)
   have f4 := e4.dropAt 1 rfl
   have g4 := f4.dropAt 1 rfl
   have i4 := g4.dropAt 1 rfl
   have j4 := i4.dropAt 1 rfl
   have k4 := j4.dropAt 1 rfl
   exact ⟨rfl, k4⟩
  refine kT <| seqE <| blockE <| seqE ?_
  obtain ⟨rt, hc0, hcx⟩ : ∃ rt, (cycV a0.v)[0]? = some rt ∧ ∀ i x, (cycV a0.v)[i]? = some x → (1 ≤ x ∧ x < 1 + ((a0.stages.n : Nat) : Int)) ∧ rt ≤ x ∧ (∀ y, (cycV a0.v)[i + 1]? = some y → y ∈ srcG 1 (S.map srcs) x) ∧ (i + 1 = e0 → rt ∈ srcG 1 (S.map srcs) x) := by
   have hz := hn_az_35
   rcases hcs with ⟨h1, h2, h3⟩ | ⟨h1, h2, rt, bs, h3, h4, h5⟩
   ·omega
   ·have h6 := cyc_at (chk_rng hch) (by have h7 := chk_len hch; rw [List.length_map]; omega) h3 h4
    rw [← h5] at h6; refine ⟨rt, h6.2.1, fun i x hx => ?_⟩
    have h8 := h6.2.2 i x hx
    rw [List.length_map, hz, hSl] at h8
    rw [hqv] at h8 ⊢
    exact h8
  obtain ⟨n0, c2, d2, o1, p1, e2, y6⟩ := OwnT.elem s0 ((i : Nat) : Int)
  rw [Int.toNat_natCast] at o1 p1 e2
  have hcx_x_48 := hcx i n0 o1
  obtain ⟨b0, h0, i0, t0, l0, l4⟩ := RdT.elem d0.stages (n0 - 1)
  refine drawE [9] [(1, ⟨p0, 1, none⟩, .slice a0.stages.a a0.stages.n a0.stages.k), (5, ⟨c2, d2 + i * 1, none⟩, I n0), (8, ⟨h0, i0 + 0, none⟩, I b0.kind), (8, ⟨h0, i0 + 1, none⟩, I b0.a), (8, ⟨h0, i0 + 2, none⟩, I b0.b), (8, ⟨h0, i0 + 3, none⟩, .bool b0.barrier), (8, ⟨h0, i0 + 4, none⟩, I b0.edgePolicy), (8, ⟨h0, i0 + 5, none⟩, I b0.edgeFill), (8, ⟨h0, i0 + 6, none⟩, I b0.kW), (8, ⟨h0, i0 + 7, none⟩, I b0.kH), (8, ⟨h0, i0 + 8, none⟩, .slice b0.weights.a b0.weights.n b0.weights.k), (8, ⟨h0, i0 + 9, none⟩, .slice b0.row.a b0.row.n b0.row.k), (8, ⟨h0, i0 + 10, none⟩, .slice b0.col.a b0.col.n b0.col.k), (8, ⟨h0, i0 + 11, none⟩, I b0.shift), (8, ⟨h0, i0 + 12, none⟩, I b0.shift2), (8, ⟨h0, i0 + 13, none⟩, .slice b0.x.a b0.x.n b0.x.k), (8, ⟨h0, i0 + 14, none⟩, .slice b0.y.a b0.y.n b0.y.k), (8, ⟨h0, i0 + 15, none⟩, I b0.bins), (8, ⟨h0, i0 + 16, none⟩, .slice b0.ops.a b0.ops.n b0.ops.k), (8, ⟨h0, i0 + 17, none⟩, I b0.max_)] [(true, [0, 2, 3]), (true, [4]), (true, [1]), (true, [5]), (true, [6]), (true, [7]), (true, [8]), (false, [9]), (true, [10])] rfl kr ⟨.inr (f0.cell 2 rfl rfl), .inr ((p1.up 0 rfl).cell f0 (k := 0) rfl), .inr ((l0.up 4 rfl).cell f0 (k := 0) rfl), .inr ((l0.up 4 rfl).cell f0 (k := 1) rfl), .inr ((l0.up 4 rfl).cell f0 (k := 2) rfl), .inr ((l0.up 4 rfl).cell f0 (k := 3) rfl), .inr ((l0.up 4 rfl).cell f0 (k := 4) rfl), .inr ((l0.up 4 rfl).cell f0 (k := 5) rfl), .inr ((l0.up 4 rfl).cell f0 (k := 6) rfl), .inr ((l0.up 4 rfl).cell f0 (k := 7) rfl), .inr ((l0.up 4 rfl).cell f0 (k := 8) rfl), .inr ((l0.up 4 rfl).cell f0 (k := 9) rfl), .inr ((l0.up 4 rfl).cell f0 (k := 10) rfl), .inr ((l0.up 4 rfl).cell f0 (k := 11) rfl), .inr ((l0.up 4 rfl).cell f0 (k := 12) rfl), .inr ((l0.up 4 rfl).cell f0 (k := 13) rfl), .inr ((l0.up 4 rfl).cell f0 (k := 14) rfl), .inr ((l0.up 4 rfl).cell f0 (k := 15) rfl), .inr ((l0.up 4 rfl).cell f0 (k := 16) rfl), .inr ((l0.up 4 rfl).cell f0 (k := 17) rfl), trivial⟩ ?_
  have m4 := f0.drew
  refine wU [0, 2, 3] ?_
  refine wY (.pointer (some ⟨c2, d2 + i * 1, none⟩)) rfl (fun w _ => Y_idx (a := q0) (i := ((i : Nat) : Int)) (len := e0) (cap := r0) rfl Tryz.runUnderlying22 Tryz.sizeOf3 kr kr e2) ?_
  refine wLd (.slice a0.stages.a a0.stages.n a0.stages.k) 0 Tryz.isAgg26 ?_
  refine wLd (I n0) 1 Tryz.isAgg3 ?_
  refine wSub n0 1 ?_
  refine wY (.pointer (some ⟨h0, i0, none⟩)) rfl (fun w _ => Y_idx (a := a0.stages.a) (i := (n0 - 1)) (len := a0.stages.n) (cap := a0.stages.k) rfl Tryz.runUnderlying26 Tryz.sizeOf44 kr kr l4) ?_
  refine wY (.agg (encStage b0).toArray) rfl (fun w hF => Y_loadF rfl (Tryz.isAgg44 w) (Tryz.sizeOf44 w) kr rfl ⟨hF 2 _ _ rfl, hF 3 _ _ rfl, hF 4 _ _ rfl, hF 5 _ _ rfl, hF 6 _ _ rfl, hF 7 _ _ rfl, hF 8 _ _ rfl, hF 9 _ _ rfl, hF 10 _ _ rfl, hF 11 _ _ rfl, hF 12 _ _ rfl, hF 13 _ _ rfl, hF 14 _ _ rfl, hF 15 _ _ rfl, hF 16 _ _ rfl, hF 17 _ _ rfl, hF 18 _ _ rfl, hF 19 _ _ rfl, trivial⟩) ?_
  refine wO rfl ?_
  refine cX Tryz.call10 (r15_sources b0 ⟨(RdT.flat ((d0.stagesD b0 (List.mem_of_getElem? t0)).weights.up 4 (by rfl))), (RdT.flat ((d0.stagesD b0 (List.mem_of_getElem? t0)).row.up 4 (by rfl))), (RdT.flat ((d0.stagesD b0 (List.mem_of_getElem? t0)).col.up 4 (by rfl))), (RdT.flat ((d0.stagesD b0 (List.mem_of_getElem? t0)).x.up 4 (by rfl))), (fun z hz => ((d0.stagesD b0 (List.mem_of_getElem? t0)).xD z hz).of_mem (mem_flat1 4 (by rfl))), (RdT.flat ((d0.stagesD b0 (List.mem_of_getElem? t0)).y.up 4 (by rfl))), (fun z hz => ((d0.stagesD b0 (List.mem_of_getElem? t0)).yD z hz).of_mem (mem_flat1 4 (by rfl))), (RdT.flat ((d0.stagesD b0 (List.mem_of_getElem? t0)).ops.up 4 (by rfl)))⟩ (Sat.flat m4)) ?_
  rintro _ _ ⟨n4, i1, o4, p4, rfl, q1, q4⟩
  have j1 := Sat.unflat1 q4
  have hn_az_65 := q1.len; have hl_az_65 := q1.le
  have a7 : 1 ≤ (srcs b0.v).length ∧ (srcs b0.v).length ≤ 2 := srcs_len _
  refine nilO ⟨⟨.inr (j1.cell 3 rfl rfl), .inr ((p1.up 1 rfl).cell j1 (k := 0) rfl), dI, dI, dI, dI, dI, dI, dI, dI, dI, dI, dI, dI, dI, dI, dI, dI, dI, dI, trivial⟩, ?_⟩
  refine wU [10] ?_
  refine wN ?_
  refine thenK_n <| seqE ?_
  have htm := tmod_wrap (i := i) (n := e0) om
  refine regionE <| pu2 ?_
  refine sAdd ((i : Nat) : Int) 1 ?_
  refine pu2 ?_
  refine sRem (((i : Nat) : Int) + 1) ((e0 : Nat) : Int) ?_
  refine sIdxO s0 ((((i : Nat) : Int) + 1).tmod ((e0 : Nat) : Int)) (((((i : Nat) : Int) + 1).tmod ((e0 : Nat) : Int))).toNat Tryz.runUnderlying22 Tryz.sizeOf3 ?_
  intro w0 _ _ f2 r4 _
  refine sLp j1 (r4.up 1 rfl) 0 (I w0) (Tryz.isAgg3 _) ?_
  refine pu2 <| nilO ?_
  have hsg : srcG 1 (S.map srcs) n0 = srcs b0.v := by unfold srcG; rw [← hqs, List.getD_eq_getElem?_getD, map_at (f := srcs) (map_at (f := Stage.v) (by rw [show (n0 - ((1 : Nat) : Int)).toNat = (n0 - 1).toNat by omega]; exact t0))]; rfl
  have hym : w0 ∈ srcs b0.v := by
   rw [← hsg]
   rcases htm with ⟨h1, h2⟩ | ⟨h1, h2⟩
   ·have h3 := f2; rw [h2] at h3
    have h4 : w0 = rt := Option.some.inj (h3.symm.trans hc0)
    rw [h4]; exact hcx_x_48.2.2.2 om
   ·have h3 := f2; rw [h2] at h3
    exact hcx_x_48.2.2.1 w0 h3
  refine thenK_n <| seqE <| sR <| pu1 <| nT <| blockE ?_
  refine loopA (γ := Nat × Bool) (fun ⟨k, fd⟩ => [(6, Pt p0 0), (7, .slice d1 v0 e1), (8, I ((ordV a0.v).2)), (9, .slice q0 e0 r0), (10, I ((i : Nat) : Int)), (11, .slice n4 i1 o4), (12, I w0), (14, I ((k : Nat) : Int)), (13, .bool fd)]) (fun ⟨k, fd⟩ w => Sat W w (p4 :: g1 :: f1 :: [(p0, .cells (encJob a0).toArray 28 (0, 0))] :: [(a1, .cells #[.slice t nt kt, I c1] 59 (0, 0))] :: b1 :: H :: F) ∧ k ≤ i1 ∧ (fd = true ↔ w0 ∈ (srcs b0.v).take k)) (fun ⟨k, fd⟩ => i1 - k) (0, false) ⟨j1, om, by simp⟩ ?_
  rintro ⟨k, fd⟩ ρ _ ⟨y0, hk, hF⟩
  refine seqE <| sR <| pu4 <| nT ?_
  refine cD (((k : Nat) : Int) < ((i1 : Nat) : Int)) (fun s4 => ?_) (fun s4 => ?_)
  ·refine kT <| seqE <| blockE <| regionE <| pu2 ?_
   refine sB 79 fd (fun t4 => ?_) (fun t4 => ?_)
   ·refine pu8 <| nB <| regionE <| pu1 ?_
    refine sAdd ((k : Nat) : Int) 1 ?_
    refine pu1 <| nT ?_
    exact ⟨(k + 1, true), od, alA, y0, om, (fd_yes (hF.1 ‹_›))⟩
   refine pu2 <| gY ?_
   refine sIdx q1 ((k : Nat) : Int) Tryz.runUnderlying22 Tryz.sizeOf3 ?_
   intro g2 _ _ i2 u4
   rw [Int.toNat_natCast] at i2
   refine gY ?_
   refine sLp y0 (u4.up 0 rfl) 0 (I g2) (Tryz.isAgg3 _) ?_
   refine pu4 <| nB <| regionE <| pu1 ?_
   refine sAdd ((k : Nat) : Int) 1 ?_
   refine pu1 <| nT ?_
   exact ⟨(k + 1, ((g2 : Int) == w0)), od, alA, y0, om, (fd_no i2 (fun h => absurd (hF.2 h) ‹_›))⟩
  refine exitE <| xB <| thenK_n <| seqE ?_
  have hfd : fd = true := hF.2 (by rw [List.take_of_length_le om]; exact hym)
  have v4 : fd = true := hfd
  obtain ⟨w4, j2, k2, r1, l2, m2, i7⟩ := OwnT.elem s0 ((i : Nat) : Int)
  rw [Int.toNat_natCast] at r1 l2 m2
  obtain rfl : n0 = w4 := Option.some.inj (o1.symm.trans r1)
  have hcx_x_48 := hcx i n0 r1
  obtain ⟨k1, n2, o2, p2, q2, r2, j7⟩ := OwnT.elem s0 0
  change _[0]? = _ at p2; change PtR _ _ (_ + 0 * _) _ at q2; change ElemAt _ _ _ _ _ (_ + 0 * _) at r2
  have hc0_x_94 : k1 = rt := Option.some.inj (p2.symm.trans hc0)
  refine drawE [] [(6, ⟨j2, k2 + i * 1, none⟩, I n0), (9, ⟨n2, o2 + 0 * 1, none⟩, I k1)] [(true, [0, 1, 2]), (true, [3, 4]), (true, [5]), (true, [7]), (true, [8]), (true, [6]), (true, [9]), (true, [10, 11])] rfl kr ⟨.inr ((l2.up 1 rfl).cell y0 (k := 0) rfl), .inr ((q2.up 1 rfl).cell y0 (k := 0) rfl), trivial⟩ ?_
  have x4 := y0.drew
  refine wU [0, 1, 2] ?_
  refine wFix 89 _ false (congrArg Bool.not v4) ?_
  refine wU [3, 4] ?_
  refine wY (.pointer (some ⟨j2, k2 + i * 1, none⟩)) rfl (fun w _ => Y_idx (a := q0) (i := ((i : Nat) : Int)) (len := e0) (cap := r0) rfl Tryz.runUnderlying22 Tryz.sizeOf3 kr kr m2) ?_
  refine wU [7] ?_
  refine wY (.pointer (some ⟨n2, o2 + 0 * 1, none⟩)) rfl (fun w _ => Y_idx (a := q0) (i := 0) (len := e0) (cap := r0) rfl Tryz.runUnderlying22 Tryz.sizeOf3 kr kr r2) ?_
  refine wLd (I n0) 0 Tryz.isAgg3 ?_
  refine wLd (I k1) 1 Tryz.isAgg3 ?_
  refine wU [10, 11] ?_
  refine wN ?_
  refine thenK_n ?_
  have y4 : ¬ ((n0 : Int) < k1) := by omega
  refine cF _ (decide_eq_false y4) ?_
  refine skipE <| blockK_n <| thenK_n <| regionE <| pu1 ?_
  refine sAdd ((i : Nat) : Int) 1 ?_
  refine pu1 <| nT ?_
  have z4 := (x4.dropAt 0 rfl)
  exact ⟨i + 1, od, alA, z4, om⟩
 refine pu5 ?_
 have a5 : ((ordV a0.v).2 : Int) = 7 := by omega
 refine sFix 40 _ false (bne_eq_false_iff_eq.2 a5) ?_
 refine pu7 <| nT ?_
 have b5 : (((ordV a0.v).2 : Int) == 7) = (decide ((((e0 : Nat) : Int) : Int) > 0)) := by rw [Bool.eq_iff_iff, beq_iff_eq, decide_eq_true_eq]; omega
 refine cF _ (congrArg Bool.not (show ((((ordV a0.v).2 : Int) == 7) == (decide ((((e0 : Nat) : Int) : Int) > 0))) = true from by simpa using b5)) ?_
 refine kT <| seqE <| sR <| pu1 <| nT <| blockE ?_
 refine loopA (γ := Nat) (fun i => [(6, Pt p0 0), (7, .slice d1 v0 e1), (8, I ((ordV a0.v).2)), (9, .slice q0 e0 r0), (10, I ((i : Nat) : Int))]) (fun i w => Sat W w (g1 :: f1 :: [(p0, .cells (encJob a0).toArray 28 (0, 0))] :: [(a1, .cells #[.slice t nt kt, I c1] 59 (0, 0))] :: b1 :: H :: F) ∧ i ≤ e0) (fun i => e0 - i) 0 ⟨b2, om⟩ ?_
 rintro i ρ _ ⟨g0, hi⟩
 refine seqE <| sR <| pu4 <| nT ?_
 refine cD (((i : Nat) : Int) < ((e0 : Nat) : Int)) (fun c5 => ?_) (fun c5 => ?_)
 rotate_left
 ·refine exitE <| xB <| thenK_n <| sR <| pu3 ?_
  refine sN 101 ((ordV a0.v).2) 0 (fun d5 => ?_) (fun d5 => ?_)
  rotate_left
  ·refine pu8 <| gY ?_
   refine cR Tryz.call12 (l17_sane  (Sat.flat g0)) ?_
   intro _ e5
   refine pu2 <| nT <| retE <| retT [.bool true] ?_
   have f5 := (e5.pick 5 rfl)
   have g5 := f5.dropAt 1 rfl
   have i5 := g5.dropAt 1 rfl
   have j5 := i5.dropAt 1 rfl
   have k5 := j5.dropAt 1 rfl
   have l5 := k5.dropAt 1 rfl
   exact ⟨rfl, l5⟩
  refine pu3 <| gY ?_
  refine sL g0 2 1 (.slice a0.stages.a a0.stages.n a0.stages.k) (Tryz.isAgg26 _) ?_
  refine pu4 ?_
  have m5 : (((v0 : Nat) : Int) : Int) = ((a0.stages.n : Nat) : Int) := by omega
  refine sFix 109 _ true (beq_iff_eq.2 m5) ?_
  refine gY ?_
  refine cR Tryz.call12 (l17_sane  (Sat.flat g0)) ?_
  intro _ n5
  refine pu2 <| nT <| retE <| retT [.bool true] ?_
  have o5 := (n5.pick 5 rfl)
  have p5 := o5.dropAt 1 rfl
  have q5 := p5.dropAt 1 rfl
  have r5 := q5.dropAt 1 rfl
  have s5 := r5.dropAt 1 rfl
  have t5 := s5.dropAt 1 rfl
  exact ⟨rfl, t5⟩
 refine kT <| seqE <| blockE <| seqE ?_
 obtain ⟨rt, hc0, hcx⟩ : ∃ rt, (cycV a0.v)[0]? = some rt ∧ ∀ i x, (cycV a0.v)[i]? = some x → (1 ≤ x ∧ x < 1 + ((a0.stages.n : Nat) : Int)) ∧ rt ≤ x ∧ (∀ y, (cycV a0.v)[i + 1]? = some y → y ∈ srcG 1 (S.map srcs) x) ∧ (i + 1 = e0 → rt ∈ srcG 1 (S.map srcs) x) := by
  have hz := hn_az_35
  rcases hcs with ⟨h1, h2, h3⟩ | ⟨h1, h2, rt, bs, h3, h4, h5⟩
  ·omega
  ·have h6 := cyc_at (chk_rng hch) (by have h7 := chk_len hch; rw [List.length_map]; omega) h3 h4
   rw [← h5] at h6; refine ⟨rt, h6.2.1, fun i x hx => ?_⟩
   have h8 := h6.2.2 i x hx
   rw [List.length_map, hz, hSl] at h8
   rw [hqv] at h8 ⊢
   exact h8
 obtain ⟨o0, s2, t2, s1, t1, u2, n7⟩ := OwnT.elem s0 ((i : Nat) : Int)
 rw [Int.toNat_natCast] at s1 t1 u2
 have hcx_x_129 := hcx i o0 s1
 obtain ⟨c0, j0, k0, u0, m0, u5⟩ := RdT.elem d0.stages (o0 - 1)
 refine drawE [9] [(1, ⟨p0, 1, none⟩, .slice a0.stages.a a0.stages.n a0.stages.k), (5, ⟨s2, t2 + i * 1, none⟩, I o0), (8, ⟨j0, k0 + 0, none⟩, I c0.kind), (8, ⟨j0, k0 + 1, none⟩, I c0.a), (8, ⟨j0, k0 + 2, none⟩, I c0.b), (8, ⟨j0, k0 + 3, none⟩, .bool c0.barrier), (8, ⟨j0, k0 + 4, none⟩, I c0.edgePolicy), (8, ⟨j0, k0 + 5, none⟩, I c0.edgeFill), (8, ⟨j0, k0 + 6, none⟩, I c0.kW), (8, ⟨j0, k0 + 7, none⟩, I c0.kH), (8, ⟨j0, k0 + 8, none⟩, .slice c0.weights.a c0.weights.n c0.weights.k), (8, ⟨j0, k0 + 9, none⟩, .slice c0.row.a c0.row.n c0.row.k), (8, ⟨j0, k0 + 10, none⟩, .slice c0.col.a c0.col.n c0.col.k), (8, ⟨j0, k0 + 11, none⟩, I c0.shift), (8, ⟨j0, k0 + 12, none⟩, I c0.shift2), (8, ⟨j0, k0 + 13, none⟩, .slice c0.x.a c0.x.n c0.x.k), (8, ⟨j0, k0 + 14, none⟩, .slice c0.y.a c0.y.n c0.y.k), (8, ⟨j0, k0 + 15, none⟩, I c0.bins), (8, ⟨j0, k0 + 16, none⟩, .slice c0.ops.a c0.ops.n c0.ops.k), (8, ⟨j0, k0 + 17, none⟩, I c0.max_)] [(true, [0, 2, 3]), (true, [4]), (true, [1]), (true, [5]), (true, [6]), (true, [7]), (true, [8]), (false, [9]), (true, [10])] rfl kr ⟨.inr (g0.cell 2 rfl rfl), .inr ((t1.up 0 rfl).cell g0 (k := 0) rfl), .inr ((m0.up 4 rfl).cell g0 (k := 0) rfl), .inr ((m0.up 4 rfl).cell g0 (k := 1) rfl), .inr ((m0.up 4 rfl).cell g0 (k := 2) rfl), .inr ((m0.up 4 rfl).cell g0 (k := 3) rfl), .inr ((m0.up 4 rfl).cell g0 (k := 4) rfl), .inr ((m0.up 4 rfl).cell g0 (k := 5) rfl), .inr ((m0.up 4 rfl).cell g0 (k := 6) rfl), .inr ((m0.up 4 rfl).cell g0 (k := 7) rfl), .inr ((m0.up 4 rfl).cell g0 (k := 8) rfl), .inr ((m0.up 4 rfl).cell g0 (k := 9) rfl), .inr ((m0.up 4 rfl).cell g0 (k := 10) rfl), .inr ((m0.up 4 rfl).cell g0 (k := 11) rfl), .inr ((m0.up 4 rfl).cell g0 (k := 12) rfl), .inr ((m0.up 4 rfl).cell g0 (k := 13) rfl), .inr ((m0.up 4 rfl).cell g0 (k := 14) rfl), .inr ((m0.up 4 rfl).cell g0 (k := 15) rfl), .inr ((m0.up 4 rfl).cell g0 (k := 16) rfl), .inr ((m0.up 4 rfl).cell g0 (k := 17) rfl), trivial⟩ ?_
 have v5 := g0.drew
 refine wU [0, 2, 3] ?_
 refine wY (.pointer (some ⟨s2, t2 + i * 1, none⟩)) rfl (fun w _ => Y_idx (a := q0) (i := ((i : Nat) : Int)) (len := e0) (cap := r0) rfl Tryz.runUnderlying22 Tryz.sizeOf3 kr kr u2) ?_
 refine wLd (.slice a0.stages.a a0.stages.n a0.stages.k) 0 Tryz.isAgg26 ?_
 refine wLd (I o0) 1 Tryz.isAgg3 ?_
 refine wSub o0 1 ?_
 refine wY (.pointer (some ⟨j0, k0, none⟩)) rfl (fun w _ => Y_idx (a := a0.stages.a) (i := (o0 - 1)) (len := a0.stages.n) (cap := a0.stages.k) rfl Tryz.runUnderlying26 Tryz.sizeOf44 kr kr u5) ?_
 refine wY (.agg (encStage c0).toArray) rfl (fun w hF => Y_loadF rfl (Tryz.isAgg44 w) (Tryz.sizeOf44 w) kr rfl ⟨hF 2 _ _ rfl, hF 3 _ _ rfl, hF 4 _ _ rfl, hF 5 _ _ rfl, hF 6 _ _ rfl, hF 7 _ _ rfl, hF 8 _ _ rfl, hF 9 _ _ rfl, hF 10 _ _ rfl, hF 11 _ _ rfl, hF 12 _ _ rfl, hF 13 _ _ rfl, hF 14 _ _ rfl, hF 15 _ _ rfl, hF 16 _ _ rfl, hF 17 _ _ rfl, hF 18 _ _ rfl, hF 19 _ _ rfl, trivial⟩) ?_
 refine wO rfl ?_
 refine cX Tryz.call10 (r15_sources c0 ⟨(RdT.flat ((d0.stagesD c0 (List.mem_of_getElem? u0)).weights.up 4 (by rfl))), (RdT.flat ((d0.stagesD c0 (List.mem_of_getElem? u0)).row.up 4 (by rfl))), (RdT.flat ((d0.stagesD c0 (List.mem_of_getElem? u0)).col.up 4 (by rfl))), (RdT.flat ((d0.stagesD c0 (List.mem_of_getElem? u0)).x.up 4 (by rfl))), (fun z hz => ((d0.stagesD c0 (List.mem_of_getElem? u0)).xD z hz).of_mem (mem_flat1 4 (by rfl))), (RdT.flat ((d0.stagesD c0 (List.mem_of_getElem? u0)).y.up 4 (by rfl))), (fun z hz => ((d0.stagesD c0 (List.mem_of_getElem? u0)).yD z hz).of_mem (mem_flat1 4 (by rfl))), (RdT.flat ((d0.stagesD c0 (List.mem_of_getElem? u0)).ops.up 4 (by rfl)))⟩ (Sat.flat v5)) ?_
 rintro _ _ ⟨w5, l1, x5, y5, rfl, u1, z5⟩
 have m1 := Sat.unflat1 z5
 have hn_az_146 := u1.len; have hl_az_146 := u1.le
 have p7 : 1 ≤ (srcs c0.v).length ∧ (srcs c0.v).length ≤ 2 := srcs_len _
 refine nilO ⟨⟨.inr (m1.cell 3 rfl rfl), .inr ((t1.up 1 rfl).cell m1 (k := 0) rfl), dI, dI, dI, dI, dI, dI, dI, dI, dI, dI, dI, dI, dI, dI, dI, dI, dI, dI, trivial⟩, ?_⟩
 refine wU [10] ?_
 refine wN ?_
 refine thenK_n <| seqE ?_
 have htm := tmod_wrap (i := i) (n := e0) om
 refine regionE <| pu2 ?_
 refine sAdd ((i : Nat) : Int) 1 ?_
 refine pu2 ?_
 refine sRem (((i : Nat) : Int) + 1) ((e0 : Nat) : Int) ?_
 refine sIdxO s0 ((((i : Nat) : Int) + 1).tmod ((e0 : Nat) : Int)) (((((i : Nat) : Int) + 1).tmod ((e0 : Nat) : Int))).toNat Tryz.runUnderlying22 Tryz.sizeOf3 ?_
 intro x0 _ _ v2 a6 _
 refine sLp m1 (a6.up 1 rfl) 0 (I x0) (Tryz.isAgg3 _) ?_
 refine pu2 <| nilO ?_
 have hsg : srcG 1 (S.map srcs) o0 = srcs c0.v := by unfold srcG; rw [← hqs, List.getD_eq_getElem?_getD, map_at (f := srcs) (map_at (f := Stage.v) (by rw [show (o0 - ((1 : Nat) : Int)).toNat = (o0 - 1).toNat by omega]; exact u0))]; rfl
 have hym : x0 ∈ srcs c0.v := by
  rw [← hsg]
  rcases htm with ⟨h1, h2⟩ | ⟨h1, h2⟩
  ·have h3 := v2; rw [h2] at h3
   have h4 : x0 = rt := Option.some.inj (h3.symm.trans hc0)
   rw [h4]; exact hcx_x_129.2.2.2 om
  ·have h3 := v2; rw [h2] at h3
   exact hcx_x_129.2.2.1 x0 h3
 refine thenK_n <| seqE <| sR <| pu1 <| nT <| blockE ?_
 refine loopA (γ := Nat × Bool) (fun ⟨k, fd⟩ => [(6, Pt p0 0), (7, .slice d1 v0 e1), (8, I ((ordV a0.v).2)), (9, .slice q0 e0 r0), (10, I ((i : Nat) : Int)), (11, .slice w5 l1 x5), (12, I x0), (14, I ((k : Nat) : Int)), (13, .bool fd)]) (fun ⟨k, fd⟩ w => Sat W w (y5 :: g1 :: f1 :: [(p0, .cells (encJob a0).toArray 28 (0, 0))] :: [(a1, .cells #[.slice t nt kt, I c1] 59 (0, 0))] :: b1 :: H :: F) ∧ k ≤ l1 ∧ (fd = true ↔ x0 ∈ (srcs c0.v).take k)) (fun ⟨k, fd⟩ => l1 - k) (0, false) ⟨m1, om, by simp⟩ ?_
 rintro ⟨k, fd⟩ ρ _ ⟨z0, hk, hF⟩
 refine seqE <| sR <| pu4 <| nT ?_
 refine cD (((k : Nat) : Int) < ((l1 : Nat) : Int)) (fun b6 => ?_) (fun b6 => ?_)
 ·refine kT <| seqE <| blockE <| regionE <| pu2 ?_
  refine sB 79 fd (fun c6 => ?_) (fun c6 => ?_)
  ·refine pu8 <| nB <| regionE <| pu1 ?_
   refine sAdd ((k : Nat) : Int) 1 ?_
   refine pu1 <| nT ?_
   exact ⟨(k + 1, true), od, alA, z0, om, (fd_yes (hF.1 ‹_›))⟩
  refine pu2 <| gY ?_
  refine sIdx u1 ((k : Nat) : Int) Tryz.runUnderlying22 Tryz.sizeOf3 ?_
  intro w2 _ _ x2 d6
  rw [Int.toNat_natCast] at x2
  refine gY ?_
  refine sLp z0 (d6.up 0 rfl) 0 (I w2) (Tryz.isAgg3 _) ?_
  refine pu4 <| nB <| regionE <| pu1 ?_
  refine sAdd ((k : Nat) : Int) 1 ?_
  refine pu1 <| nT ?_
  exact ⟨(k + 1, ((w2 : Int) == x0)), od, alA, z0, om, (fd_no x2 (fun h => absurd (hF.2 h) ‹_›))⟩
 refine exitE <| xB <| thenK_n <| seqE ?_
 have hfd : fd = true := hF.2 (by rw [List.take_of_length_le om]; exact hym)
 have e6 : fd = true := hfd
 obtain ⟨f6, y2, z2, v1, a3, b3, w7⟩ := OwnT.elem s0 ((i : Nat) : Int)
 rw [Int.toNat_natCast] at v1 a3 b3
 obtain rfl : o0 = f6 := Option.some.inj (s1.symm.trans v1)
 have hcx_x_129 := hcx i o0 v1
 obtain ⟨n1, c3, d3, e3, f3, g3, x7⟩ := OwnT.elem s0 0
 change _[0]? = _ at e3; change PtR _ _ (_ + 0 * _) _ at f3; change ElemAt _ _ _ _ _ (_ + 0 * _) at g3
 have hc0_x_175 : n1 = rt := Option.some.inj (e3.symm.trans hc0)
 refine drawE [] [(6, ⟨y2, z2 + i * 1, none⟩, I o0), (9, ⟨c3, d3 + 0 * 1, none⟩, I n1)] [(true, [0, 1, 2]), (true, [3, 4]), (true, [5]), (true, [7]), (true, [8]), (true, [6]), (true, [9]), (true, [10, 11])] rfl kr ⟨.inr ((a3.up 1 rfl).cell z0 (k := 0) rfl), .inr ((f3.up 1 rfl).cell z0 (k := 0) rfl), trivial⟩ ?_
 have g6 := z0.drew
 refine wU [0, 1, 2] ?_
 refine wFix 89 _ false (congrArg Bool.not e6) ?_
 refine wU [3, 4] ?_
 refine wY (.pointer (some ⟨y2, z2 + i * 1, none⟩)) rfl (fun w _ => Y_idx (a := q0) (i := ((i : Nat) : Int)) (len := e0) (cap := r0) rfl Tryz.runUnderlying22 Tryz.sizeOf3 kr kr b3) ?_
 refine wU [7] ?_
 refine wY (.pointer (some ⟨c3, d3 + 0 * 1, none⟩)) rfl (fun w _ => Y_idx (a := q0) (i := 0) (len := e0) (cap := r0) rfl Tryz.runUnderlying22 Tryz.sizeOf3 kr kr g3) ?_
 refine wLd (I o0) 0 Tryz.isAgg3 ?_
 refine wLd (I n1) 1 Tryz.isAgg3 ?_
 refine wU [10, 11] ?_
 refine wN ?_
 refine thenK_n ?_
 have i6 : ¬ ((o0 : Int) < n1) := by omega
 refine cF _ (decide_eq_false i6) ?_
 refine skipE <| blockK_n <| thenK_n <| regionE <| pu1 ?_
 refine sAdd ((i : Nat) : Int) 1 ?_
 refine pu1 <| nT ?_
 have j6 := (g6.dropAt 0 rfl)
 exact ⟨i + 1, od, alA, j6, om⟩
end Go.Proofs.YtbofcpnngniopaaGreat
