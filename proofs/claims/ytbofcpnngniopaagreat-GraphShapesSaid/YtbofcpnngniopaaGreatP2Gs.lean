import Derived.Test.YtbofcpnngniopaaGreatP2SpoilJ
namespace Go.Proofs.YtbofcpnngniopaaGreat
open Go Go.E
set_option linter.unusedVariables false
set_option linter.unusedSimpArgs false
set_option linter.unnecessarySimpa false
set_option maxRecDepth 100000
set_option maxHeartbeats 2000000
variable {W w : World} {H : Chunk} {F : List Chunk}
/-! ### shapes of made jobs -/
-- squeezed
theorem ord_outs {I : List PlaneV} {S : List StageV} {O : List Int} {p : Int} (h1 : chkCode ⟨I, S, O, p⟩ = 0) (h2 : chkCode (jobOf I S p) = 0) : ordV ⟨I, S, O, p⟩ = ordV (jobOf I S p) := by
  unfold ordV
  rw [if_pos h1, if_pos h2]; rfl
theorem good_chk {I : List PlaneV} {S : List StageV} {O : List Int} {p : Int} (h : Good I S p) (h1 : 1 ≤ S.length) (hO : 1 ≤ O.length ∧ O.length ≤ 2) (hr : inR ((I.length : Nat) + (S.length : Nat)) O = true) : chkCode ⟨I, S, O, p⟩ = 0 := by
  unfold chkCode
  dsimp only
  have hn := h.ni; have hs := h.ns; have hp := h.pr
  rw [if_pos (by omega), if_pos hp, if_pos, if_pos hr]
  rw [List.all_eq_true]
  intro s hs2
  obtain ⟨m, hm⟩ := List.getElem?_of_mem hs2
  unfold inR
  rw [List.all_eq_true]
  intro x hx
  have := h.od m s hm x hx
  have hml : m < S.length := (List.getElem?_eq_some_iff.1 hm).1
  exact decide_eq_true (by omega)
theorem shp_outs {I : List PlaneV} {S : List StageV} {O : List Int} {p : Int} {l : List Shape} (h : Good I S p) (hr : runS (I.map shpOf) S = some l) (h1 : 1 ≤ S.length) (hO : 1 ≤ O.length ∧ O.length ≤ 2) (hi : inR ((I.length : Nat) + (S.length : Nat)) O = true) : shpV ⟨I, S, O, p⟩ = (l, 0, 0) := by
  have c1 := good_chk h h1 hO hi
  have c2 := good_chk (O := [0]) h h1 (by simp) (by unfold inR; simp; have := h.ni; omega)
  have e := (shp_run h h1).1 l hr
  have eo := ord_outs c1 c2
  unfold shpV at e ⊢
  rw [eo]
  exact e
theorem runS_pre : ∀ (S : List StageV) (out l : List Shape), runS out S = some l → ∃ z, l = out ++ z
  | [], out, l, h => by simp only [runS, Option.some.injEq] at h; exact ⟨[], by simp [h]⟩
  | s :: S, out, l, h => by
    rw [runS] at h
    split at h
    · obtain ⟨z, hz⟩ := runS_pre S _ l h
      exact ⟨_, by rw [hz, List.append_assoc]⟩
    · cases h
theorem runS_len : ∀ (S : List StageV) (out l : List Shape), runS out S = some l → l.length = out.length + S.length
  | [], out, l, h => by simp only [runS, Option.some.injEq] at h; subst h; simp
  | s :: S, out, l, h => by
    rw [runS] at h
    split at h
    · rw [runS_len S _ l h]; simp; omega
    · cases h
theorem runS_at : ∀ (S : List StageV) (out l : List Shape) (m : Nat) (s : StageV), runS out S = some l → S[m]? = some s → ∃ cur z, cur.length = out.length + m ∧ l = cur ++ z ∧ (stOf cur s).2 = 0 ∧ l[out.length + m]? = some (stOf cur s).1
 | s :: S, out, l, 0, t, h, hm => by
  obtain rfl : s = t := by simpa using hm
  rw [runS] at h
  split at h
  ·rename_i hc
   obtain ⟨z, hz⟩ := runS_pre S _ l h
   refine ⟨out, (stOf out s).1 :: z, rfl, by rw [hz, List.append_assoc]; rfl, hc, ?_⟩
   rw [hz, List.append_assoc, Nat.add_zero, List.getElem?_append_right (Nat.le_refl _), Nat.sub_self]; rfl
  ·cases h
 | s :: S, out, l, m + 1, t, h, hm => by
  rw [runS] at h
  split at h
  ·obtain ⟨cur, z, h1, h2, h3, h4⟩ := runS_at S _ l m t h (by simpa using hm)
   rw [List.length_append, List.length_singleton] at h1 h4
   exact ⟨cur, z, om, h2, h3, by rw [show out.length + (m + 1) = out.length + 1 + m by omega]; exact h4⟩
  ·cases h
theorem run_in {I : List PlaneV} {S : List StageV} {l : List Shape} {i : Nat} {z : PlaneV} {x : Shape} (hr : runS (I.map shpOf) S = some l) (hz : I[i]? = some z) (hx : l[i]? = some x) : x = shpOf z := by
  obtain ⟨y, rfl⟩ := runS_pre _ _ _ hr
  have hi := (List.getElem?_eq_some_iff.1 hz).1
  rw [List.getElem?_append_left (by rw [List.length_map]; exact hi), List.getElem?_map, hz] at hx
  exact (Option.some.inj hx).symm
theorem run_st {I : List PlaneV} {S : List StageV} {p : Int} {l : List Shape} {m k : Nat} {s : StageV} {x : Shape} (h : Good I S p) (hr : runS (I.map shpOf) S = some l) (hs : S[m]? = some s) (hx : l[k]? = some x) (hk : k = I.length + m) : ofV s (shpAt l s.a) (if twoP s then shpAt l s.b else ⟨0, 0, 0⟩) = (x, 0) := by
 subst hk
 obtain ⟨cur, z, h1, h2, h3, h4⟩ := runS_at S _ l m s hr hs
 rw [List.length_map] at h1 h4
 rw [hx] at h4
 have ha := h.od m s hs s.a (by unfold srcs; split <;> simp)
 have e1 : shpAt l s.a = shpAt cur s.a := by rw [h2]; exact shpAt_app ha.1 om
 have e2 : (if twoP s then shpAt l s.b else ⟨0, 0, 0⟩) = (if twoP s then shpAt cur s.b else ⟨0, 0, 0⟩) := by
  by_cases ht : twoP s
  ·rw [if_pos ht, if_pos ht, h2]
   have hb := h.od m s hs s.b (by unfold srcs; rw [if_pos ht]; simp)
   exact shpAt_app hb.1 om
  ·rw [if_neg ht, if_neg ht]
 rw [e1, e2]
 show stOf cur s = _
 rw [Option.some.inj h4, ← h3]
theorem l17_shapes (W w : World) (H : Chunk) (F : List Chunk) (t : Option Addr) (nt kt : Nat) (xt : List Int) (ht : RdT encI 1 [H] t nt kt xt) (hS : Sat W w (H :: F)) :
  Calls Tryz.prog 3 #[.slice t nt kt] w fun e w' => e = .returned (.bool true) ∧ Sat W w' (H :: F) := by
 have hlt := ht.le
 refine callsA 100 Tryz.func3 rfl ?_
 refine sR <| pu1 <| nT <| sR <| pu1 ?_
 refine cX Tryz.call6 (tape_new t nt kt hS) ?_
 rintro _ _ ⟨g3, rfl, h3⟩
 have i5 := ht.le
 refine pu1 <| nT <| sR <| pu1 ?_
 refine cX Tryz.call7 (tg_job (RdT.flat (ht.up 0 (by rfl))) om (Sat.flat1 h3) 4 om) ?_
 rintro _ _ ⟨f0, i3, rfl, e0, _, j3, k3, l3, _, m3⟩
 have n3 := Sat.unflat2 m3
 obtain ⟨hgd, l0, hrn⟩ := j3
 have hns := (e0).stages.len; have hni := (e0).inputs.len; have hno := (e0).outputs.len; have hjO := k3
 have hb : f0.inputs.n ≤ 1000000 ∧ f0.stages.n ≤ 1000000 ∧ f0.outputs.n ≤ 1000000 := by have h1 := hgd.ni; have h2 := hgd.ns; rw [List.length_map] at h1 h2; omega
 have hsh : shpV f0.v = (l0, 0, 0) := shp_outs hgd hrn (by rw [List.length_map]; omega) hjO.2.1 hjO.2.2
 have hll : l0.length = f0.inputs.n + f0.stages.n := by have h := runS_len _ _ _ hrn; simp only [List.length_map] at h; omega
 refine sAlloc n3 Tryz.zeroValue28 ?_
 intro d2 _ o3
 refine sT o3 0 0 (.agg (encJob f0).toArray) (encJob f0) (encJob f0).toArray Tryz.sizeOf28 ?_
 intro _ l2
 refine nT <| sR ?_
 refine lA l2 0 0 4 (Tryz.isAgg28 _) (Tryz.sizeOf28 _) ?_
 refine cX Tryz.call8 (p17_shapes f0 ⟨(RdT.flat (e0.inputs.up 2 (by rfl))), (fun z hz => (e0.inputsD z hz).of_mem (mem_flat1 2 (by rfl))), (RdT.flat (e0.stages.up 2 (by rfl))), (fun z hz => (e0.stagesD z hz).of_mem (mem_flat1 2 (by rfl))), (RdT.flat (e0.outputs.up 2 (by rfl)))⟩ (od) (Sat.flat l2)) ?_
 rintro _ _ ⟨w0, u0, x0, p3, rfl, v0, q3⟩
 have e2 := Sat.unflat1 q3
 have hn_az_24 := v0.len; have hl_az_24 := v0.le
 refine pu7 <| nilO ?_
 have hnz : u0 = f0.inputs.n + f0.stages.n := by have h := hn_az_24; rw [hsh] at h; exact h.symm.trans hll
 refine thenK_n <| seqE <| sR <| pu3 ?_
 have r3 : ((shpV f0.v).2.2 : Int) = 0 := by rw [hsh]
 refine sFix 25 _ false (bne_eq_false_iff_eq.2 r3) ?_
 refine pu3 <| gY ?_
 refine sL e2 1 0 (.slice f0.inputs.a f0.inputs.n f0.inputs.k) (Tryz.isAgg25 _) ?_
 refine pu2 <| gY ?_
 refine sL e2 1 1 (.slice f0.stages.a f0.stages.n f0.stages.k) (Tryz.isAgg26 _) ?_
 refine pu1 <| gY ?_
 refine sAdd ((f0.inputs.n : Nat) : Int) ((f0.stages.n : Nat) : Int) ?_
 refine pu2 <| nT ?_
 have s3 : (((u0 : Nat) : Int) : Int) = (((f0.inputs.n : Nat) : Int) + ((f0.stages.n : Nat) : Int)) := by omega
 refine cF _ (bne_eq_false_iff_eq.2 s3) ?_
 refine kT <| seqE <| sR <| pu1 <| nT <| blockE ?_
 refine loopA (γ := Nat) (fun i => [(4, Pt d2 0), (5, .slice w0 u0 x0), (8, I ((i : Nat) : Int))]) (fun i w => Sat W w (p3 :: [(d2, .cells (encJob f0).toArray 28 (0, 0))] :: [(g3, .cells #[.slice t nt kt, I l3] 59 (0, 0))] :: i3 :: H :: F) ∧ i ≤ u0) (fun i => u0 - i) 0 ⟨e2, om⟩ ?_
 rintro i ρ _ ⟨t0, hi⟩
 refine seqE <| sR <| pu4 <| nT ?_
 refine cD (((i : Nat) : Int) < ((u0 : Nat) : Int)) (fun t3 => ?_) (fun t3 => ?_)
 rotate_left
 ·refine exitE <| xB <| thenK_n <| sR ?_
  refine cR Tryz.call12 (l17_sane  (Sat.flat t0)) ?_
  intro _ u3
  refine pu1 <| nT <| retE <| retT [.bool true] ?_
  have v3 := (u3.pick 4 rfl)
  have w3 := v3.dropAt 1 rfl
  have x3 := w3.dropAt 1 rfl
  have y3 := x3.dropAt 1 rfl
  have z3 := y3.dropAt 1 rfl
  exact ⟨rfl, z3⟩
 refine kT <| seqE <| blockE <| seqE <| sR <| pu2 ?_
 refine sL t0 1 0 (.slice f0.inputs.a f0.inputs.n f0.inputs.k) (Tryz.isAgg25 _) ?_
 refine pu2 <| nT ?_
 refine cD (((i : Nat) : Int) < ((f0.inputs.n : Nat) : Int)) (fun a4 => ?_) (fun a4 => ?_)
 ·refine seqE <| seqE ?_
  obtain ⟨s0, k1, l1, m2, y0, n2, r5⟩ := OwnT.elem v0 ((i : Nat) : Int)
  rw [Int.toNat_natCast] at m2 y0 n2
  have hl0_x_35 : l0[i]? = some s0 := by have h := m2; rw [hsh] at h; exact h
  obtain ⟨n0, g1, i1, f2, m1, b4⟩ := RdT.elem e0.inputs ((i : Nat) : Int)
  rw [Int.toNat_natCast] at f2
  refine drawE [9] [(3, ⟨k1, l1 + i * 3 + 0, none⟩, I s0.w), (3, ⟨k1, l1 + i * 3 + 1, none⟩, I s0.h), (3, ⟨k1, l1 + i * 3 + 2, none⟩, I s0.max_), (5, ⟨d2, 0, none⟩, .slice f0.inputs.a f0.inputs.n f0.inputs.k), (8, ⟨g1, i1 + 0, none⟩, I n0.w), (8, ⟨g1, i1 + 1, none⟩, I n0.h), (8, ⟨g1, i1 + 2, none⟩, I n0.max_), (8, ⟨g1, i1 + 3, none⟩, .slice n0.pix.a n0.pix.n n0.pix.k)] [(true, [0, 1]), (true, [2]), (true, [4, 6]), (true, [3]), (true, [5]), (true, [7]), (true, [8]), (false, [9]), (true, [10])] rfl kr ⟨.inr ((y0.up 0 rfl).cell t0 (k := 0) rfl), .inr ((y0.up 0 rfl).cell t0 (k := 1) rfl), .inr ((y0.up 0 rfl).cell t0 (k := 2) rfl), .inr (t0.cell 1 rfl rfl), .inr ((m1.up 3 rfl).cell t0 (k := 0) rfl), .inr ((m1.up 3 rfl).cell t0 (k := 1) rfl), .inr ((m1.up 3 rfl).cell t0 (k := 2) rfl), .inr ((m1.up 3 rfl).cell t0 (k := 3) rfl), trivial⟩ ?_
  have c4 := t0.drew
  refine wU [0, 1] ?_
  refine wY (.pointer (some ⟨k1, l1 + i * 3, none⟩)) rfl (fun w _ => Y_idx (a := w0) (i := ((i : Nat) : Int)) (len := u0) (cap := x0) rfl Tryz.runUnderlying30 Tryz.sizeOf35 kr kr n2) ?_
  refine wU [4, 6] ?_
  refine wY (.agg #[I s0.w, I s0.h, I s0.max_]) rfl (fun w hF => Y_loadF rfl (Tryz.isAgg35 w) (Tryz.sizeOf35 w) kr rfl ⟨hF 0 _ _ rfl, hF 1 _ _ rfl, hF 2 _ _ rfl, trivial⟩) ?_
  refine wLd (.slice f0.inputs.a f0.inputs.n f0.inputs.k) 3 Tryz.isAgg25 ?_
  refine wY (.pointer (some ⟨g1, i1, none⟩)) rfl (fun w _ => Y_idx (a := f0.inputs.a) (i := ((i : Nat) : Int)) (len := f0.inputs.n) (cap := f0.inputs.k) rfl Tryz.runUnderlying25 Tryz.sizeOf38 kr kr b4) ?_
  refine wY (.agg (encPlane n0).toArray) rfl (fun w hF => Y_loadF rfl (Tryz.isAgg38 w) (Tryz.sizeOf38 w) kr rfl ⟨hF 4 _ _ rfl, hF 5 _ _ rfl, hF 6 _ _ rfl, hF 7 _ _ rfl, trivial⟩) ?_
  refine wO rfl ?_
  refine cR Tryz.call9 (r17_of n0 ⟨(RdT.flat ((e0.inputsD n0 (List.mem_of_getElem? f2)).pix.up 3 (by rfl)))⟩ (Sat.flat c4)) ?_
  intro _ j1
  refine nilO ⟨⟨.inr ((y0.up 0 rfl).cell j1 (k := 0) rfl), .inr ((y0.up 0 rfl).cell j1 (k := 1) rfl), .inr ((y0.up 0 rfl).cell j1 (k := 2) rfl), .inr (j1.cell 1 rfl rfl), dI, dI, dI, dI, trivial⟩, ?_⟩
  refine wY (.bool (!(((s0.w : Int) == n0.w) && ((s0.h : Int) == n0.h) && ((s0.max_ : Int) == n0.max_)))) rfl (fun w _ => Y_eqS rfl kr kr (eqvn35 _ s0.w s0.h s0.max_ n0.w n0.h n0.max_)) ?_
  refine wN ?_
  refine thenK_n ?_
  have d4 : (s0.w : Int) = n0.w ∧ (s0.h : Int) = n0.h ∧ (s0.max_ : Int) = n0.max_ := by have h := run_in hrn (map_at (f := Plane.v) f2) hl0_x_35; rw [h]; exact ⟨rfl, rfl, rfl⟩
  refine cF _ (congrArg Bool.not (show (((s0.w : Int) == n0.w) && ((s0.h : Int) == n0.h) && ((s0.max_ : Int) == n0.max_)) = true from by simpa [and_assoc] using d4)) ?_
  refine kT <| exitE <| thenK_x <| blockK_x <| thenK_n <| regionE <| pu1 ?_
  refine sAdd ((i : Nat) : Int) 1 ?_
  refine pu1 <| nT ?_
  exact ⟨i + 1, od, alA, j1, om⟩
 refine kT <| sR <| pu1 ?_
 refine sL t0 1 1 (.slice f0.stages.a f0.stages.n f0.stages.k) (Tryz.isAgg26 _) ?_
 refine pu2 ?_
 refine sL t0 1 0 (.slice f0.inputs.a f0.inputs.n f0.inputs.k) (Tryz.isAgg25 _) ?_
 refine pu1 ?_
 refine sSub ((i : Nat) : Int) ((f0.inputs.n : Nat) : Int) ?_
 refine sIdx e0.stages (((i : Nat) : Int) - ((f0.inputs.n : Nat) : Int)) Tryz.runUnderlying26 Tryz.sizeOf44 ?_
 intro a0 _ _ g0 e4
 have hsr := fun (y : Int) (hy : y ∈ srcs a0.v) => hgd.od (((i : Nat) : Int) - ((f0.inputs.n : Nat) : Int)).toNat a0.v (map_at (f := Stage.v) g0) y hy
 rw [List.length_map] at hsr
 have hsa := hsr a0.a (by unfold srcs; split <;> exact List.mem_cons_self)
 refine sLpA t0 (e4.up 3 rfl) 0 (encStage a0) (Tryz.isAgg44 _) (Tryz.sizeOf44 _) ?_
 refine sAlloc t0 Tryz.zeroValue44 ?_
 intro h0 _ f4
 refine sT f4 0 0 (.agg (encStage a0).toArray) (encStage a0) (encStage a0).toArray Tryz.sizeOf44 ?_
 intro _ g4
 refine nT <| sR <| pu1 ?_
 refine sAlloc g4 Tryz.zeroValue35 ?_
 intro d1 _ h4
 refine sT h4 0 0 (.agg #[I 0, I 0, I 0]) [I 0, I 0, I 0] #[I 0, I 0, I 0] Tryz.sizeOf35 ?_
 intro _ o2
 refine nT <| seqE <| sR ?_
 refine lA o2 1 0 18 (Tryz.isAgg44 _) (Tryz.sizeOf44 _) ?_
 refine cX Tryz.call10 (r15_sources a0 ⟨(RdT.flat ((e0.stagesD a0 (List.mem_of_getElem? g0)).weights.up 5 (by rfl))), (RdT.flat ((e0.stagesD a0 (List.mem_of_getElem? g0)).row.up 5 (by rfl))), (RdT.flat ((e0.stagesD a0 (List.mem_of_getElem? g0)).col.up 5 (by rfl))), (RdT.flat ((e0.stagesD a0 (List.mem_of_getElem? g0)).x.up 5 (by rfl))), (fun z hz => ((e0.stagesD a0 (List.mem_of_getElem? g0)).xD z hz).of_mem (mem_flat1 5 (by rfl))), (RdT.flat ((e0.stagesD a0 (List.mem_of_getElem? g0)).y.up 5 (by rfl))), (fun z hz => ((e0.stagesD a0 (List.mem_of_getElem? g0)).yD z hz).of_mem (mem_flat1 5 (by rfl))), (RdT.flat ((e0.stagesD a0 (List.mem_of_getElem? g0)).ops.up 5 (by rfl)))⟩ (Sat.flat o2)) ?_
 rintro _ _ ⟨_, i4, _, _, rfl, p2, j4⟩
 have i0 := Sat.unflat1 j4
 have hn_az_71 := p2.len; have hl_az_71 := p2.le
 have d6 : 1 ≤ (srcs a0.v).length ∧ (srcs a0.v).length ≤ 2 := srcs_len _
 refine pu2 <| nT ?_
 refine cE ((i4 : Nat) : Int) 2 (fun k4 => ?_) (fun k4 => ?_)
 ·have htw : twoP a0.v := srcs_two.1 om
  have hsb := hsr a0.b (by unfold srcs; rw [if_pos htw]; exact List.mem_cons_of_mem _ List.mem_cons_self)
  refine regionE <| pu2 ?_
  refine sL i0 2 2 (I a0.b) (Tryz.isAgg3 _) ?_
  refine sIdxO v0 a0.b (a0.b).toNat Tryz.runUnderlying30 Tryz.sizeOf35 ?_
  intro b0 _ _ l4 m4 _
  have hl0_x_78 : l0[(a0.b).toNat]? = some b0 := by have h := l4; rw [hsh] at h; exact h
  refine sLpA i0 (m4.up 3 rfl) 0 [I b0.w, I b0.h, I b0.max_] (Tryz.isAgg35 _) (Tryz.sizeOf35 _) ?_
  refine sT i0 1 0 (.agg #[I b0.w, I b0.h, I b0.max_]) [I b0.w, I b0.h, I b0.max_] #[I b0.w, I b0.h, I b0.max_] Tryz.sizeOf35 ?_
  intro _ j0
  refine nT <| seqE ?_
  obtain ⟨c0, n1, o1, n4, e1, o4, i6⟩ := OwnT.elem v0 a0.a
  have hl0_x_86 : l0[(a0.a).toNat]? = some c0 := by have h := n4; rw [hsh] at h; exact h
  refine drawP [7, 11, 12] [(0, ⟨h0, 0, none⟩, I a0.kind), (0, ⟨h0, 1, none⟩, I a0.a), (0, ⟨h0, 2, none⟩, I a0.b), (0, ⟨h0, 3, none⟩, .bool a0.barrier), (0, ⟨h0, 4, none⟩, I a0.edgePolicy), (0, ⟨h0, 5, none⟩, I a0.edgeFill), (0, ⟨h0, 6, none⟩, I a0.kW), (0, ⟨h0, 7, none⟩, I a0.kH), (0, ⟨h0, 8, none⟩, .slice a0.weights.a a0.weights.n a0.weights.k), (0, ⟨h0, 9, none⟩, .slice a0.row.a a0.row.n a0.row.k), (0, ⟨h0, 10, none⟩, .slice a0.col.a a0.col.n a0.col.k), (0, ⟨h0, 11, none⟩, I a0.shift), (0, ⟨h0, 12, none⟩, I a0.shift2), (0, ⟨h0, 13, none⟩, .slice a0.x.a a0.x.n a0.x.k), (0, ⟨h0, 14, none⟩, .slice a0.y.a a0.y.n a0.y.k), (0, ⟨h0, 15, none⟩, I a0.bins), (0, ⟨h0, 16, none⟩, .slice a0.ops.a a0.ops.n a0.ops.k), (0, ⟨h0, 17, none⟩, I a0.max_), (3, ⟨h0, 1, none⟩, I a0.a), (5, ⟨n1, o1 + (a0.a).toNat * 3 + 0, none⟩, I c0.w), (5, ⟨n1, o1 + (a0.a).toNat * 3 + 1, none⟩, I c0.h), (5, ⟨n1, o1 + (a0.a).toNat * 3 + 2, none⟩, I c0.max_), (6, ⟨d1, 0, none⟩, I b0.w), (6, ⟨d1, 1, none⟩, I b0.h), (6, ⟨d1, 2, none⟩, I b0.max_)] (Plan.sts [1, 2] <| Plan.sts [0] <| Plan.sts [3] <| Plan.sts [4] <| Plan.sts [5] <| Plan.sts [6] <| .fk 7 11 (Plan.sts [8] <| Plan.sts [9] <| Plan.sts [10] <| .ef 11 <| .ef 12 <| Plan.sts [13] <| .fin) (.ef 7 <| Plan.sts [8] <| Plan.sts [9] <| Plan.sts [10] <| .ef 12 <| Plan.sts [13] <| .fin)) rfl kr ⟨.inr (j0.cell 2 rfl rfl), .inr (j0.cell 2 rfl rfl), .inr (j0.cell 2 rfl rfl), .inr (j0.cell 2 rfl rfl), .inr (j0.cell 2 rfl rfl), .inr (j0.cell 2 rfl rfl), .inr (j0.cell 2 rfl rfl), .inr (j0.cell 2 rfl rfl), .inr (j0.cell 2 rfl rfl), .inr (j0.cell 2 rfl rfl), .inr (j0.cell 2 rfl rfl), .inr (j0.cell 2 rfl rfl), .inr (j0.cell 2 rfl rfl), .inr (j0.cell 2 rfl rfl), .inr (j0.cell 2 rfl rfl), .inr (j0.cell 2 rfl rfl), .inr (j0.cell 2 rfl rfl), .inr (j0.cell 2 rfl rfl), .inr (j0.cell 2 rfl rfl), .inr ((e1.up 3 rfl).cell j0 (k := 0) rfl), .inr ((e1.up 3 rfl).cell j0 (k := 1) rfl), .inr ((e1.up 3 rfl).cell j0 (k := 2) rfl), .inr (j0.cell 1 rfl rfl), .inr (j0.cell 1 rfl rfl), .inr (j0.cell 1 rfl rfl), trivial⟩ ?_
  have q2 := j0.drew
  refine qU [1, 2] ?_
  refine qY (.agg (encStage a0).toArray) rfl (fun w hF => Y_loadF rfl (Tryz.isAgg44 w) (Tryz.sizeOf44 w) kr rfl ⟨hF 0 _ _ rfl, hF 1 _ _ rfl, hF 2 _ _ rfl, hF 3 _ _ rfl, hF 4 _ _ rfl, hF 5 _ _ rfl, hF 6 _ _ rfl, hF 7 _ _ rfl, hF 8 _ _ rfl, hF 9 _ _ rfl, hF 10 _ _ rfl, hF 11 _ _ rfl, hF 12 _ _ rfl, hF 13 _ _ rfl, hF 14 _ _ rfl, hF 15 _ _ rfl, hF 16 _ _ rfl, hF 17 _ _ rfl, trivial⟩) ?_
  refine qLd (I a0.a) 18 Tryz.isAgg3 ?_
  refine qY (.pointer (some ⟨n1, o1 + (a0.a).toNat * 3, none⟩)) rfl (fun w _ => Y_idx (a := w0) (i := a0.a) (len := u0) (cap := x0) rfl Tryz.runUnderlying30 Tryz.sizeOf35 kr kr o4) ?_
  refine qY (.agg #[I c0.w, I c0.h, I c0.max_]) rfl (fun w hF => Y_loadF rfl (Tryz.isAgg35 w) (Tryz.sizeOf35 w) kr rfl ⟨hF 19 _ _ rfl, hF 20 _ _ rfl, hF 21 _ _ rfl, trivial⟩) ?_
  refine qY (.agg #[I b0.w, I b0.h, I b0.max_]) rfl (fun w hF => Y_loadF rfl (Tryz.isAgg35 w) (Tryz.sizeOf35 w) kr rfl ⟨hF 22 _ _ rfl, hF 23 _ _ rfl, hF 24 _ _ rfl, trivial⟩) ?_
  refine qF ?_ ?_
  ·refine qO rfl ?_
   refine cR Tryz.call11 (p15_of a0 c0 b0 ⟨(RdT.flat ((e0.stagesD a0 (List.mem_of_getElem? g0)).weights.up 6 (by rfl))), (RdT.flat ((e0.stagesD a0 (List.mem_of_getElem? g0)).row.up 6 (by rfl))), (RdT.flat ((e0.stagesD a0 (List.mem_of_getElem? g0)).col.up 6 (by rfl))), (RdT.flat ((e0.stagesD a0 (List.mem_of_getElem? g0)).x.up 6 (by rfl))), (fun z hz => ((e0.stagesD a0 (List.mem_of_getElem? g0)).xD z hz).of_mem (mem_flat1 6 (by rfl))), (RdT.flat ((e0.stagesD a0 (List.mem_of_getElem? g0)).y.up 6 (by rfl))), (fun z hz => ((e0.stagesD a0 (List.mem_of_getElem? g0)).yD z hz).of_mem (mem_flat1 6 (by rfl))), (RdT.flat ((e0.stagesD a0 (List.mem_of_getElem? g0)).ops.up 6 (by rfl)))⟩ (Sat.flat q2)) ?_
   intro _ r2
   have ea : shpAt l0 a0.v.a = c0 := by unfold shpAt; rw [show l0[(a0.v.a).toNat]? = some c0 from hl0_x_86]; rfl
   have eb : (if twoP a0.v then shpAt l0 a0.v.b else ⟨0, 0, 0⟩) = b0 := by rw [if_pos htw]; unfold shpAt; rw [show l0[(a0.v.b).toNat]? = some b0 from hl0_x_78]; rfl
   obtain ⟨xo, hxo⟩ : ∃ y, l0[i]? = some y := ⟨_, List.getElem?_eq_getElem om⟩
   have hof : ofV a0.v c0 b0 = (xo, 0) := by have h := run_st hgd hrn (map_at (f := Stage.v) g0) hxo (by rw [List.length_map]; omega); rw [ea, eb] at h; exact h
   refine nilO ⟨⟨dI, dI, dI, dI, dI, dI, dI, dI, dI, dI, dI, dI, dI, dI, dI, dI, dI, dI, .inr (r2.cell 2 rfl rfl), dI, dI, dI, dI, dI, dI, trivial⟩, ?_⟩
   refine qU [8] <| qU [9] <| qU [10] ?_
   refine qO rfl ?_
   refine sAlloc r2 Tryz.zeroValue35 ?_
   intro g2 _ s2
   refine nilO ⟨⟨dI, dI, dI, dI, dI, dI, dI, dI, dI, dI, dI, dI, dI, dI, dI, dI, dI, dI, .inr (s2.cell 3 rfl rfl), dI, dI, dI, dI, dI, dI, trivial⟩, ?_⟩
   refine qO rfl ?_
   refine sT s2 0 0 (.agg #[I ((ofV a0.v c0 b0).1.w), I ((ofV a0.v c0 b0).1.h), I ((ofV a0.v c0 b0).1.max_)]) [I ((ofV a0.v c0 b0).1.w), I ((ofV a0.v c0 b0).1.h), I ((ofV a0.v c0 b0).1.max_)] #[I ((ofV a0.v c0 b0).1.w), I ((ofV a0.v c0 b0).1.h), I ((ofV a0.v c0 b0).1.max_)] Tryz.sizeOf35 ?_
   intro _ z0
   refine nilO ⟨dA, ?_⟩
   refine qU [13] ?_
   refine qN ?_
   refine thenK_n <| seqE ?_
   have p4 : ((ofV a0.v c0 b0).2 : Int) = 0 := by rw [hof]
   obtain ⟨o0, p1, q1, t2, r1, u2, m6⟩ := OwnT.elem v0 ((i : Nat) : Int)
   rw [Int.toNat_natCast] at t2 r1 u2
   have hl0_x_103 : l0[i]? = some o0 := by have h := t2; rw [hsh] at h; exact h
   refine drawE [] [(3, ⟨g2, 0, none⟩, I ((ofV a0.v c0 b0).1.w)), (3, ⟨g2, 1, none⟩, I ((ofV a0.v c0 b0).1.h)), (3, ⟨g2, 2, none⟩, I ((ofV a0.v c0 b0).1.max_)), (7, ⟨p1, q1 + i * 3 + 0, none⟩, I o0.w), (7, ⟨p1, q1 + i * 3 + 1, none⟩, I o0.h), (7, ⟨p1, q1 + i * 3 + 2, none⟩, I o0.max_)] [(true, [0, 1, 2]), (true, [4, 5]), (true, [6]), (true, [3]), (true, [7]), (true, [8]), (true, [9])] rfl kr ⟨.inr (z0.cell 0 rfl rfl), .inr (z0.cell 0 rfl rfl), .inr (z0.cell 0 rfl rfl), .inr ((r1.up 4 rfl).cell z0 (k := 0) rfl), .inr ((r1.up 4 rfl).cell z0 (k := 1) rfl), .inr ((r1.up 4 rfl).cell z0 (k := 2) rfl), trivial⟩ ?_
   have q4 := z0.drew
   refine wU [0, 1, 2] ?_
   refine wFix 91 _ false (bne_eq_false_iff_eq.2 p4) ?_
   refine wU [4, 5] ?_
   refine wY (.pointer (some ⟨p1, q1 + i * 3, none⟩)) rfl (fun w _ => Y_idx (a := w0) (i := ((i : Nat) : Int)) (len := u0) (cap := x0) rfl Tryz.runUnderlying30 Tryz.sizeOf35 kr kr u2) ?_
   refine wY (.agg #[I ((ofV a0.v c0 b0).1.w), I ((ofV a0.v c0 b0).1.h), I ((ofV a0.v c0 b0).1.max_)]) rfl (fun w hF => Y_loadF rfl (Tryz.isAgg35 w) (Tryz.sizeOf35 w) kr rfl ⟨hF 0 _ _ rfl, hF 1 _ _ rfl, hF 2 _ _ rfl, trivial⟩) ?_
   refine wY (.agg #[I o0.w, I o0.h, I o0.max_]) rfl (fun w hF => Y_loadF rfl (Tryz.isAgg35 w) (Tryz.sizeOf35 w) kr rfl ⟨hF 3 _ _ rfl, hF 4 _ _ rfl, hF 5 _ _ rfl, trivial⟩) ?_
   refine wY (.bool (!((((ofV a0.v c0 b0).1.w : Int) == o0.w) && (((ofV a0.v c0 b0).1.h : Int) == o0.h) && (((ofV a0.v c0 b0).1.max_ : Int) == o0.max_)))) rfl (fun w _ => Y_eqS rfl kr kr (eqvn35 _ ((ofV a0.v c0 b0).1.w) ((ofV a0.v c0 b0).1.h) ((ofV a0.v c0 b0).1.max_) o0.w o0.h o0.max_)) ?_
   refine wU [9] ?_
   refine wN ?_
   refine thenK_n ?_
   have r4 : ((ofV a0.v c0 b0).1.w : Int) = o0.w ∧ ((ofV a0.v c0 b0).1.h : Int) = o0.h ∧ ((ofV a0.v c0 b0).1.max_ : Int) = o0.max_ := by rw [hof, show xo = o0 from Option.some.inj (hxo.symm.trans hl0_x_103)]; exact ⟨rfl, rfl, rfl⟩
   refine cF _ (congrArg Bool.not (show ((((ofV a0.v c0 b0).1.w : Int) == o0.w) && (((ofV a0.v c0 b0).1.h : Int) == o0.h) && (((ofV a0.v c0 b0).1.max_ : Int) == o0.max_)) = true from by simpa [and_assoc] using r4)) ?_
   refine skipE <| blockK_n <| thenK_n <| regionE <| pu1 ?_
   refine sAdd ((i : Nat) : Int) 1 ?_
   refine pu1 <| nT ?_
   have s4 := (q4.drops [0, 0, 0, 0])
   exact ⟨i + 1, od, alA, s4, om⟩
  refine qO rfl ?_
  refine sAlloc q2 Tryz.zeroValue35 ?_
  intro i2 _ k0
  refine nilO ⟨⟨.inr (k0.cell 3 rfl rfl), .inr (k0.cell 3 rfl rfl), .inr (k0.cell 3 rfl rfl), .inr (k0.cell 3 rfl rfl), .inr (k0.cell 3 rfl rfl), .inr (k0.cell 3 rfl rfl), .inr (k0.cell 3 rfl rfl), .inr (k0.cell 3 rfl rfl), .inr (k0.cell 3 rfl rfl), .inr (k0.cell 3 rfl rfl), .inr (k0.cell 3 rfl rfl), .inr (k0.cell 3 rfl rfl), .inr (k0.cell 3 rfl rfl), .inr (k0.cell 3 rfl rfl), .inr (k0.cell 3 rfl rfl), .inr (k0.cell 3 rfl rfl), .inr (k0.cell 3 rfl rfl), .inr (k0.cell 3 rfl rfl), .inr (k0.cell 3 rfl rfl), .inr ((e1.up 4 rfl).cell k0 (k := 0) rfl), .inr ((e1.up 4 rfl).cell k0 (k := 1) rfl), .inr ((e1.up 4 rfl).cell k0 (k := 2) rfl), .inr (k0.cell 2 rfl rfl), .inr (k0.cell 2 rfl rfl), .inr (k0.cell 2 rfl rfl), trivial⟩, ?_⟩
  refine qO rfl ?_
  refine cR Tryz.call11 (p15_of a0 c0 b0 ⟨(RdT.flat ((e0.stagesD a0 (List.mem_of_getElem? g0)).weights.up 7 (by rfl))), (RdT.flat ((e0.stagesD a0 (List.mem_of_getElem? g0)).row.up 7 (by rfl))), (RdT.flat ((e0.stagesD a0 (List.mem_of_getElem? g0)).col.up 7 (by rfl))), (RdT.flat ((e0.stagesD a0 (List.mem_of_getElem? g0)).x.up 7 (by rfl))), (fun z hz => ((e0.stagesD a0 (List.mem_of_getElem? g0)).xD z hz).of_mem (mem_flat1 7 (by rfl))), (RdT.flat ((e0.stagesD a0 (List.mem_of_getElem? g0)).y.up 7 (by rfl))), (fun z hz => ((e0.stagesD a0 (List.mem_of_getElem? g0)).yD z hz).of_mem (mem_flat1 7 (by rfl))), (RdT.flat ((e0.stagesD a0 (List.mem_of_getElem? g0)).ops.up 7 (by rfl)))⟩ (Sat.flat k0)) ?_
  intro _ v2
  have ea : shpAt l0 a0.v.a = c0 := by unfold shpAt; rw [show l0[(a0.v.a).toNat]? = some c0 from hl0_x_86]; rfl
  have eb : (if twoP a0.v then shpAt l0 a0.v.b else ⟨0, 0, 0⟩) = b0 := by rw [if_pos htw]; unfold shpAt; rw [show l0[(a0.v.b).toNat]? = some b0 from hl0_x_78]; rfl
  obtain ⟨xo, hxo⟩ : ∃ y, l0[i]? = some y := ⟨_, List.getElem?_eq_getElem om⟩
  have hof : ofV a0.v c0 b0 = (xo, 0) := by have h := run_st hgd hrn (map_at (f := Stage.v) g0) hxo (by rw [List.length_map]; omega); rw [ea, eb] at h; exact h
  refine nilO ⟨⟨dI, dI, dI, dI, dI, dI, dI, dI, dI, dI, dI, dI, dI, dI, dI, dI, dI, dI, .inr (v2.cell 3 rfl rfl), dI, dI, dI, dI, dI, dI, trivial⟩, ?_⟩
  refine qU [8] <| qU [9] <| qU [10] ?_
  refine qO rfl ?_
  refine sT v2 0 0 (.agg #[I ((ofV a0.v c0 b0).1.w), I ((ofV a0.v c0 b0).1.h), I ((ofV a0.v c0 b0).1.max_)]) [I ((ofV a0.v c0 b0).1.w), I ((ofV a0.v c0 b0).1.h), I ((ofV a0.v c0 b0).1.max_)] #[I ((ofV a0.v c0 b0).1.w), I ((ofV a0.v c0 b0).1.h), I ((ofV a0.v c0 b0).1.max_)] Tryz.sizeOf35 ?_
  intro _ a1
  refine nilO ⟨dA, ?_⟩
  refine qU [13] ?_
  refine qN ?_
  refine thenK_n <| seqE ?_
  have t4 : ((ofV a0.v c0 b0).2 : Int) = 0 := by rw [hof]
  obtain ⟨p0, s1, t1, w2, u1, x2, q6⟩ := OwnT.elem v0 ((i : Nat) : Int)
  rw [Int.toNat_natCast] at w2 u1 x2
  have hl0_x_122 : l0[i]? = some p0 := by have h := w2; rw [hsh] at h; exact h
  refine drawE [] [(3, ⟨i2, 0, none⟩, I ((ofV a0.v c0 b0).1.w)), (3, ⟨i2, 1, none⟩, I ((ofV a0.v c0 b0).1.h)), (3, ⟨i2, 2, none⟩, I ((ofV a0.v c0 b0).1.max_)), (7, ⟨s1, t1 + i * 3 + 0, none⟩, I p0.w), (7, ⟨s1, t1 + i * 3 + 1, none⟩, I p0.h), (7, ⟨s1, t1 + i * 3 + 2, none⟩, I p0.max_)] [(true, [0, 1, 2]), (true, [4, 5]), (true, [6]), (true, [3]), (true, [7]), (true, [8]), (true, [9])] rfl kr ⟨.inr (a1.cell 0 rfl rfl), .inr (a1.cell 0 rfl rfl), .inr (a1.cell 0 rfl rfl), .inr ((u1.up 4 rfl).cell a1 (k := 0) rfl), .inr ((u1.up 4 rfl).cell a1 (k := 1) rfl), .inr ((u1.up 4 rfl).cell a1 (k := 2) rfl), trivial⟩ ?_
  have u4 := a1.drew
  refine wU [0, 1, 2] ?_
  refine wFix 91 _ false (bne_eq_false_iff_eq.2 t4) ?_
  refine wU [4, 5] ?_
  refine wY (.pointer (some ⟨s1, t1 + i * 3, none⟩)) rfl (fun w _ => Y_idx (a := w0) (i := ((i : Nat) : Int)) (len := u0) (cap := x0) rfl Tryz.runUnderlying30 Tryz.sizeOf35 kr kr x2) ?_
  refine wY (.agg #[I ((ofV a0.v c0 b0).1.w), I ((ofV a0.v c0 b0).1.h), I ((ofV a0.v c0 b0).1.max_)]) rfl (fun w hF => Y_loadF rfl (Tryz.isAgg35 w) (Tryz.sizeOf35 w) kr rfl ⟨hF 0 _ _ rfl, hF 1 _ _ rfl, hF 2 _ _ rfl, trivial⟩) ?_
  refine wY (.agg #[I p0.w, I p0.h, I p0.max_]) rfl (fun w hF => Y_loadF rfl (Tryz.isAgg35 w) (Tryz.sizeOf35 w) kr rfl ⟨hF 3 _ _ rfl, hF 4 _ _ rfl, hF 5 _ _ rfl, trivial⟩) ?_
  refine wY (.bool (!((((ofV a0.v c0 b0).1.w : Int) == p0.w) && (((ofV a0.v c0 b0).1.h : Int) == p0.h) && (((ofV a0.v c0 b0).1.max_ : Int) == p0.max_)))) rfl (fun w _ => Y_eqS rfl kr kr (eqvn35 _ ((ofV a0.v c0 b0).1.w) ((ofV a0.v c0 b0).1.h) ((ofV a0.v c0 b0).1.max_) p0.w p0.h p0.max_)) ?_
  refine wU [9] ?_
  refine wN ?_
  refine thenK_n ?_
  have v4 : ((ofV a0.v c0 b0).1.w : Int) = p0.w ∧ ((ofV a0.v c0 b0).1.h : Int) = p0.h ∧ ((ofV a0.v c0 b0).1.max_ : Int) = p0.max_ := by rw [hof, show xo = p0 from Option.some.inj (hxo.symm.trans hl0_x_122)]; exact ⟨rfl, rfl, rfl⟩
  refine cF _ (congrArg Bool.not (show ((((ofV a0.v c0 b0).1.w : Int) == p0.w) && (((ofV a0.v c0 b0).1.h : Int) == p0.h) && (((ofV a0.v c0 b0).1.max_ : Int) == p0.max_)) = true from by simpa [and_assoc] using v4)) ?_
  refine skipE <| blockK_n <| thenK_n <| regionE <| pu1 ?_
  refine sAdd ((i : Nat) : Int) 1 ?_
  refine pu1 <| nT ?_
  have w4 := (u4.drops [0, 0, 0, 0])
  exact ⟨i + 1, od, alA, w4, om⟩
 refine kT <| seqE ?_
 have htw : ¬ twoP a0.v := fun h => by have h2 := srcs_two.2 h; omega
 obtain ⟨d0, v1, w1, x4, f1, y4, r6⟩ := OwnT.elem v0 a0.a
 have hl0_x_132 : l0[(a0.a).toNat]? = some d0 := by have h := x4; rw [hsh] at h; exact h
 refine drawP [7, 11, 12] [(0, ⟨h0, 0, none⟩, I a0.kind), (0, ⟨h0, 1, none⟩, I a0.a), (0, ⟨h0, 2, none⟩, I a0.b), (0, ⟨h0, 3, none⟩, .bool a0.barrier), (0, ⟨h0, 4, none⟩, I a0.edgePolicy), (0, ⟨h0, 5, none⟩, I a0.edgeFill), (0, ⟨h0, 6, none⟩, I a0.kW), (0, ⟨h0, 7, none⟩, I a0.kH), (0, ⟨h0, 8, none⟩, .slice a0.weights.a a0.weights.n a0.weights.k), (0, ⟨h0, 9, none⟩, .slice a0.row.a a0.row.n a0.row.k), (0, ⟨h0, 10, none⟩, .slice a0.col.a a0.col.n a0.col.k), (0, ⟨h0, 11, none⟩, I a0.shift), (0, ⟨h0, 12, none⟩, I a0.shift2), (0, ⟨h0, 13, none⟩, .slice a0.x.a a0.x.n a0.x.k), (0, ⟨h0, 14, none⟩, .slice a0.y.a a0.y.n a0.y.k), (0, ⟨h0, 15, none⟩, I a0.bins), (0, ⟨h0, 16, none⟩, .slice a0.ops.a a0.ops.n a0.ops.k), (0, ⟨h0, 17, none⟩, I a0.max_), (3, ⟨h0, 1, none⟩, I a0.a), (5, ⟨v1, w1 + (a0.a).toNat * 3 + 0, none⟩, I d0.w), (5, ⟨v1, w1 + (a0.a).toNat * 3 + 1, none⟩, I d0.h), (5, ⟨v1, w1 + (a0.a).toNat * 3 + 2, none⟩, I d0.max_), (6, ⟨d1, 0, none⟩, I 0), (6, ⟨d1, 1, none⟩, I 0), (6, ⟨d1, 2, none⟩, I 0)] (Plan.sts [1, 2] <| Plan.sts [0] <| Plan.sts [3] <| Plan.sts [4] <| Plan.sts [5] <| Plan.sts [6] <| .fk 7 11 (Plan.sts [8] <| Plan.sts [9] <| Plan.sts [10] <| .ef 11 <| .ef 12 <| Plan.sts [13] <| .fin) (.ef 7 <| Plan.sts [8] <| Plan.sts [9] <| Plan.sts [10] <| .ef 12 <| Plan.sts [13] <| .fin)) rfl kr ⟨.inr (i0.cell 2 rfl rfl), .inr (i0.cell 2 rfl rfl), .inr (i0.cell 2 rfl rfl), .inr (i0.cell 2 rfl rfl), .inr (i0.cell 2 rfl rfl), .inr (i0.cell 2 rfl rfl), .inr (i0.cell 2 rfl rfl), .inr (i0.cell 2 rfl rfl), .inr (i0.cell 2 rfl rfl), .inr (i0.cell 2 rfl rfl), .inr (i0.cell 2 rfl rfl), .inr (i0.cell 2 rfl rfl), .inr (i0.cell 2 rfl rfl), .inr (i0.cell 2 rfl rfl), .inr (i0.cell 2 rfl rfl), .inr (i0.cell 2 rfl rfl), .inr (i0.cell 2 rfl rfl), .inr (i0.cell 2 rfl rfl), .inr (i0.cell 2 rfl rfl), .inr ((f1.up 3 rfl).cell i0 (k := 0) rfl), .inr ((f1.up 3 rfl).cell i0 (k := 1) rfl), .inr ((f1.up 3 rfl).cell i0 (k := 2) rfl), .inr (i0.cell 1 rfl rfl), .inr (i0.cell 1 rfl rfl), .inr (i0.cell 1 rfl rfl), trivial⟩ ?_
 have y2 := i0.drew
 refine qU [1, 2] ?_
 refine qY (.agg (encStage a0).toArray) rfl (fun w hF => Y_loadF rfl (Tryz.isAgg44 w) (Tryz.sizeOf44 w) kr rfl ⟨hF 0 _ _ rfl, hF 1 _ _ rfl, hF 2 _ _ rfl, hF 3 _ _ rfl, hF 4 _ _ rfl, hF 5 _ _ rfl, hF 6 _ _ rfl, hF 7 _ _ rfl, hF 8 _ _ rfl, hF 9 _ _ rfl, hF 10 _ _ rfl, hF 11 _ _ rfl, hF 12 _ _ rfl, hF 13 _ _ rfl, hF 14 _ _ rfl, hF 15 _ _ rfl, hF 16 _ _ rfl, hF 17 _ _ rfl, trivial⟩) ?_
 refine qLd (I a0.a) 18 Tryz.isAgg3 ?_
 refine qY (.pointer (some ⟨v1, w1 + (a0.a).toNat * 3, none⟩)) rfl (fun w _ => Y_idx (a := w0) (i := a0.a) (len := u0) (cap := x0) rfl Tryz.runUnderlying30 Tryz.sizeOf35 kr kr y4) ?_
 refine qY (.agg #[I d0.w, I d0.h, I d0.max_]) rfl (fun w hF => Y_loadF rfl (Tryz.isAgg35 w) (Tryz.sizeOf35 w) kr rfl ⟨hF 19 _ _ rfl, hF 20 _ _ rfl, hF 21 _ _ rfl, trivial⟩) ?_
 refine qY (.agg #[I 0, I 0, I 0]) rfl (fun w hF => Y_loadF rfl (Tryz.isAgg35 w) (Tryz.sizeOf35 w) kr rfl ⟨hF 22 _ _ rfl, hF 23 _ _ rfl, hF 24 _ _ rfl, trivial⟩) ?_
 refine qF ?_ ?_
 ·refine qO rfl ?_
  refine cR Tryz.call11 (p15_of a0 d0 (⟨0, 0, 0⟩ : Shape) ⟨(RdT.flat ((e0.stagesD a0 (List.mem_of_getElem? g0)).weights.up 6 (by rfl))), (RdT.flat ((e0.stagesD a0 (List.mem_of_getElem? g0)).row.up 6 (by rfl))), (RdT.flat ((e0.stagesD a0 (List.mem_of_getElem? g0)).col.up 6 (by rfl))), (RdT.flat ((e0.stagesD a0 (List.mem_of_getElem? g0)).x.up 6 (by rfl))), (fun z hz => ((e0.stagesD a0 (List.mem_of_getElem? g0)).xD z hz).of_mem (mem_flat1 6 (by rfl))), (RdT.flat ((e0.stagesD a0 (List.mem_of_getElem? g0)).y.up 6 (by rfl))), (fun z hz => ((e0.stagesD a0 (List.mem_of_getElem? g0)).yD z hz).of_mem (mem_flat1 6 (by rfl))), (RdT.flat ((e0.stagesD a0 (List.mem_of_getElem? g0)).ops.up 6 (by rfl)))⟩ (Sat.flat y2)) ?_
  intro _ z2
  have ea : shpAt l0 a0.v.a = d0 := by unfold shpAt; rw [show l0[(a0.v.a).toNat]? = some d0 from hl0_x_132]; rfl
  have eb : (if twoP a0.v then shpAt l0 a0.v.b else ⟨0, 0, 0⟩) = (⟨0, 0, 0⟩ : Shape) := by rw [if_neg htw]
  obtain ⟨xo, hxo⟩ : ∃ y, l0[i]? = some y := ⟨_, List.getElem?_eq_getElem om⟩
  have hof : ofV a0.v d0 (⟨0, 0, 0⟩ : Shape) = (xo, 0) := by have h := run_st hgd hrn (map_at (f := Stage.v) g0) hxo (by rw [List.length_map]; omega); rw [ea, eb] at h; exact h
  refine nilO ⟨⟨dI, dI, dI, dI, dI, dI, dI, dI, dI, dI, dI, dI, dI, dI, dI, dI, dI, dI, .inr (z2.cell 2 rfl rfl), dI, dI, dI, dI, dI, dI, trivial⟩, ?_⟩
  refine qU [8] <| qU [9] <| qU [10] ?_
  refine qO rfl ?_
  refine sAlloc z2 Tryz.zeroValue35 ?_
  intro j2 _ a3
  refine nilO ⟨⟨dI, dI, dI, dI, dI, dI, dI, dI, dI, dI, dI, dI, dI, dI, dI, dI, dI, dI, .inr (a3.cell 3 rfl rfl), dI, dI, dI, dI, dI, dI, trivial⟩, ?_⟩
  refine qO rfl ?_
  refine sT a3 0 0 (.agg #[I ((ofV a0.v d0 (⟨0, 0, 0⟩ : Shape)).1.w), I ((ofV a0.v d0 (⟨0, 0, 0⟩ : Shape)).1.h), I ((ofV a0.v d0 (⟨0, 0, 0⟩ : Shape)).1.max_)]) [I ((ofV a0.v d0 (⟨0, 0, 0⟩ : Shape)).1.w), I ((ofV a0.v d0 (⟨0, 0, 0⟩ : Shape)).1.h), I ((ofV a0.v d0 (⟨0, 0, 0⟩ : Shape)).1.max_)] #[I ((ofV a0.v d0 (⟨0, 0, 0⟩ : Shape)).1.w), I ((ofV a0.v d0 (⟨0, 0, 0⟩ : Shape)).1.h), I ((ofV a0.v d0 (⟨0, 0, 0⟩ : Shape)).1.max_)] Tryz.sizeOf35 ?_
  intro _ b1
  refine nilO ⟨dA, ?_⟩
  refine qU [13] ?_
  refine qN ?_
  refine thenK_n <| seqE ?_
  have z4 : ((ofV a0.v d0 (⟨0, 0, 0⟩ : Shape)).2 : Int) = 0 := by rw [hof]
  obtain ⟨q0, x1, y1, b3, z1, c3, v6⟩ := OwnT.elem v0 ((i : Nat) : Int)
  rw [Int.toNat_natCast] at b3 z1 c3
  have hl0_x_149 : l0[i]? = some q0 := by have h := b3; rw [hsh] at h; exact h
  refine drawE [] [(3, ⟨j2, 0, none⟩, I ((ofV a0.v d0 (⟨0, 0, 0⟩ : Shape)).1.w)), (3, ⟨j2, 1, none⟩, I ((ofV a0.v d0 (⟨0, 0, 0⟩ : Shape)).1.h)), (3, ⟨j2, 2, none⟩, I ((ofV a0.v d0 (⟨0, 0, 0⟩ : Shape)).1.max_)), (7, ⟨x1, y1 + i * 3 + 0, none⟩, I q0.w), (7, ⟨x1, y1 + i * 3 + 1, none⟩, I q0.h), (7, ⟨x1, y1 + i * 3 + 2, none⟩, I q0.max_)] [(true, [0, 1, 2]), (true, [4, 5]), (true, [6]), (true, [3]), (true, [7]), (true, [8]), (true, [9])] rfl kr ⟨.inr (b1.cell 0 rfl rfl), .inr (b1.cell 0 rfl rfl), .inr (b1.cell 0 rfl rfl), .inr ((z1.up 4 rfl).cell b1 (k := 0) rfl), .inr ((z1.up 4 rfl).cell b1 (k := 1) rfl), .inr ((z1.up 4 rfl).cell b1 (k := 2) rfl), trivial⟩ ?_
  have a5 := b1.drew
  refine wU [0, 1, 2] ?_
  refine wFix 91 _ false (bne_eq_false_iff_eq.2 z4) ?_
  refine wU [4, 5] ?_
  refine wY (.pointer (some ⟨x1, y1 + i * 3, none⟩)) rfl (fun w _ => Y_idx (a := w0) (i := ((i : Nat) : Int)) (len := u0) (cap := x0) rfl Tryz.runUnderlying30 Tryz.sizeOf35 kr kr c3) ?_
  refine wY (.agg #[I ((ofV a0.v d0 (⟨0, 0, 0⟩ : Shape)).1.w), I ((ofV a0.v d0 (⟨0, 0, 0⟩ : Shape)).1.h), I ((ofV a0.v d0 (⟨0, 0, 0⟩ : Shape)).1.max_)]) rfl (fun w hF => Y_loadF rfl (Tryz.isAgg35 w) (Tryz.sizeOf35 w) kr rfl ⟨hF 0 _ _ rfl, hF 1 _ _ rfl, hF 2 _ _ rfl, trivial⟩) ?_
  refine wY (.agg #[I q0.w, I q0.h, I q0.max_]) rfl (fun w hF => Y_loadF rfl (Tryz.isAgg35 w) (Tryz.sizeOf35 w) kr rfl ⟨hF 3 _ _ rfl, hF 4 _ _ rfl, hF 5 _ _ rfl, trivial⟩) ?_
  refine wY (.bool (!((((ofV a0.v d0 (⟨0, 0, 0⟩ : Shape)).1.w : Int) == q0.w) && (((ofV a0.v d0 (⟨0, 0, 0⟩ : Shape)).1.h : Int) == q0.h) && (((ofV a0.v d0 (⟨0, 0, 0⟩ : Shape)).1.max_ : Int) == q0.max_)))) rfl (fun w _ => Y_eqS rfl kr kr (eqvn35 _ ((ofV a0.v d0 (⟨0, 0, 0⟩ : Shape)).1.w) ((ofV a0.v d0 (⟨0, 0, 0⟩ : Shape)).1.h) ((ofV a0.v d0 (⟨0, 0, 0⟩ : Shape)).1.max_) q0.w q0.h q0.max_)) ?_
  refine wU [9] ?_
  refine wN ?_
  refine thenK_n ?_
  have b5 : ((ofV a0.v d0 (⟨0, 0, 0⟩ : Shape)).1.w : Int) = q0.w ∧ ((ofV a0.v d0 (⟨0, 0, 0⟩ : Shape)).1.h : Int) = q0.h ∧ ((ofV a0.v d0 (⟨0, 0, 0⟩ : Shape)).1.max_ : Int) = q0.max_ := by rw [hof, show xo = q0 from Option.some.inj (hxo.symm.trans hl0_x_149)]; exact ⟨rfl, rfl, rfl⟩
  refine cF _ (congrArg Bool.not (show ((((ofV a0.v d0 (⟨0, 0, 0⟩ : Shape)).1.w : Int) == q0.w) && (((ofV a0.v d0 (⟨0, 0, 0⟩ : Shape)).1.h : Int) == q0.h) && (((ofV a0.v d0 (⟨0, 0, 0⟩ : Shape)).1.max_ : Int) == q0.max_)) = true from by simpa [and_assoc] using b5)) ?_
  refine skipE <| blockK_n <| thenK_n <| regionE <| pu1 ?_
  refine sAdd ((i : Nat) : Int) 1 ?_
  refine pu1 <| nT ?_
  have c5 := (a5.drops [0, 0, 0, 0])
  exact ⟨i + 1, od, alA, c5, om⟩
 refine qO rfl ?_
 refine sAlloc y2 Tryz.zeroValue35 ?_
 intro k2 _ m0
 refine nilO ⟨⟨.inr (m0.cell 3 rfl rfl), .inr (m0.cell 3 rfl rfl), .inr (m0.cell 3 rfl rfl), .inr (m0.cell 3 rfl rfl), .inr (m0.cell 3 rfl rfl), .inr (m0.cell 3 rfl rfl), .inr (m0.cell 3 rfl rfl), .inr (m0.cell 3 rfl rfl), .inr (m0.cell 3 rfl rfl), .inr (m0.cell 3 rfl rfl), .inr (m0.cell 3 rfl rfl), .inr (m0.cell 3 rfl rfl), .inr (m0.cell 3 rfl rfl), .inr (m0.cell 3 rfl rfl), .inr (m0.cell 3 rfl rfl), .inr (m0.cell 3 rfl rfl), .inr (m0.cell 3 rfl rfl), .inr (m0.cell 3 rfl rfl), .inr (m0.cell 3 rfl rfl), .inr ((f1.up 4 rfl).cell m0 (k := 0) rfl), .inr ((f1.up 4 rfl).cell m0 (k := 1) rfl), .inr ((f1.up 4 rfl).cell m0 (k := 2) rfl), .inr (m0.cell 2 rfl rfl), .inr (m0.cell 2 rfl rfl), .inr (m0.cell 2 rfl rfl), trivial⟩, ?_⟩
 refine qO rfl ?_
 refine cR Tryz.call11 (p15_of a0 d0 (⟨0, 0, 0⟩ : Shape) ⟨(RdT.flat ((e0.stagesD a0 (List.mem_of_getElem? g0)).weights.up 7 (by rfl))), (RdT.flat ((e0.stagesD a0 (List.mem_of_getElem? g0)).row.up 7 (by rfl))), (RdT.flat ((e0.stagesD a0 (List.mem_of_getElem? g0)).col.up 7 (by rfl))), (RdT.flat ((e0.stagesD a0 (List.mem_of_getElem? g0)).x.up 7 (by rfl))), (fun z hz => ((e0.stagesD a0 (List.mem_of_getElem? g0)).xD z hz).of_mem (mem_flat1 7 (by rfl))), (RdT.flat ((e0.stagesD a0 (List.mem_of_getElem? g0)).y.up 7 (by rfl))), (fun z hz => ((e0.stagesD a0 (List.mem_of_getElem? g0)).yD z hz).of_mem (mem_flat1 7 (by rfl))), (RdT.flat ((e0.stagesD a0 (List.mem_of_getElem? g0)).ops.up 7 (by rfl)))⟩ (Sat.flat m0)) ?_
 intro _ d3
 have ea : shpAt l0 a0.v.a = d0 := by unfold shpAt; rw [show l0[(a0.v.a).toNat]? = some d0 from hl0_x_132]; rfl
 have eb : (if twoP a0.v then shpAt l0 a0.v.b else ⟨0, 0, 0⟩) = (⟨0, 0, 0⟩ : Shape) := by rw [if_neg htw]
 obtain ⟨xo, hxo⟩ : ∃ y, l0[i]? = some y := ⟨_, List.getElem?_eq_getElem om⟩
 have hof : ofV a0.v d0 (⟨0, 0, 0⟩ : Shape) = (xo, 0) := by have h := run_st hgd hrn (map_at (f := Stage.v) g0) hxo (by rw [List.length_map]; omega); rw [ea, eb] at h; exact h
 refine nilO ⟨⟨dI, dI, dI, dI, dI, dI, dI, dI, dI, dI, dI, dI, dI, dI, dI, dI, dI, dI, .inr (d3.cell 3 rfl rfl), dI, dI, dI, dI, dI, dI, trivial⟩, ?_⟩
 refine qU [8] <| qU [9] <| qU [10] ?_
 refine qO rfl ?_
 refine sT d3 0 0 (.agg #[I ((ofV a0.v d0 (⟨0, 0, 0⟩ : Shape)).1.w), I ((ofV a0.v d0 (⟨0, 0, 0⟩ : Shape)).1.h), I ((ofV a0.v d0 (⟨0, 0, 0⟩ : Shape)).1.max_)]) [I ((ofV a0.v d0 (⟨0, 0, 0⟩ : Shape)).1.w), I ((ofV a0.v d0 (⟨0, 0, 0⟩ : Shape)).1.h), I ((ofV a0.v d0 (⟨0, 0, 0⟩ : Shape)).1.max_)] #[I ((ofV a0.v d0 (⟨0, 0, 0⟩ : Shape)).1.w), I ((ofV a0.v d0 (⟨0, 0, 0⟩ : Shape)).1.h), I ((ofV a0.v d0 (⟨0, 0, 0⟩ : Shape)).1.max_)] Tryz.sizeOf35 ?_
 intro _ c1
 refine nilO ⟨dA, ?_⟩
 refine qU [13] ?_
 refine qN ?_
 refine thenK_n <| seqE ?_
 have d5 : ((ofV a0.v d0 (⟨0, 0, 0⟩ : Shape)).2 : Int) = 0 := by rw [hof]
 obtain ⟨r0, a2, b2, e3, c2, f3, z6⟩ := OwnT.elem v0 ((i : Nat) : Int)
 rw [Int.toNat_natCast] at e3 c2 f3
 have hl0_x_168 : l0[i]? = some r0 := by have h := e3; rw [hsh] at h; exact h
 refine drawE [] [(3, ⟨k2, 0, none⟩, I ((ofV a0.v d0 (⟨0, 0, 0⟩ : Shape)).1.w)), (3, ⟨k2, 1, none⟩, I ((ofV a0.v d0 (⟨0, 0, 0⟩ : Shape)).1.h)), (3, ⟨k2, 2, none⟩, I ((ofV a0.v d0 (⟨0, 0, 0⟩ : Shape)).1.max_)), (7, ⟨a2, b2 + i * 3 + 0, none⟩, I r0.w), (7, ⟨a2, b2 + i * 3 + 1, none⟩, I r0.h), (7, ⟨a2, b2 + i * 3 + 2, none⟩, I r0.max_)] [(true, [0, 1, 2]), (true, [4, 5]), (true, [6]), (true, [3]), (true, [7]), (true, [8]), (true, [9])] rfl kr ⟨.inr (c1.cell 0 rfl rfl), .inr (c1.cell 0 rfl rfl), .inr (c1.cell 0 rfl rfl), .inr ((c2.up 4 rfl).cell c1 (k := 0) rfl), .inr ((c2.up 4 rfl).cell c1 (k := 1) rfl), .inr ((c2.up 4 rfl).cell c1 (k := 2) rfl), trivial⟩ ?_
 have e5 := c1.drew
 refine wU [0, 1, 2] ?_
 refine wFix 91 _ false (bne_eq_false_iff_eq.2 d5) ?_
 refine wU [4, 5] ?_
 refine wY (.pointer (some ⟨a2, b2 + i * 3, none⟩)) rfl (fun w _ => Y_idx (a := w0) (i := ((i : Nat) : Int)) (len := u0) (cap := x0) rfl Tryz.runUnderlying30 Tryz.sizeOf35 kr kr f3) ?_
 refine wY (.agg #[I ((ofV a0.v d0 (⟨0, 0, 0⟩ : Shape)).1.w), I ((ofV a0.v d0 (⟨0, 0, 0⟩ : Shape)).1.h), I ((ofV a0.v d0 (⟨0, 0, 0⟩ : Shape)).1.max_)]) rfl (fun w hF => Y_loadF rfl (Tryz.isAgg35 w) (Tryz.sizeOf35 w) kr rfl ⟨hF 0 _ _ rfl, hF 1 _ _ rfl, hF 2 _ _ rfl, trivial⟩) ?_
 refine wY (.agg #[I r0.w, I r0.h, I r0.max_]) rfl (fun w hF => Y_loadF rfl (Tryz.isAgg35 w) (Tryz.sizeOf35 w) kr rfl ⟨hF 3 _ _ rfl, hF 4 _ _ rfl, hF 5 _ _ rfl, trivial⟩) ?_
 refine wY (.bool (!((((ofV a0.v d0 (⟨0, 0, 0⟩ : Shape)).1.w : Int) == r0.w) && (((ofV a0.v d0 (⟨0, 0, 0⟩ : Shape)).1.h : Int) == r0.h) && (((ofV a0.v d0 (⟨0, 0, 0⟩ : Shape)).1.max_ : Int) == r0.max_)))) rfl (fun w _ => Y_eqS rfl kr kr (eqvn35 _ ((ofV a0.v d0 (⟨0, 0, 0⟩ : Shape)).1.w) ((ofV a0.v d0 (⟨0, 0, 0⟩ : Shape)).1.h) ((ofV a0.v d0 (⟨0, 0, 0⟩ : Shape)).1.max_) r0.w r0.h r0.max_)) ?_
 refine wU [9] ?_
 refine wN ?_
 refine thenK_n ?_
 have f5 : ((ofV a0.v d0 (⟨0, 0, 0⟩ : Shape)).1.w : Int) = r0.w ∧ ((ofV a0.v d0 (⟨0, 0, 0⟩ : Shape)).1.h : Int) = r0.h ∧ ((ofV a0.v d0 (⟨0, 0, 0⟩ : Shape)).1.max_ : Int) = r0.max_ := by rw [hof, show xo = r0 from Option.some.inj (hxo.symm.trans hl0_x_168)]; exact ⟨rfl, rfl, rfl⟩
 refine cF _ (congrArg Bool.not (show ((((ofV a0.v d0 (⟨0, 0, 0⟩ : Shape)).1.w : Int) == r0.w) && (((ofV a0.v d0 (⟨0, 0, 0⟩ : Shape)).1.h : Int) == r0.h) && (((ofV a0.v d0 (⟨0, 0, 0⟩ : Shape)).1.max_ : Int) == r0.max_)) = true from by simpa [and_assoc] using f5)) ?_
 refine skipE <| blockK_n <| thenK_n <| regionE <| pu1 ?_
 refine sAdd ((i : Nat) : Int) 1 ?_
 refine pu1 <| nT ?_
 have g5 := (e5.drops [0, 0, 0, 0])
 exact ⟨i + 1, od, alA, g5, om⟩
end Go.Proofs.YtbofcpnngniopaaGreat
