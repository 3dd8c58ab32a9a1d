import Derived.Test.YtcddcpaodcjecaaSame
import Derived.Test.YtcddcpaodcjecaaTape
import Derived.Test.YtcddcpaodcjecaaDec
namespace Go.Proofs.Ytcddcpaodcjecaa
open Go Go.E
set_option linter.unusedVariables false
set_option linter.unusedSimpArgs false
set_option linter.unnecessarySimpa false
set_option maxRecDepth 100000
set_option maxHeartbeats 2000000

-- squeezed
theorem DecR.of_enc {x : List Int} {j0 j : JobV} {c : Int} (h : DecR x j c) (hw : wfJob j0) (hx : x = [84, 70, 1] ++ bytesOf (nJob j0)) (hl : x.length ≤ 262144) : c = 0 ∧ j = j0 := by
  have h0 := h.all hl j0 hw hx
  obtain ⟨h1, _, h3⟩ := h.ok h0
  rw [hx] at h3
  exact ⟨h0, ((pfJob j0 j [] [] hw h1 (by simpa using h3)).1).symm⟩
theorem DecR.not {x : List Int} {j : JobV} {c : Int} (h : DecR x j c) (hl : x.length ≤ 262144) (hn : x.take 3 ≠ [84, 70, 1]) : c = 4 ∧ j = ⟨[], [], [], 0⟩ := by
  by_cases h0 : c = 0
  · obtain ⟨_, _, h3⟩ := h.ok h0
    rw [h3] at hn; simp at hn
  · obtain ⟨h1, h2⟩ := h.bad h0
    rw [if_neg (by omega)] at h2
    exact ⟨h2, h1⟩
theorem DecR.code {x : List Int} {j : JobV} {c : Int} (h : DecR x j c) : c = 0 ∨ (c = 5 ∧ 262144 < x.length) ∨ (c = 4 ∧ x.length ≤ 262144) := by
  by_cases h0 : c = 0
  · exact .inl h0
  · obtain ⟨_, h2⟩ := h.bad h0
    by_cases h3 : 262144 < x.length
    · rw [if_pos h3] at h2; omega
    · rw [if_neg h3] at h2; omega
theorem enc_bytes (l : List Int) : Bytes ([84, 70, 1] ++ bytesOf l) := Bytes.app (by intro b hb; simp at hb; omega) (bytesOf_bytes l)
theorem enc_len (l : List Int) : ([84, 70, 1] ++ bytesOf l).length = 3 + 8 * l.length := by rw [List.length_append, bytesOf_len]; rfl
theorem zeros_bytes (n : Nat) : Bytes (List.replicate n 0) := by intro b hb; have := List.eq_of_mem_replicate hb; omega
theorem wf_zero : wfJob (Job.v ⟨⟨none, 0, 0, []⟩, ⟨none, 0, 0, []⟩, ⟨none, 0, 0, []⟩, 0⟩) := by
  refine ⟨?_, ?_, ?_, ?_⟩
  · unfold WfI; decide
  all_goals (refine ⟨by unfold WfI; decide, ?_⟩; intro z hz; cases hz)
theorem l19_sane (W w : World) (cs : List Chunk) (hS : Sat W w cs) :
  Calls Try.prog 13 #[] w fun e w' => e = .returned (.bool true) ∧ Sat W w' cs := by
 refine callsE (n := 48) Try.func13 rfl rfl (Nat.le_of_ble_eq_true rfl) ?_
 refine sR <| pu1 <| nT <| sR <| pu1 ?_
 refine sF #[.agg #[.slice none 0 0, .slice none 0 0, .slice none 0 0, I 0]] Try.call11 (Calls.mono (codec_encode W _ _ [] (⟨⟨none, 0, 0, []⟩, ⟨none, 0, 0, []⟩, ⟨none, 0, 0, []⟩, 0⟩ : Job) ⟨(RdT.nil (enc := encPlane) (sz := 4) fR _), (fun z hz => by cases hz), (RdT.nil (enc := encStage) (sz := 18) fR _), (fun z hz => by cases hz), (RdT.nil (enc := encI) (sz := 1) fR _)⟩ (Sat.flat hS)) ?_)
 rintro _ _ (⟨j0, w0, d0, x0, k0, rfl, c0, e0⟩ | ⟨j0, rfl, e0⟩)
 ·refine ⟨_, rfl, ?_⟩
  have l0 := Sat.unflat1 e0; clear e0
  change Sat _ _ (k0 :: cs) at l0
  have hn_a_5 := c0.len; rw [enc_len] at hn_a_5; have hle_a_5 := c0.le
  refine pu5 <| nT <| sR <| pu1 ?_
  refine sF #[.slice w0 d0 x0] Try.call17 (Calls.mono (codec_decode W _ _ [] _ _ _ ([84, 70, 1] ++ bytesOf (nJob (⟨⟨none, 0, 0, []⟩, ⟨none, 0, 0, []⟩, ⟨none, 0, 0, []⟩, 0⟩ : Job).v)) (RdT.flat (c0.rdAt 0 (by rfl))) (enc_bytes _) (Sat.flat l0)) ?_)
  rintro _ _ ⟨a0, y0, z0, rfl, b0, a1, m0⟩
  refine ⟨_, rfl, ?_⟩
  have n0 := Sat.unflat1 m0; clear m0
  change Sat _ _ (y0 :: k0 :: cs) at n0
  refine pu3 ?_
  refine sAlloc n0 Try.zeroValue28 ?_
  intro _ _ b1
  refine sT b1 0 0 (.agg (encJob a0).toArray) (encJob a0) (encJob a0).toArray Try.sizeOf28 ?_
  intro _ c1
  refine pu1 <| nilO ?_
  obtain ⟨hc0, hj0⟩ := DecR.of_enc a1 wf_zero rfl (by decide)
  refine thenK_n <| sR ?_
  refine sBS c1 #[.int .u8 84, .int .u8 70, .int .u8 2] Try.runUnderlying31 Try.sizeOf5 Try.zeroValue5 ?_
  intro d1 _ e1
  refine sF #[.slice (At d1 0) 3 3] Try.call17 (Calls.mono (codec_decode W _ _ [] _ _ _ ([84, 70, 2]) (RdT.flat (RdT.blk (enc := encB) (sz := 1) (xs := [84, 70, 2]) (fun _ => (by rfl)) 3 0 rfl rfl rfl om)) (by intro b hb; simp at hb; omega) (Sat.flat e1)) ?_)
  rintro _ _ ⟨f0, _, f1, rfl, _, g1, o0⟩
  refine ⟨_, rfl, ?_⟩
  have p0 := Sat.unflat1 o0; clear o0
  try dsimp only [List.set, List.eraseIdx, Value.cells] at p0
  refine pu3 ?_
  refine sAlloc p0 Try.zeroValue28 ?_
  intro _ _ h1
  refine sT h1 0 0 (.agg (encJob f0).toArray) (encJob f0) (encJob f0).toArray Try.sizeOf28 ?_
  intro _ g0
  refine pu1 <| nilO ?_
  obtain ⟨hc1, hj1⟩ := DecR.not g1 (by decide) (by decide)
  have hn : d0 = 35 := by have h := hn_a_5; exact h.symm.trans (by decide)
  refine thenK_n <| sR <| pu8 ?_
  by_cases q0 : (((d0 : Nat) : Int) : Int) = 35
  rotate_left
  ·refine sFix 29 _ false (beq_eq_false_iff_ne.2 q0) ?_
   refine pu16 <| pu3 <| nT <| retE <| retT [.bool false] ?_
   first | (exfalso; omega) | contradiction | (exfalso; simp_all; done)
  refine sFix 29 _ true (beq_iff_eq.2 q0) ?_
  refine pu1 <| gY ?_
  refine sIdxO c0 0 0 Try.runUnderlying31 Try.sizeOf5 ?_
  intro h0 _ _ i1 j1 _
  have hx0 : (84 : Int) = h0 := Option.some.inj i1
  refine gY ?_
  refine sLp g0 (j1.up 5 rfl) 0 (.int .u8 h0) (Try.isAgg5 _) ?_
  refine pu3 ?_
  by_cases r0 : (h0 : Int) = 84
  rotate_left
  ·refine sFix 35 _ false (beq_eq_false_iff_ne.2 r0) ?_
   refine pu13 <| nT <| retE <| retT [.bool false] ?_
   first | (exfalso; omega) | contradiction | (exfalso; simp_all; done)
  refine sFix 35 _ true (beq_iff_eq.2 r0) ?_
  refine pu4 ?_
  by_cases s0 : (z0 : Int) = 0
  rotate_left
  ·refine sFix 39 _ false (beq_eq_false_iff_ne.2 s0) ?_
   refine pu9 <| nT <| retE <| retT [.bool false] ?_
   first | (exfalso; omega) | contradiction | (exfalso; simp_all; done)
  refine sFix 39 _ true (beq_iff_eq.2 s0) ?_
  refine gY ?_
  refine sLA g0 3 0 [.slice a0.inputs.a a0.inputs.n a0.inputs.k, .slice a0.stages.a a0.stages.n a0.stages.k, .slice a0.outputs.a a0.outputs.n a0.outputs.k, I a0.priority] (Try.isAgg28 _) (Try.sizeOf28 _) ?_
  refine pu1 <| gY ?_
  refine sF #[.agg (encJob a0).toArray, .agg #[.slice none 0 0, .slice none 0 0, .slice none 0 0, I 0]] Try.call12 (Calls.mono (r19_same W _ _ [] a0 (⟨⟨none, 0, 0, []⟩, ⟨none, 0, 0, []⟩, ⟨none, 0, 0, []⟩, 0⟩ : Job) ⟨(RdT.flat (b0.inputs.up 4 (by rfl))), (fun z hz => (b0.inputsD z hz).of_mem (mem_flat1 4 (by rfl))), (RdT.flat (b0.stages.up 4 (by rfl))), (fun z hz => (b0.stagesD z hz).of_mem (mem_flat1 4 (by rfl))), (RdT.flat (b0.outputs.up 4 (by rfl)))⟩ ⟨(RdT.nil (enc := encPlane) (sz := 4) fR _), (fun z hz => by cases hz), (RdT.nil (enc := encStage) (sz := 18) fR _), (fun z hz => by cases hz), (RdT.nil (enc := encI) (sz := 1) fR _)⟩ (Sat.flat g0)) ?_)
  rintro _ _ ⟨rfl, t0⟩
  refine ⟨_, rfl, ?_⟩
  have u0 := Sat.unflat t0; clear t0
  try dsimp only [List.set, List.eraseIdx, Value.cells] at u0
  refine pu2 ?_
  rcases Classical.em (a0.v = (⟨⟨none, 0, 0, []⟩, ⟨none, 0, 0, []⟩, ⟨none, 0, 0, []⟩, 0⟩ : Job).v) with i0 | i0
  rotate_left
  ·refine sFix 44 _ false (decide_eq_false i0) ?_
   refine pu4 <| nT <| retE <| retT [.bool false] ?_
   first | (exfalso; omega) | contradiction | (exfalso; simp_all; done)
  refine sFix 44 _ true (decide_eq_true i0) ?_
  refine pu4 <| nT <| retE <| retT [.bool ((f1 : Int) == 4)] ?_
  have v0 := ((((((u0.dropAt 0 rfl).dropAt 0 rfl).dropAt 0 rfl).dropAt 0 rfl).dropAt 0 rfl).dropAt 0 rfl)
  change Sat _ _ (cs) at v0
  exact ⟨congrArg (fun b => Ending.returned (.bool b)) (by first | exact beq_iff_eq.2 om | exact decide_eq_true om | (simp_all; done)), v0⟩
 ·exact absurd j0 (by decide)
theorem DecR.not0 {n : Nat} {j : JobV} {c : Int} (h : DecR (List.replicate n 0) j c) (hn : 0 < n) : c ≠ 0 := by
  intro h0
  obtain ⟨_, _, h3⟩ := h.ok h0
  cases n with
  | zero => omega
  | succ n => rw [List.replicate_succ] at h3; simp at h3
theorem l19_limits (W w : World) (H : Chunk) (F : List Chunk) (n : Int) (_hn : -9223372036854775808 ≤ n ∧ n ≤ 9223372036854775807) (hS : Sat W w (H :: F)) :
  Calls Try.prog 7 #[I n] w fun e w' => e = .returned (.bool true) ∧ Sat W w' (H :: F) := by
 refine callsE (n := 68) Try.func7 rfl rfl (Nat.le_of_ble_eq_true rfl) ?_
 refine sR <| pu1 <| nT <| sR <| pu1 ?_
 refine sF #[I n, I 3] Try.call18 (Calls.mono (mod_ok W _ _ n 3 om om hS) ?_)
 rintro _ _ ⟨a0, rfl, _, o0⟩
 refine ⟨_, rfl, ?_⟩
 change Sat _ _ (H :: F) at o0
 refine pu1 <| nT <| sR <| pu1 ?_
 refine sAdd 32762 a0 ?_
 refine sMake (kl := .i64) (kc := .i64) (enc := encI) (sz := 1) (nb := 8) o0 0 ((32762 + a0)).toNat (32762 + a0) (om : (32762 + a0) = ((((32762 + a0)).toNat : Nat) : Int)) Try.underlying22 (i := Try.t3) kr fR ?_
 intro b0 m0 _ g1 p0
 change Sat _ _ (m0 :: H :: F) at p0
 refine pu1 ?_
 refine sAlloc p0 Try.zeroValue28 ?_
 intro q0 _ h1
 refine sTw h1 0 [.slice none 0 0, .slice none 0 0, .slice (At b0 0) (((32762 + a0)).toNat) (((32762 + a0)).toNat), I 0] Try.sizeOf28 ?_
 intro _ n0
 try dsimp only [List.set, List.eraseIdx, Value.cells] at n0
 refine nT <| seqE ?_
 have hlj : (nJob (⟨⟨none, 0, 0, []⟩, ⟨none, 0, 0, []⟩, ⟨(At b0 0), ((32762 + a0)).toNat, ((32762 + a0)).toNat, (List.replicate ((32762 + a0)).toNat 0)⟩, 0⟩ : Job).v).length = 4 + (32762 + a0).toNat := by simp [nJob, nInts, Job.v]; try omega
 refine regionE ?_
 refine sLA n0 0 0 [.slice none 0 0, .slice none 0 0, .slice (At b0 0) (((32762 + a0)).toNat) (((32762 + a0)).toNat), I 0] (Try.isAgg28 _) (Try.sizeOf28 _) ?_
 refine sF #[.agg #[.slice none 0 0, .slice none 0 0, .slice (At b0 0) (((32762 + a0)).toNat) (((32762 + a0)).toNat), I 0]] Try.call11 (Calls.mono (codec_encode W _ _ [] (⟨⟨none, 0, 0, []⟩, ⟨none, 0, 0, []⟩, ⟨(At b0 0), ((32762 + a0)).toNat, ((32762 + a0)).toNat, (List.replicate ((32762 + a0)).toNat 0)⟩, 0⟩ : Job) ⟨(RdT.nil (enc := encPlane) (sz := 4) fR _), (fun z hz => by cases hz), (RdT.nil (enc := encStage) (sz := 18) fR _), (fun z hz => by cases hz), (RdT.flat (g1.rdAt 1 (by rfl)))⟩ (Sat.flat n0)) ?_)
 rintro _ _ (⟨i1, _, _, _, j1, rfl, r0, d0⟩ | ⟨i1, rfl, d0⟩)
 ·refine ⟨_, rfl, ?_⟩
  have c0 := Sat.unflat1 d0; clear d0
  try dsimp only [List.set, List.eraseIdx, Value.cells] at c0
  have hn_a_19 := r0.len; rw [enc_len] at hn_a_19; have hle_a_19 := r0.le
  refine pu5 <| nT <| sR <| pu1 ?_
  refine sL c0 1 2 (.slice (At b0 0) (((32762 + a0)).toNat) (((32762 + a0)).toNat)) (Try.isAgg22 _) ?_
  refine pu1 ?_
  refine sMul 8 ((((32762 + a0)).toNat : Nat) : Int) ?_
  refine sAdd 35 (8 * ((((32762 + a0)).toNat : Nat) : Int)) ?_
  refine pu2 <| nT <| sR <| pu1 ?_
  refine sAdd 262143 a0 ?_
  refine sMake (kl := .i64) (kc := .i64) (enc := encB) (sz := 1) (nb := 1) c0 0 ((262143 + a0)).toNat (262143 + a0) (om : (262143 + a0) = ((((262143 + a0)).toNat : Nat) : Int)) Try.underlying31 (i := Try.t5) kr fR ?_
  intro k1 l1 _ m1 s0
  try dsimp only [List.set, List.eraseIdx, Value.cells] at s0
  refine pu1 <| nT <| sR <| pu1 ?_
  refine sF #[.slice (At k1 0) (((262143 + a0)).toNat) (((262143 + a0)).toNat)] Try.call17 (Calls.mono (codec_decode W _ _ [] _ _ _ (List.replicate ((262143 + a0)).toNat 0) (RdT.flat (m1.rdAt 0 (by rfl))) (zeros_bytes _) (Sat.flat s0)) ?_)
  rintro _ _ ⟨e0, n1, f0, rfl, _, t0, u0⟩
  refine ⟨_, rfl, ?_⟩
  have v0 := Sat.unflat1 u0; clear u0
  try dsimp only [List.set, List.eraseIdx, Value.cells] at v0
  refine pu3 ?_
  refine sAlloc v0 Try.zeroValue28 ?_
  intro o1 _ p1
  refine sT p1 0 0 (.agg (encJob e0).toArray) (encJob e0) (encJob e0).toArray Try.sizeOf28 ?_
  intro _ q1
  refine pu1 <| nilO ?_
  have hdc := DecR.code t0; simp only [List.length_replicate] at hdc; have hdz := DecR.not0 t0 om
  refine thenK_n <| sR <| pu5 ?_
  rcases bool_em true (decide (((35 + (8 * ((((32762 + a0)).toNat : Nat) : Int))) : Int) ≤ 262144)) with g0 | g0
  rotate_left
  ·refine sFix 40 _ false (show (true == (decide (((35 + (8 * ((((32762 + a0)).toNat : Nat) : Int))) : Int) ≤ 262144))) = false from by simpa using g0) ?_
   refine pu16 <| pu12 <| nT <| retE <| retT [.bool false] ?_
   first | omega | (exact absurd (by rw [Bool.eq_iff_iff]; simp <;> omega) g0)
  refine sFix 40 _ true (show (true == (decide (((35 + (8 * ((((32762 + a0)).toNat : Nat) : Int))) : Int) ≤ 262144))) = true from by simpa using g0) ?_
  refine pu16 <| pu5 ?_
  rcases bool_em ((f0 : Int) == 5) (decide ((((((262143 + a0)).toNat : Nat) : Int) : Int) > 262144)) with h0 | h0
  rotate_left
  ·refine sFix 61 _ false (show (((f0 : Int) == 5) == (decide ((((((262143 + a0)).toNat : Nat) : Int) : Int) > 262144))) = false from by simpa using h0) ?_
   refine pu7 <| nT <| retE <| retT [.bool false] ?_
   first | omega | (exact absurd (by rw [Bool.eq_iff_iff]; simp <;> omega) h0)
  refine sFix 61 _ true (show (((f0 : Int) == 5) == (decide ((((((262143 + a0)).toNat : Nat) : Int) : Int) > 262144))) = true from by simpa using h0) ?_
  refine pu4 ?_
  by_cases w0 : (f0 : Int) = 0
  ·refine sFix 65 _ false (bne_eq_false_iff_eq.2 w0) ?_
   refine pu3 <| nT <| retE <| retT [.bool false] ?_
   first | omega
  refine sFix 65 _ true (bne_iff_ne.2 w0) ?_
  refine gY ?_
  refine sF #[] Try.call13 (Calls.mono (l19_sane W _ ([(o1, .cells (encJob e0).toArray 28 (0, 0))] :: n1 :: l1 :: j1 :: [(q0, .cells #[.slice none 0 0, .slice none 0 0, .slice (At b0 0) (((32762 + a0)).toNat) (((32762 + a0)).toNat), I 0] 28 (0, 0))] :: m0 :: H :: F) q1) ?_)
  rintro _ _ ⟨rfl, x0⟩
  refine ⟨_, rfl, ?_⟩
  try dsimp only [List.set, List.eraseIdx, Value.cells] at x0
  refine pu2 <| nT <| retE <| retT [.bool true] ?_
  have y0 := (x0.pick 6 rfl)
  try dsimp only [List.set, List.eraseIdx, Value.cells] at y0
  have r1 := y0.dropAt 1 rfl
  have s1 := r1.dropAt 1 rfl
  have t1 := s1.dropAt 1 rfl
  have u1 := t1.dropAt 1 rfl
  have v1 := u1.dropAt 1 rfl
  have w1 := v1.dropAt 1 rfl
  exact ⟨rfl, w1⟩
 ·refine ⟨_, rfl, ?_⟩
  have c0 := Sat.unflat d0; clear d0
  try dsimp only [List.set, List.eraseIdx, Value.cells] at c0
  refine pu5 <| nT <| sR <| pu1 ?_
  refine sL c0 0 2 (.slice (At b0 0) (((32762 + a0)).toNat) (((32762 + a0)).toNat)) (Try.isAgg22 _) ?_
  refine pu1 ?_
  refine sMul 8 ((((32762 + a0)).toNat : Nat) : Int) ?_
  refine sAdd 35 (8 * ((((32762 + a0)).toNat : Nat) : Int)) ?_
  refine pu2 <| nT <| sR <| pu1 ?_
  refine sAdd 262143 a0 ?_
  refine sMake (kl := .i64) (kc := .i64) (enc := encB) (sz := 1) (nb := 1) c0 0 ((262143 + a0)).toNat (262143 + a0) (om : (262143 + a0) = ((((262143 + a0)).toNat : Nat) : Int)) Try.underlying31 (i := Try.t5) kr fR ?_
  intro x1 y1 _ z1 z0
  try dsimp only [List.set, List.eraseIdx, Value.cells] at z0
  refine pu1 <| nT <| sR <| pu1 ?_
  refine sF #[.slice (At x1 0) (((262143 + a0)).toNat) (((262143 + a0)).toNat)] Try.call17 (Calls.mono (codec_decode W _ _ [] _ _ _ (List.replicate ((262143 + a0)).toNat 0) (RdT.flat (z1.rdAt 0 (by rfl))) (zeros_bytes _) (Sat.flat z0)) ?_)
  rintro _ _ ⟨i0, a2, j0, rfl, _, a1, b1⟩
  refine ⟨_, rfl, ?_⟩
  have c1 := Sat.unflat1 b1; clear b1
  try dsimp only [List.set, List.eraseIdx, Value.cells] at c1
  refine pu3 ?_
  refine sAlloc c1 Try.zeroValue28 ?_
  intro b2 _ c2
  refine sT c2 0 0 (.agg (encJob i0).toArray) (encJob i0) (encJob i0).toArray Try.sizeOf28 ?_
  intro _ d2
  refine pu1 <| nilO ?_
  have hdc := DecR.code a1; simp only [List.length_replicate] at hdc; have hdz := DecR.not0 a1 om
  refine thenK_n <| sR <| pu5 ?_
  rcases bool_em false (decide (((35 + (8 * ((((32762 + a0)).toNat : Nat) : Int))) : Int) ≤ 262144)) with k0 | k0
  rotate_left
  ·refine sFix 40 _ false (show (false == (decide (((35 + (8 * ((((32762 + a0)).toNat : Nat) : Int))) : Int) ≤ 262144))) = false from by simpa using k0) ?_
   refine pu16 <| pu12 <| nT <| retE <| retT [.bool false] ?_
   first | omega | (exact absurd (by rw [Bool.eq_iff_iff]; simp <;> omega) k0)
  refine sFix 40 _ true (show (false == (decide (((35 + (8 * ((((32762 + a0)).toNat : Nat) : Int))) : Int) ≤ 262144))) = true from by simpa using k0) ?_
  refine pu16 <| pu5 ?_
  rcases bool_em ((j0 : Int) == 5) (decide ((((((262143 + a0)).toNat : Nat) : Int) : Int) > 262144)) with l0 | l0
  rotate_left
  ·refine sFix 61 _ false (show (((j0 : Int) == 5) == (decide ((((((262143 + a0)).toNat : Nat) : Int) : Int) > 262144))) = false from by simpa using l0) ?_
   refine pu7 <| nT <| retE <| retT [.bool false] ?_
   first | omega | (exact absurd (by rw [Bool.eq_iff_iff]; simp <;> omega) l0)
  refine sFix 61 _ true (show (((j0 : Int) == 5) == (decide ((((((262143 + a0)).toNat : Nat) : Int) : Int) > 262144))) = true from by simpa using l0) ?_
  refine pu4 ?_
  by_cases d1 : (j0 : Int) = 0
  ·refine sFix 65 _ false (bne_eq_false_iff_eq.2 d1) ?_
   refine pu3 <| nT <| retE <| retT [.bool false] ?_
   first | omega
  refine sFix 65 _ true (bne_iff_ne.2 d1) ?_
  refine gY ?_
  refine sF #[] Try.call13 (Calls.mono (l19_sane W _ ([(b2, .cells (encJob i0).toArray 28 (0, 0))] :: a2 :: y1 :: [(q0, .cells #[.slice none 0 0, .slice none 0 0, .slice (At b0 0) (((32762 + a0)).toNat) (((32762 + a0)).toNat), I 0] 28 (0, 0))] :: m0 :: H :: F) d2) ?_)
  rintro _ _ ⟨rfl, e1⟩
  refine ⟨_, rfl, ?_⟩
  try dsimp only [List.set, List.eraseIdx, Value.cells] at e1
  refine pu2 <| nT <| retE <| retT [.bool true] ?_
  have f1 := (e1.pick 5 rfl)
  try dsimp only [List.set, List.eraseIdx, Value.cells] at f1
  have e2 := f1.dropAt 1 rfl
  have f2 := e2.dropAt 1 rfl
  have g2 := f2.dropAt 1 rfl
  have h2 := g2.dropAt 1 rfl
  have i2 := h2.dropAt 1 rfl
  exact ⟨rfl, i2⟩
end Go.Proofs.Ytcddcpaodcjecaa
