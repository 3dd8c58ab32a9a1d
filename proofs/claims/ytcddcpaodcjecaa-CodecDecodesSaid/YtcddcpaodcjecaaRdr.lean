import Derived.Test.YtcddcpaodcjecaaGot
namespace Go.Proofs.Ytcddcpaodcjecaa
open Go Go.E
set_option linter.unusedVariables false
set_option linter.unusedSimpArgs false
set_option linter.unnecessarySimpa false
set_option maxRecDepth 100000
set_option maxHeartbeats 2000000
-- squeezed
theorem rdr_number (W w : World) (p : Nat) (H fp : Chunk) (F : List Chunk) (r : List Int) (b : Bool) (hI : RdrR 84 H p r b fp) (hS : Sat W w (fp :: H :: F)) :
  Calls Try.prog 53 #[Pt p 0] w fun e w' => ∃ (v : Int) (r' : List Int) (b' : Bool), e = .returned (I v) ∧ Got encN WfI r b v r' b' ∧ WfI v ∧ ∃ fp' : Chunk, RdrR 84 H p r' b' fp' ∧ Sat W w' (fp' :: H :: F) := by
 obtain ⟨a, n, k, rfl, hR, hB⟩ := hI
 have hle := hR.le; have hll := hR.len
 refine callsE (n := 55) Try.func53 rfl rfl (Nat.le_of_ble_eq_true rfl) ?_
 refine sR <| pu1 <| nT <| seqE <| sR <| pu3 ?_
 refine sL hS 0 1 (.bool b) (Try.isAgg4 _) ?_
 refine pu1 ?_
 cases b
 rotate_left
 ·refine pu7 <| nT <| cTt <| sR <| pu3 ?_
  refine sT1 hS 0 1 (.bool true) #[.slice a n k, .bool true] Try.sizeOf4 ?_
  intro _ j0
  change Sat _ _ ([(p, .cells #[.slice a n k, .bool true] 84 (0, 0))] :: H :: F) at j0
  refine nT <| sR <| pu1 <| nT ?_
  refine retE (thenK_r <| ?_)
  refine retT [I 0] ?_
  have k0 := ((j0.pick 1 rfl).pick 1 rfl)
  change Sat _ _ ([(p, .cells #[.slice a n k, .bool true] 84 (0, 0))] :: H :: F) at k0
  exact ⟨0, r, true, rfl, Got.fail 0 (by first | exact .inl rfl | (right; omega)), by unfold WfI; omega, _, ⟨_, _, _, rfl, hR, hB⟩, k0⟩
 refine pu3 <| gY ?_
 refine sL hS 0 0 (.slice a n k) (Try.isAgg31 _) ?_
 refine pu3 <| nT ?_
 by_cases l0 : (((n : Nat) : Int) : Int) < 8
 ·refine cT _ (decide_eq_true l0) ?_
  refine sR <| pu3 ?_
  refine sT1 hS 0 1 (.bool true) #[.slice a n k, .bool true] Try.sizeOf4 ?_
  intro _ m0
  change Sat _ _ ([(p, .cells #[.slice a n k, .bool true] 84 (0, 0))] :: H :: F) at m0
  refine nT <| sR <| pu1 <| nT ?_
  refine retE (thenK_r <| ?_)
  refine retT [I 0] ?_
  have n0 := ((m0.pick 1 rfl).pick 1 rfl)
  change Sat _ _ ([(p, .cells #[.slice a n k, .bool true] 84 (0, 0))] :: H :: F) at n0
  exact ⟨0, r, true, rfl, Got.fail 0 (by first | exact .inl rfl | (right; omega)), by unfold WfI; omega, _, ⟨_, _, _, rfl, hR, hB⟩, n0⟩
 refine cF _ (decide_eq_false l0) ?_
 refine kT <| sR <| pu1 <| nT <| seqE <| sR <| pu3 ?_
 refine sL hS 0 0 (.slice a n k) (Try.isAgg31 _) ?_
 refine sSl none (some 8) 0 8 Try.runUnderlying31 Try.sizeOf5 rfl ⟨by decide, rfl⟩ om om ?_ (a := a) (len := n) (cap := k)
 have i0 := hR.part (lo := 0) (hi := 8) om om
 refine pu2 <| nT <| blockE ?_
 refine loopN 9 ?_
 refine roundS ?_
 refine sR <| pu1 <| nT <| seqE <| cTt <| kT <| seqE <| blockE <| sR ?_
 refine sIdx i0 0 Try.runUnderlying31 Try.sizeOf5 ?_
 intro a0 _ _ y0 z0
 have o0 : r[0]? = some a0 := by have h := y0; first | exact h | (simp only [List.drop_zero] at h; rw [List.getElem?_take] at h; simpa using h)
 have hb_x_6 := hB.1 a0 (List.mem_of_getElem? o0)
 refine sLp hS (z0.up 1 rfl) 0 (.int .u8 a0) (Try.isAgg5 _) ?_
 refine pu1 <| nT <| regionE <| pu1 ?_
 refine stepY (.int .u64 ((0 : Int) * 256)) rfl rfl (Y_shl .u64 .u64 0 8 256 _ rfl kr kr (by decide) (by decide) (wrapIn_u64 _ om)) ?_
 refine pu1 ?_
 refine stepY (.int .u64 a0) rfl rfl (Y_conv (k := .u8) (a := a0) Try.underlying5 Try.underlying95 (wrapIn_u64 _ om) rfl kr) ?_
 refine stepY (.int .u64 (((0 : Int) * 256) + a0)) rfl rfl (Y_orLow ((0 : Int) * 256) a0 rfl kr kr om om om) ?_
 refine pu1 <| nB <| regionE <| pu2 <| nT ?_
 refine roundS ?_
 refine sR <| pu1 <| nT <| seqE <| cTt <| kT <| seqE <| blockE <| sR ?_
 refine sIdx i0 1 Try.runUnderlying31 Try.sizeOf5 ?_
 intro b0 _ _ a1 b1
 have p0 : r[1]? = some b0 := by have h := a1; first | exact h | (simp only [List.drop_zero] at h; rw [List.getElem?_take] at h; simpa using h)
 have hb_x_12 := hB.1 b0 (List.mem_of_getElem? p0)
 refine sLp hS (b1.up 1 rfl) 0 (.int .u8 b0) (Try.isAgg5 _) ?_
 refine pu1 <| nT <| regionE <| pu1 ?_
 refine stepY (.int .u64 ((((0 : Int) * 256) + a0) * 256)) rfl rfl (Y_shl .u64 .u64 (((0 : Int) * 256) + a0) 8 256 _ rfl kr kr (by decide) (by decide) (wrapIn_u64 _ om)) ?_
 refine pu1 ?_
 refine stepY (.int .u64 b0) rfl rfl (Y_conv (k := .u8) (a := b0) Try.underlying5 Try.underlying95 (wrapIn_u64 _ om) rfl kr) ?_
 refine stepY (.int .u64 (((((0 : Int) * 256) + a0) * 256) + b0)) rfl rfl (Y_orLow ((((0 : Int) * 256) + a0) * 256) b0 rfl kr kr om om om) ?_
 refine pu1 <| nB <| regionE <| pu2 <| nT ?_
 refine roundS ?_
 refine sR <| pu1 <| nT <| seqE <| cTt <| kT <| seqE <| blockE <| sR ?_
 refine sIdx i0 2 Try.runUnderlying31 Try.sizeOf5 ?_
 intro c0 _ _ c1 d1
 have q0 : r[2]? = some c0 := by have h := c1; first | exact h | (simp only [List.drop_zero] at h; rw [List.getElem?_take] at h; simpa using h)
 have hb_x_18 := hB.1 c0 (List.mem_of_getElem? q0)
 refine sLp hS (d1.up 1 rfl) 0 (.int .u8 c0) (Try.isAgg5 _) ?_
 refine pu1 <| nT <| regionE <| pu1 ?_
 refine stepY (.int .u64 ((((((0 : Int) * 256) + a0) * 256) + b0) * 256)) rfl rfl (Y_shl .u64 .u64 (((((0 : Int) * 256) + a0) * 256) + b0) 8 256 _ rfl kr kr (by decide) (by decide) (wrapIn_u64 _ om)) ?_
 refine pu1 ?_
 refine stepY (.int .u64 c0) rfl rfl (Y_conv (k := .u8) (a := c0) Try.underlying5 Try.underlying95 (wrapIn_u64 _ om) rfl kr) ?_
 refine stepY (.int .u64 (((((((0 : Int) * 256) + a0) * 256) + b0) * 256) + c0)) rfl rfl (Y_orLow ((((((0 : Int) * 256) + a0) * 256) + b0) * 256) c0 rfl kr kr om om om) ?_
 refine pu1 <| nB <| regionE <| pu2 <| nT ?_
 refine roundS ?_
 refine sR <| pu1 <| nT <| seqE <| cTt <| kT <| seqE <| blockE <| sR ?_
 refine sIdx i0 3 Try.runUnderlying31 Try.sizeOf5 ?_
 intro d0 _ _ e1 f1
 have r0 : r[3]? = some d0 := by have h := e1; first | exact h | (simp only [List.drop_zero] at h; rw [List.getElem?_take] at h; simpa using h)
 have hb_x_24 := hB.1 d0 (List.mem_of_getElem? r0)
 refine sLp hS (f1.up 1 rfl) 0 (.int .u8 d0) (Try.isAgg5 _) ?_
 refine pu1 <| nT <| regionE <| pu1 ?_
 refine stepY (.int .u64 ((((((((0 : Int) * 256) + a0) * 256) + b0) * 256) + c0) * 256)) rfl rfl (Y_shl .u64 .u64 (((((((0 : Int) * 256) + a0) * 256) + b0) * 256) + c0) 8 256 _ rfl kr kr (by decide) (by decide) (wrapIn_u64 _ om)) ?_
 refine pu1 ?_
 refine stepY (.int .u64 d0) rfl rfl (Y_conv (k := .u8) (a := d0) Try.underlying5 Try.underlying95 (wrapIn_u64 _ om) rfl kr) ?_
 refine stepY (.int .u64 (((((((((0 : Int) * 256) + a0) * 256) + b0) * 256) + c0) * 256) + d0)) rfl rfl (Y_orLow ((((((((0 : Int) * 256) + a0) * 256) + b0) * 256) + c0) * 256) d0 rfl kr kr om om om) ?_
 refine pu1 <| nB <| regionE <| pu2 <| nT ?_
 refine roundS ?_
 refine sR <| pu1 <| nT <| seqE <| cTt <| kT <| seqE <| blockE <| sR ?_
 refine sIdx i0 4 Try.runUnderlying31 Try.sizeOf5 ?_
 intro e0 _ _ g1 h1
 have s0 : r[4]? = some e0 := by have h := g1; first | exact h | (simp only [List.drop_zero] at h; rw [List.getElem?_take] at h; simpa using h)
 have hb_x_30 := hB.1 e0 (List.mem_of_getElem? s0)
 refine sLp hS (h1.up 1 rfl) 0 (.int .u8 e0) (Try.isAgg5 _) ?_
 refine pu1 <| nT <| regionE <| pu1 ?_
 refine stepY (.int .u64 ((((((((((0 : Int) * 256) + a0) * 256) + b0) * 256) + c0) * 256) + d0) * 256)) rfl rfl (Y_shl .u64 .u64 (((((((((0 : Int) * 256) + a0) * 256) + b0) * 256) + c0) * 256) + d0) 8 256 _ rfl kr kr (by decide) (by decide) (wrapIn_u64 _ om)) ?_
 refine pu1 ?_
 refine stepY (.int .u64 e0) rfl rfl (Y_conv (k := .u8) (a := e0) Try.underlying5 Try.underlying95 (wrapIn_u64 _ om) rfl kr) ?_
 refine stepY (.int .u64 (((((((((((0 : Int) * 256) + a0) * 256) + b0) * 256) + c0) * 256) + d0) * 256) + e0)) rfl rfl (Y_orLow ((((((((((0 : Int) * 256) + a0) * 256) + b0) * 256) + c0) * 256) + d0) * 256) e0 rfl kr kr om om om) ?_
 refine pu1 <| nB <| regionE <| pu2 <| nT ?_
 refine roundS ?_
 refine sR <| pu1 <| nT <| seqE <| cTt <| kT <| seqE <| blockE <| sR ?_
 refine sIdx i0 5 Try.runUnderlying31 Try.sizeOf5 ?_
 intro f0 _ _ i1 j1
 have t0 : r[5]? = some f0 := by have h := i1; first | exact h | (simp only [List.drop_zero] at h; rw [List.getElem?_take] at h; simpa using h)
 have hb_x_36 := hB.1 f0 (List.mem_of_getElem? t0)
 refine sLp hS (j1.up 1 rfl) 0 (.int .u8 f0) (Try.isAgg5 _) ?_
 refine pu1 <| nT <| regionE <| pu1 ?_
 refine stepY (.int .u64 ((((((((((((0 : Int) * 256) + a0) * 256) + b0) * 256) + c0) * 256) + d0) * 256) + e0) * 256)) rfl rfl (Y_shl .u64 .u64 (((((((((((0 : Int) * 256) + a0) * 256) + b0) * 256) + c0) * 256) + d0) * 256) + e0) 8 256 _ rfl kr kr (by decide) (by decide) (wrapIn_u64 _ om)) ?_
 refine pu1 ?_
 refine stepY (.int .u64 f0) rfl rfl (Y_conv (k := .u8) (a := f0) Try.underlying5 Try.underlying95 (wrapIn_u64 _ om) rfl kr) ?_
 refine stepY (.int .u64 (((((((((((((0 : Int) * 256) + a0) * 256) + b0) * 256) + c0) * 256) + d0) * 256) + e0) * 256) + f0)) rfl rfl (Y_orLow ((((((((((((0 : Int) * 256) + a0) * 256) + b0) * 256) + c0) * 256) + d0) * 256) + e0) * 256) f0 rfl kr kr om om om) ?_
 refine pu1 <| nB <| regionE <| pu2 <| nT ?_
 refine roundS ?_
 refine sR <| pu1 <| nT <| seqE <| cTt <| kT <| seqE <| blockE <| sR ?_
 refine sIdx i0 6 Try.runUnderlying31 Try.sizeOf5 ?_
 intro g0 _ _ k1 l1
 have u0 : r[6]? = some g0 := by have h := k1; first | exact h | (simp only [List.drop_zero] at h; rw [List.getElem?_take] at h; simpa using h)
 have hb_x_42 := hB.1 g0 (List.mem_of_getElem? u0)
 refine sLp hS (l1.up 1 rfl) 0 (.int .u8 g0) (Try.isAgg5 _) ?_
 refine pu1 <| nT <| regionE <| pu1 ?_
 refine stepY (.int .u64 ((((((((((((((0 : Int) * 256) + a0) * 256) + b0) * 256) + c0) * 256) + d0) * 256) + e0) * 256) + f0) * 256)) rfl rfl (Y_shl .u64 .u64 (((((((((((((0 : Int) * 256) + a0) * 256) + b0) * 256) + c0) * 256) + d0) * 256) + e0) * 256) + f0) 8 256 _ rfl kr kr (by decide) (by decide) (wrapIn_u64 _ om)) ?_
 refine pu1 ?_
 refine stepY (.int .u64 g0) rfl rfl (Y_conv (k := .u8) (a := g0) Try.underlying5 Try.underlying95 (wrapIn_u64 _ om) rfl kr) ?_
 refine stepY (.int .u64 (((((((((((((((0 : Int) * 256) + a0) * 256) + b0) * 256) + c0) * 256) + d0) * 256) + e0) * 256) + f0) * 256) + g0)) rfl rfl (Y_orLow ((((((((((((((0 : Int) * 256) + a0) * 256) + b0) * 256) + c0) * 256) + d0) * 256) + e0) * 256) + f0) * 256) g0 rfl kr kr om om om) ?_
 refine pu1 <| nB <| regionE <| pu2 <| nT ?_
 refine roundS ?_
 refine sR <| pu1 <| nT <| seqE <| cTt <| kT <| seqE <| blockE <| sR ?_
 refine sIdx i0 7 Try.runUnderlying31 Try.sizeOf5 ?_
 intro h0 _ _ m1 n1
 have v0 : r[7]? = some h0 := by have h := m1; first | exact h | (simp only [List.drop_zero] at h; rw [List.getElem?_take] at h; simpa using h)
 have hb_x_48 := hB.1 h0 (List.mem_of_getElem? v0)
 refine sLp hS (n1.up 1 rfl) 0 (.int .u8 h0) (Try.isAgg5 _) ?_
 refine pu1 <| nT <| regionE <| pu1 ?_
 refine stepY (.int .u64 ((((((((((((((((0 : Int) * 256) + a0) * 256) + b0) * 256) + c0) * 256) + d0) * 256) + e0) * 256) + f0) * 256) + g0) * 256)) rfl rfl (Y_shl .u64 .u64 (((((((((((((((0 : Int) * 256) + a0) * 256) + b0) * 256) + c0) * 256) + d0) * 256) + e0) * 256) + f0) * 256) + g0) 8 256 _ rfl kr kr (by decide) (by decide) (wrapIn_u64 _ om)) ?_
 refine pu1 ?_
 refine stepY (.int .u64 h0) rfl rfl (Y_conv (k := .u8) (a := h0) Try.underlying5 Try.underlying95 (wrapIn_u64 _ om) rfl kr) ?_
 refine stepY (.int .u64 (((((((((((((((((0 : Int) * 256) + a0) * 256) + b0) * 256) + c0) * 256) + d0) * 256) + e0) * 256) + f0) * 256) + g0) * 256) + h0)) rfl rfl (Y_orLow ((((((((((((((((0 : Int) * 256) + a0) * 256) + b0) * 256) + c0) * 256) + d0) * 256) + e0) * 256) + f0) * 256) + g0) * 256) h0 rfl kr kr om om om) ?_
 refine pu1 <| nB <| regionE <| pu2 <| nT ?_
 refine roundS ?_
 refine sR <| pu1 <| nT <| seqE <| cFf ?_
 refine exitE (xB <| ?_)
 refine thenK_n <| sR <| pu4 ?_
 refine sL hS 0 0 (.slice a n k) (Try.isAgg31 _) ?_
 refine sSl (some 8) none 8 n Try.runUnderlying31 Try.sizeOf5 ⟨by decide, rfl⟩ rfl om om ?_ (a := a) (len := n) (cap := k)
 have o1 := hR.part (lo := 8) (hi := n) om om
 refine pu2 ?_
 refine sT1 hS 0 0 (.slice (partAddr a k 8 1) (n - 8) (k - 8)) #[.slice (partAddr a k 8 1) (n - 8) (k - 8), .bool false] Try.sizeOf31 ?_
 intro _ w0
 try dsimp only [List.set, List.eraseIdx, Value.cells] at w0
 refine nT <| seqE <| sR <| pu1 ?_
 refine stepY (I (IntKind.i64.wrap (((((((((((((((((0 : Int) * 256) + a0) * 256) + b0) * 256) + c0) * 256) + d0) * 256) + e0) * 256) + f0) * 256) + g0) * 256) + h0))) rfl rfl (Y_conv (k := .u64) (a := (((((((((((((((((0 : Int) * 256) + a0) * 256) + b0) * 256) + c0) * 256) + d0) * 256) + e0) * 256) + f0) * 256) + g0) * 256) + h0)) Try.underlying95 Try.underlying2 (rfl) rfl kr) ?_
 refine pu1 ?_
 refine stepY (I (IntKind.i64.wrap (((((((((((((((((0 : Int) * 256) + a0) * 256) + b0) * 256) + c0) * 256) + d0) * 256) + e0) * 256) + f0) * 256) + g0) * 256) + h0))) rfl rfl (Y_conv (k := .u64) (a := (((((((((((((((((0 : Int) * 256) + a0) * 256) + b0) * 256) + c0) * 256) + d0) * 256) + e0) * 256) + f0) * 256) + g0) * 256) + h0)) Try.underlying95 Try.underlying2 (rfl) rfl kr) ?_
 refine pu1 <| nT ?_
 have p1 : ((IntKind.i64.wrap (((((((((((((((((0 : Int) * 256) + a0) * 256) + b0) * 256) + c0) * 256) + d0) * 256) + e0) * 256) + f0) * 256) + g0) * 256) + h0)) : Int) = (IntKind.i64.wrap (((((((((((((((((0 : Int) * 256) + a0) * 256) + b0) * 256) + c0) * 256) + d0) * 256) + e0) * 256) + f0) * 256) + g0) * 256) + h0)) := rfl
 refine cF _ (bne_eq_false_iff_eq.2 p1) ?_
 refine kT <| sR <| pu1 ?_
 refine stepY (I (IntKind.i64.wrap (((((((((((((((((0 : Int) * 256) + a0) * 256) + b0) * 256) + c0) * 256) + d0) * 256) + e0) * 256) + f0) * 256) + g0) * 256) + h0))) rfl rfl (Y_conv (k := .u64) (a := (((((((((((((((((0 : Int) * 256) + a0) * 256) + b0) * 256) + c0) * 256) + d0) * 256) + e0) * 256) + f0) * 256) + g0) * 256) + h0)) Try.underlying95 Try.underlying2 (rfl) rfl kr) ?_
 refine pu1 <| nT <| retE <| retT [I (IntKind.i64.wrap (((((((((((((((((0 : Int) * 256) + a0) * 256) + b0) * 256) + c0) * 256) + d0) * 256) + e0) * 256) + f0) * 256) + g0) * 256) + h0))] ?_
 have x0 := ((w0.pick 1 rfl).pick 1 rfl)
 try dsimp only [List.set, List.eraseIdx, Value.cells] at x0
 have hd := dec8 hb_x_6 hb_x_12 hb_x_18 hb_x_24 hb_x_30 hb_x_36 hb_x_42 hb_x_48 (((((((((((((((((0 : Int) * 256) + a0) * 256) + b0) * 256) + c0) * 256) + d0) * 256) + e0) * 256) + f0) * 256) + g0) * 256) + h0) om
 have hR2 := o1
 rw [List.take_of_length_le (by simp; omega)] at hR2
 exact ⟨_, r.drop 8, false, rfl, Got.read (take8 o0 p0 q0 r0 s0 t0 u0 v0) hd.1 hd.2, hd.2, _, ⟨_, _, _, rfl, hR2, fun x hx => hB.1 x (List.mem_of_mem_drop hx), by have := hB.2; simp; omega⟩, x0⟩
theorem rdr_count_1 (W w : World) (p : Nat) (H fp : Chunk) (F : List Chunk) (r : List Int) (b : Bool) (hI : RdrR 84 H p r b fp) (hS : Sat W w (fp :: H :: F)) :
  Calls Try.prog 54 #[Pt p 0, I 1] w fun e w' => ∃ (v : Int) (r' : List Int) (b' : Bool), e = .returned (I v) ∧ GotC 1 r b v r' b' ∧ ∃ fp' : Chunk, RdrR 84 H p r' b' fp' ∧ Sat W w' (fp' :: H :: F) := by
 refine callsE (n := 26) Try.func54 rfl rfl (Nat.le_of_ble_eq_true rfl) ?_
 refine sR <| pu1 <| nT <| sR <| pu1 ?_
 have k0 := ((hS.pick 1 rfl).pick 1 rfl)
 change Sat _ _ (fp :: H :: F) at k0
 refine sF #[Pt p 0] Try.call53 (Calls.mono (rdr_number W _ _ _ _ _ _ _ hI k0) ?_)
 rintro _ _ ⟨f0, g0, h0, rfl, i0, t0, l0, u0, d0⟩
 refine ⟨_, rfl, ?_⟩
 change Sat _ _ (l0 :: H :: F) at d0
 refine pu1 <| nT <| seqE <| seqE ?_
 change Sat _ _ (l0 :: H :: F) at d0
 obtain ⟨b0, a0, c0, rfl, e0, j0⟩ := u0
 have hll_a_11 := e0.len; have hle_a_11 := e0.le
 refine regionE <| pu3 ?_
 by_cases m0 : (f0 : Int) < 0
 ·refine sFix 10 _ true (decide_eq_true m0) ?_
  refine pu11 <| nT <| cTt <| sR <| pu3 ?_
  refine sT1 d0 0 1 (.bool true) #[.slice b0 a0 c0, .bool true] Try.sizeOf4 ?_
  intro _ n0
  change Sat _ _ ([(p, .cells #[.slice b0 a0 c0, .bool true] 84 (0, 0))] :: H :: F) at n0
  refine nT <| sR <| pu1 <| nT ?_
  refine retE (thenK_r <| ?_)
  refine retT [I 0] ?_
  have v0 : RdrR 84 H p g0 true [(p, .cells #[.slice b0 a0 c0, .bool true] 84 (0, 0))] := ⟨_, _, _, rfl, e0, j0⟩
  have o0 := ((n0.pick 1 rfl).pick 1 rfl)
  change Sat _ _ ([(p, .cells #[.slice b0 a0 c0, .bool true] 84 (0, 0))] :: H :: F) at o0
  have ht : (((a0 : Nat) : Int)).tdiv 8 = ((a0 : Nat) : Int) / 8 := Int.tdiv_eq_ediv_of_nonneg om
  simp only [ht] at *
  exact ⟨0, _, _, rfl, GotC.bad i0 (by first | (left; omega) | (right; omega)), _, v0, o0⟩
 refine sFix 10 _ false (decide_eq_false m0) ?_
 refine pu4 <| gY ?_
 refine sL d0 0 0 (.slice b0 a0 c0) (Try.isAgg31 _) ?_
 refine pu3 <| gY ?_
 refine sQuo ((a0 : Nat) : Int) 8 ?_
 refine pu2 <| nT ?_
 by_cases p0 : (f0 : Int) > (((a0 : Nat) : Int).tdiv 8)
 rotate_left
 ·refine cF _ (decide_eq_false p0) ?_
  refine kT <| sR <| pu2 <| nT <| retE <| retT [I f0] ?_
  have w0 : RdrR 84 H p g0 h0 [(p, .cells #[.slice b0 a0 c0, .bool h0] 84 (0, 0))] := ⟨_, _, _, rfl, e0, j0⟩
  have q0 := ((d0.pick 1 rfl).pick 1 rfl)
  change Sat _ _ ([(p, .cells #[.slice b0 a0 c0, .bool h0] 84 (0, 0))] :: H :: F) at q0
  have ht : (((a0 : Nat) : Int)).tdiv 8 = ((a0 : Nat) : Int) / 8 := Int.tdiv_eq_ediv_of_nonneg om
  simp only [ht] at *
  exact ⟨f0, _, _, rfl, GotC.good i0 t0 om om, _, w0, q0⟩
 refine cT _ (decide_eq_true p0) ?_
 refine sR <| pu3 ?_
 refine sT1 d0 0 1 (.bool true) #[.slice b0 a0 c0, .bool true] Try.sizeOf4 ?_
 intro _ r0
 change Sat _ _ ([(p, .cells #[.slice b0 a0 c0, .bool true] 84 (0, 0))] :: H :: F) at r0
 refine nT <| sR <| pu1 <| nT ?_
 refine retE (thenK_r <| ?_)
 refine retT [I 0] ?_
 have x0 : RdrR 84 H p g0 true [(p, .cells #[.slice b0 a0 c0, .bool true] 84 (0, 0))] := ⟨_, _, _, rfl, e0, j0⟩
 have s0 := ((r0.pick 1 rfl).pick 1 rfl)
 change Sat _ _ ([(p, .cells #[.slice b0 a0 c0, .bool true] 84 (0, 0))] :: H :: F) at s0
 have ht : (((a0 : Nat) : Int)).tdiv 8 = ((a0 : Nat) : Int) / 8 := Int.tdiv_eq_ediv_of_nonneg om
 simp only [ht] at *
 exact ⟨0, _, _, rfl, GotC.bad i0 (by first | (left; omega) | (right; omega)), _, x0, s0⟩
theorem rdr_count_2 (W w : World) (p : Nat) (H fp : Chunk) (F : List Chunk) (r : List Int) (b : Bool) (hI : RdrR 84 H p r b fp) (hS : Sat W w (fp :: H :: F)) :
  Calls Try.prog 54 #[Pt p 0, I 2] w fun e w' => ∃ (v : Int) (r' : List Int) (b' : Bool), e = .returned (I v) ∧ GotC 2 r b v r' b' ∧ ∃ fp' : Chunk, RdrR 84 H p r' b' fp' ∧ Sat W w' (fp' :: H :: F) := by
 refine callsE (n := 26) Try.func54 rfl rfl (Nat.le_of_ble_eq_true rfl) ?_
 refine sR <| pu1 <| nT <| sR <| pu1 ?_
 have k0 := ((hS.pick 1 rfl).pick 1 rfl)
 change Sat _ _ (fp :: H :: F) at k0
 refine sF #[Pt p 0] Try.call53 (Calls.mono (rdr_number W _ _ _ _ _ _ _ hI k0) ?_)
 rintro _ _ ⟨f0, g0, h0, rfl, i0, t0, l0, u0, d0⟩
 refine ⟨_, rfl, ?_⟩
 change Sat _ _ (l0 :: H :: F) at d0
 refine pu1 <| nT <| seqE <| seqE ?_
 change Sat _ _ (l0 :: H :: F) at d0
 obtain ⟨b0, a0, c0, rfl, e0, j0⟩ := u0
 have hll_a_11 := e0.len; have hle_a_11 := e0.le
 refine regionE <| pu3 ?_
 by_cases m0 : (f0 : Int) < 0
 ·refine sFix 10 _ true (decide_eq_true m0) ?_
  refine pu11 <| nT <| cTt <| sR <| pu3 ?_
  refine sT1 d0 0 1 (.bool true) #[.slice b0 a0 c0, .bool true] Try.sizeOf4 ?_
  intro _ n0
  change Sat _ _ ([(p, .cells #[.slice b0 a0 c0, .bool true] 84 (0, 0))] :: H :: F) at n0
  refine nT <| sR <| pu1 <| nT ?_
  refine retE (thenK_r <| ?_)
  refine retT [I 0] ?_
  have v0 : RdrR 84 H p g0 true [(p, .cells #[.slice b0 a0 c0, .bool true] 84 (0, 0))] := ⟨_, _, _, rfl, e0, j0⟩
  have o0 := ((n0.pick 1 rfl).pick 1 rfl)
  change Sat _ _ ([(p, .cells #[.slice b0 a0 c0, .bool true] 84 (0, 0))] :: H :: F) at o0
  have ht : (((a0 : Nat) : Int)).tdiv 16 = ((a0 : Nat) : Int) / 16 := Int.tdiv_eq_ediv_of_nonneg om
  simp only [ht] at *
  exact ⟨0, _, _, rfl, GotC.bad i0 (by first | (left; omega) | (right; omega)), _, v0, o0⟩
 refine sFix 10 _ false (decide_eq_false m0) ?_
 refine pu4 <| gY ?_
 refine sL d0 0 0 (.slice b0 a0 c0) (Try.isAgg31 _) ?_
 refine pu3 <| gY ?_
 refine sQuo ((a0 : Nat) : Int) 16 ?_
 refine pu2 <| nT ?_
 by_cases p0 : (f0 : Int) > (((a0 : Nat) : Int).tdiv 16)
 rotate_left
 ·refine cF _ (decide_eq_false p0) ?_
  refine kT <| sR <| pu2 <| nT <| retE <| retT [I f0] ?_
  have w0 : RdrR 84 H p g0 h0 [(p, .cells #[.slice b0 a0 c0, .bool h0] 84 (0, 0))] := ⟨_, _, _, rfl, e0, j0⟩
  have q0 := ((d0.pick 1 rfl).pick 1 rfl)
  change Sat _ _ ([(p, .cells #[.slice b0 a0 c0, .bool h0] 84 (0, 0))] :: H :: F) at q0
  have ht : (((a0 : Nat) : Int)).tdiv 16 = ((a0 : Nat) : Int) / 16 := Int.tdiv_eq_ediv_of_nonneg om
  simp only [ht] at *
  exact ⟨f0, _, _, rfl, GotC.good i0 t0 om om, _, w0, q0⟩
 refine cT _ (decide_eq_true p0) ?_
 refine sR <| pu3 ?_
 refine sT1 d0 0 1 (.bool true) #[.slice b0 a0 c0, .bool true] Try.sizeOf4 ?_
 intro _ r0
 change Sat _ _ ([(p, .cells #[.slice b0 a0 c0, .bool true] 84 (0, 0))] :: H :: F) at r0
 refine nT <| sR <| pu1 <| nT ?_
 refine retE (thenK_r <| ?_)
 refine retT [I 0] ?_
 have x0 : RdrR 84 H p g0 true [(p, .cells #[.slice b0 a0 c0, .bool true] 84 (0, 0))] := ⟨_, _, _, rfl, e0, j0⟩
 have s0 := ((r0.pick 1 rfl).pick 1 rfl)
 change Sat _ _ ([(p, .cells #[.slice b0 a0 c0, .bool true] 84 (0, 0))] :: H :: F) at s0
 have ht : (((a0 : Nat) : Int)).tdiv 16 = ((a0 : Nat) : Int) / 16 := Int.tdiv_eq_ediv_of_nonneg om
 simp only [ht] at *
 exact ⟨0, _, _, rfl, GotC.bad i0 (by first | (left; omega) | (right; omega)), _, x0, s0⟩
theorem rdr_count_4 (W w : World) (p : Nat) (H fp : Chunk) (F : List Chunk) (r : List Int) (b : Bool) (hI : RdrR 84 H p r b fp) (hS : Sat W w (fp :: H :: F)) :
  Calls Try.prog 54 #[Pt p 0, I 4] w fun e w' => ∃ (v : Int) (r' : List Int) (b' : Bool), e = .returned (I v) ∧ GotC 4 r b v r' b' ∧ ∃ fp' : Chunk, RdrR 84 H p r' b' fp' ∧ Sat W w' (fp' :: H :: F) := by
 refine callsE (n := 26) Try.func54 rfl rfl (Nat.le_of_ble_eq_true rfl) ?_
 refine sR <| pu1 <| nT <| sR <| pu1 ?_
 have k0 := ((hS.pick 1 rfl).pick 1 rfl)
 change Sat _ _ (fp :: H :: F) at k0
 refine sF #[Pt p 0] Try.call53 (Calls.mono (rdr_number W _ _ _ _ _ _ _ hI k0) ?_)
 rintro _ _ ⟨f0, g0, h0, rfl, i0, t0, l0, u0, d0⟩
 refine ⟨_, rfl, ?_⟩
 change Sat _ _ (l0 :: H :: F) at d0
 refine pu1 <| nT <| seqE <| seqE ?_
 change Sat _ _ (l0 :: H :: F) at d0
 obtain ⟨b0, a0, c0, rfl, e0, j0⟩ := u0
 have hll_a_11 := e0.len; have hle_a_11 := e0.le
 refine regionE <| pu3 ?_
 by_cases m0 : (f0 : Int) < 0
 ·refine sFix 10 _ true (decide_eq_true m0) ?_
  refine pu11 <| nT <| cTt <| sR <| pu3 ?_
  refine sT1 d0 0 1 (.bool true) #[.slice b0 a0 c0, .bool true] Try.sizeOf4 ?_
  intro _ n0
  change Sat _ _ ([(p, .cells #[.slice b0 a0 c0, .bool true] 84 (0, 0))] :: H :: F) at n0
  refine nT <| sR <| pu1 <| nT ?_
  refine retE (thenK_r <| ?_)
  refine retT [I 0] ?_
  have v0 : RdrR 84 H p g0 true [(p, .cells #[.slice b0 a0 c0, .bool true] 84 (0, 0))] := ⟨_, _, _, rfl, e0, j0⟩
  have o0 := ((n0.pick 1 rfl).pick 1 rfl)
  change Sat _ _ ([(p, .cells #[.slice b0 a0 c0, .bool true] 84 (0, 0))] :: H :: F) at o0
  have ht : (((a0 : Nat) : Int)).tdiv 32 = ((a0 : Nat) : Int) / 32 := Int.tdiv_eq_ediv_of_nonneg om
  simp only [ht] at *
  exact ⟨0, _, _, rfl, GotC.bad i0 (by first | (left; omega) | (right; omega)), _, v0, o0⟩
 refine sFix 10 _ false (decide_eq_false m0) ?_
 refine pu4 <| gY ?_
 refine sL d0 0 0 (.slice b0 a0 c0) (Try.isAgg31 _) ?_
 refine pu3 <| gY ?_
 refine sQuo ((a0 : Nat) : Int) 32 ?_
 refine pu2 <| nT ?_
 by_cases p0 : (f0 : Int) > (((a0 : Nat) : Int).tdiv 32)
 rotate_left
 ·refine cF _ (decide_eq_false p0) ?_
  refine kT <| sR <| pu2 <| nT <| retE <| retT [I f0] ?_
  have w0 : RdrR 84 H p g0 h0 [(p, .cells #[.slice b0 a0 c0, .bool h0] 84 (0, 0))] := ⟨_, _, _, rfl, e0, j0⟩
  have q0 := ((d0.pick 1 rfl).pick 1 rfl)
  change Sat _ _ ([(p, .cells #[.slice b0 a0 c0, .bool h0] 84 (0, 0))] :: H :: F) at q0
  have ht : (((a0 : Nat) : Int)).tdiv 32 = ((a0 : Nat) : Int) / 32 := Int.tdiv_eq_ediv_of_nonneg om
  simp only [ht] at *
  exact ⟨f0, _, _, rfl, GotC.good i0 t0 om om, _, w0, q0⟩
 refine cT _ (decide_eq_true p0) ?_
 refine sR <| pu3 ?_
 refine sT1 d0 0 1 (.bool true) #[.slice b0 a0 c0, .bool true] Try.sizeOf4 ?_
 intro _ r0
 change Sat _ _ ([(p, .cells #[.slice b0 a0 c0, .bool true] 84 (0, 0))] :: H :: F) at r0
 refine nT <| sR <| pu1 <| nT ?_
 refine retE (thenK_r <| ?_)
 refine retT [I 0] ?_
 have x0 : RdrR 84 H p g0 true [(p, .cells #[.slice b0 a0 c0, .bool true] 84 (0, 0))] := ⟨_, _, _, rfl, e0, j0⟩
 have s0 := ((r0.pick 1 rfl).pick 1 rfl)
 change Sat _ _ ([(p, .cells #[.slice b0 a0 c0, .bool true] 84 (0, 0))] :: H :: F) at s0
 have ht : (((a0 : Nat) : Int)).tdiv 32 = ((a0 : Nat) : Int) / 32 := Int.tdiv_eq_ediv_of_nonneg om
 simp only [ht] at *
 exact ⟨0, _, _, rfl, GotC.bad i0 (by first | (left; omega) | (right; omega)), _, x0, s0⟩
theorem rdr_count_18 (W w : World) (p : Nat) (H fp : Chunk) (F : List Chunk) (r : List Int) (b : Bool) (hI : RdrR 84 H p r b fp) (hS : Sat W w (fp :: H :: F)) :
  Calls Try.prog 54 #[Pt p 0, I 18] w fun e w' => ∃ (v : Int) (r' : List Int) (b' : Bool), e = .returned (I v) ∧ GotC 18 r b v r' b' ∧ ∃ fp' : Chunk, RdrR 84 H p r' b' fp' ∧ Sat W w' (fp' :: H :: F) := by
 refine callsE (n := 26) Try.func54 rfl rfl (Nat.le_of_ble_eq_true rfl) ?_
 refine sR <| pu1 <| nT <| sR <| pu1 ?_
 have k0 := ((hS.pick 1 rfl).pick 1 rfl)
 change Sat _ _ (fp :: H :: F) at k0
 refine sF #[Pt p 0] Try.call53 (Calls.mono (rdr_number W _ _ _ _ _ _ _ hI k0) ?_)
 rintro _ _ ⟨f0, g0, h0, rfl, i0, t0, l0, u0, d0⟩
 refine ⟨_, rfl, ?_⟩
 change Sat _ _ (l0 :: H :: F) at d0
 refine pu1 <| nT <| seqE <| seqE ?_
 change Sat _ _ (l0 :: H :: F) at d0
 obtain ⟨b0, a0, c0, rfl, e0, j0⟩ := u0
 have hll_a_11 := e0.len; have hle_a_11 := e0.le
 refine regionE <| pu3 ?_
 by_cases m0 : (f0 : Int) < 0
 ·refine sFix 10 _ true (decide_eq_true m0) ?_
  refine pu11 <| nT <| cTt <| sR <| pu3 ?_
  refine sT1 d0 0 1 (.bool true) #[.slice b0 a0 c0, .bool true] Try.sizeOf4 ?_
  intro _ n0
  change Sat _ _ ([(p, .cells #[.slice b0 a0 c0, .bool true] 84 (0, 0))] :: H :: F) at n0
  refine nT <| sR <| pu1 <| nT ?_
  refine retE (thenK_r <| ?_)
  refine retT [I 0] ?_
  have v0 : RdrR 84 H p g0 true [(p, .cells #[.slice b0 a0 c0, .bool true] 84 (0, 0))] := ⟨_, _, _, rfl, e0, j0⟩
  have o0 := ((n0.pick 1 rfl).pick 1 rfl)
  change Sat _ _ ([(p, .cells #[.slice b0 a0 c0, .bool true] 84 (0, 0))] :: H :: F) at o0
  have ht : (((a0 : Nat) : Int)).tdiv 144 = ((a0 : Nat) : Int) / 144 := Int.tdiv_eq_ediv_of_nonneg om
  simp only [ht] at *
  exact ⟨0, _, _, rfl, GotC.bad i0 (by first | (left; omega) | (right; omega)), _, v0, o0⟩
 refine sFix 10 _ false (decide_eq_false m0) ?_
 refine pu4 <| gY ?_
 refine sL d0 0 0 (.slice b0 a0 c0) (Try.isAgg31 _) ?_
 refine pu3 <| gY ?_
 refine sQuo ((a0 : Nat) : Int) 144 ?_
 refine pu2 <| nT ?_
 by_cases p0 : (f0 : Int) > (((a0 : Nat) : Int).tdiv 144)
 rotate_left
 ·refine cF _ (decide_eq_false p0) ?_
  refine kT <| sR <| pu2 <| nT <| retE <| retT [I f0] ?_
  have w0 : RdrR 84 H p g0 h0 [(p, .cells #[.slice b0 a0 c0, .bool h0] 84 (0, 0))] := ⟨_, _, _, rfl, e0, j0⟩
  have q0 := ((d0.pick 1 rfl).pick 1 rfl)
  change Sat _ _ ([(p, .cells #[.slice b0 a0 c0, .bool h0] 84 (0, 0))] :: H :: F) at q0
  have ht : (((a0 : Nat) : Int)).tdiv 144 = ((a0 : Nat) : Int) / 144 := Int.tdiv_eq_ediv_of_nonneg om
  simp only [ht] at *
  exact ⟨f0, _, _, rfl, GotC.good i0 t0 om om, _, w0, q0⟩
 refine cT _ (decide_eq_true p0) ?_
 refine sR <| pu3 ?_
 refine sT1 d0 0 1 (.bool true) #[.slice b0 a0 c0, .bool true] Try.sizeOf4 ?_
 intro _ r0
 change Sat _ _ ([(p, .cells #[.slice b0 a0 c0, .bool true] 84 (0, 0))] :: H :: F) at r0
 refine nT <| sR <| pu1 <| nT ?_
 refine retE (thenK_r <| ?_)
 refine retT [I 0] ?_
 have x0 : RdrR 84 H p g0 true [(p, .cells #[.slice b0 a0 c0, .bool true] 84 (0, 0))] := ⟨_, _, _, rfl, e0, j0⟩
 have s0 := ((r0.pick 1 rfl).pick 1 rfl)
 change Sat _ _ ([(p, .cells #[.slice b0 a0 c0, .bool true] 84 (0, 0))] :: H :: F) at s0
 have ht : (((a0 : Nat) : Int)).tdiv 144 = ((a0 : Nat) : Int) / 144 := Int.tdiv_eq_ediv_of_nonneg om
 simp only [ht] at *
 exact ⟨0, _, _, rfl, GotC.bad i0 (by first | (left; omega) | (right; omega)), _, x0, s0⟩
theorem rdr_numbers (W w : World) (p : Nat) (H fp : Chunk) (F : List Chunk) (r : List Int) (b : Bool) (hI : RdrR 84 H p r b fp) (hS : Sat W w (fp :: H :: F)) :
  Calls Try.prog 57 #[Pt p 0] w fun e w' => ∃ (a : Option Addr) (n k : Nat) (xs : List Int) (G : Chunk) (r' : List Int) (b' : Bool), e = .returned (.slice a n k) ∧ RdT encI 1 [G] a n k xs ∧ Got (encL encN) (wfL WfI) r b xs r' b' ∧ ∃ fp' : Chunk, RdrR 84 H p r' b' fp' ∧ Sat W w' (fp' :: G :: H :: F) := by
 refine callsE (n := 15) Try.func57 rfl rfl (Nat.le_of_ble_eq_true rfl) ?_
 refine sR <| pu1 <| nT <| sR <| pu1 <| nT <| seqE <| sR <| pu1 ?_
 have h0 := ((hS.pick 1 rfl).pick 1 rfl)
 change Sat _ _ (fp :: H :: F) at h0
 refine sF #[Pt p 0, I 1] Try.call54 (Calls.mono (rdr_count_1 W _ _ _ _ _ _ _ hI h0) ?_)
 rintro _ _ ⟨a0, b0, e0, rfl, i0, f0, j0, k0⟩
 refine ⟨_, rfl, ?_⟩
 have hrng_v_4 := i0.rng; have hcap_v_4 := (by obtain ⟨_, _, _, _, _, _, h⟩ := j0; exact h : b0.length ≤ 262144)
 change Sat _ _ (f0 :: H :: F) at k0
 refine pu1 <| nT <| blockE ?_
 have t0 := Sat.nilc k0
 have u0 := OwnT.nil (enc := encI) (E := 3) (sz := 1) fR
 have l0 := t0.pick 1 rfl
 change Sat _ _ (f0 :: [] :: H :: F) at l0
 refine loopE (γ := Nat × (List Int) × (Option Addr) × Nat × Nat × Chunk × (List Int) × Bool × Chunk) (fun ⟨i, xs, a, n, k, c, r', b', fp'⟩ ρ w => AllAt ρ [(0, Pt p 0), (3, .slice a n k), (5, I a0), (6, I ((i : Nat) : Int))] ∧ Sat W w (fp' :: c :: H :: F) ∧ (i : Int) ≤ a0 ∧ Got (encF encN) (wfN WfI i) b0 e0 xs r' b' ∧ RdrR 84 H p r' b' fp' ∧ OwnT encI 3 1 a n k xs c ∧ n = i) (fun ⟨i, xs, a, n, k, c, r', b', fp'⟩ => a0.toNat - i) (0, [], none, 0, 0, [], b0, e0, f0) ⟨alA, l0, om, Got.none _ _, j0, u0, rfl⟩ ?_
 skip
 rintro ⟨i, xs, a, n, k, c, r', b', fp'⟩ ρ _ ⟨hA, m0, hi, hG, hI', hO, hn⟩
 refine cAnchor hA (fun ρ => ?_)
 clear hA
 refine sR <| pu1 <| nT <| seqE ?_
 by_cases n0 : (((i : Nat) : Int) : Int) < a0
 rotate_left
 ·refine cF _ (decide_eq_false n0) ?_
  refine exitE (xB <| ?_)
  refine thenK_n <| sR <| pu2 <| nT <| retE <| retT [.slice a n k] ?_
  have o0 := (((m0.pick 2 rfl).pick 2 rfl).pick 2 rfl)
  change Sat _ _ (fp' :: c :: H :: F) at o0
  have hZ : Got (encF encN) (wfN WfI a0.toNat) b0 e0 xs r' b' := by rw [show a0.toNat = i from by omega]; exact hG
  exact ⟨a, n, k, xs, c, r', b', rfl, (hO.rd (fun p hp => by simp [hp])), Got.list encN_ge i0 hZ, _, hI', o0⟩
 refine cT _ (decide_eq_true n0) ?_
 refine kT <| seqE <| blockE <| regionE <| pu2 ?_
 have p0 := ((m0.pick 2 rfl).pick 1 rfl)
 change Sat _ _ (fp' :: H :: c :: F) at p0
 refine sF #[Pt p 0] Try.call53 (Calls.mono (rdr_number W _ _ _ _ _ _ _ hI' p0) ?_)
 rintro _ _ ⟨c0, v0, w0, rfl, x0, _, d0, y0, q0⟩
 refine ⟨_, rfl, ?_⟩
 change Sat _ _ (d0 :: H :: c :: F) at q0
 refine sBS q0 #[I c0] Try.runUnderlying22 Try.sizeOf3 Try.zeroValue3 ?_
 intro z0 _ a1
 refine sApp (nb := 8) a1 hO 3 (RdT.blk (enc := encI) (sz := 1) (xs := [c0]) fR 1 0 rfl rfl rfl om) Try.underlying22 (i := Try.t3) kr fR ?_
 intro b1 c1 g0 _ d1 r0
 change Sat _ _ ([(z0, .cells #[I c0] 3 (0, 0))] :: d0 :: H :: g0 :: F) at r0
 refine pu1 <| nB <| regionE ?_
 refine sAdd ((i : Nat) : Int) 1 ?_
 refine pu1 <| nT ?_
 have s0 := ((((r0.pick 2 rfl).pick 3 rfl).pick 3 rfl).dropAt 3 rfl)
 change Sat _ _ (d0 :: g0 :: H :: F) at s0
 have hX := hG.snoc pfI x0
 exact ⟨(i + 1, (xs ++ [c0]), b1, (n + 1), c1, g0, v0, w0, d0), by dsimp only; omega, alA, s0, om, by first | exact hX | simpa using hX, y0, d1, om⟩
theorem rdr_taps (W w : World) (p : Nat) (H fp : Chunk) (F : List Chunk) (r : List Int) (b : Bool) (hI : RdrR 84 H p r b fp) (hS : Sat W w (fp :: H :: F)) :
  Calls Try.prog 65 #[Pt p 0] w fun e w' => ∃ (a : Option Addr) (n k : Nat) (xs : List Tap) (G : Chunk) (r' : List Int) (b' : Bool), e = .returned (.slice a n k) ∧ RdT encTap 2 [G] a n k xs ∧ (∀ z ∈ xs, Tap.Ok [G] z) ∧ Got (encL nTap) (wfL wfTap) r b (xs.map Tap.v) r' b' ∧ ∃ fp' : Chunk, RdrR 84 H p r' b' fp' ∧ Sat W w' (fp' :: G :: H :: F) := by
 refine callsE (n := 25) Try.func65 rfl rfl (Nat.le_of_ble_eq_true rfl) ?_
 refine sR <| pu1 <| nT <| sR <| pu1 <| nT <| seqE <| sR <| pu1 ?_
 have s0 := ((hS.pick 1 rfl).pick 1 rfl)
 change Sat _ _ (fp :: H :: F) at s0
 refine sF #[Pt p 0, I 2] Try.call54 (Calls.mono (rdr_count_2 W _ _ _ _ _ _ _ hI s0) ?_)
 rintro _ _ ⟨a0, i0, l0, rfl, m0, n0, t0, u0⟩
 refine ⟨_, rfl, ?_⟩
 have hrng_v_4 := m0.rng; have hcap_v_4 := (by obtain ⟨_, _, _, _, _, _, h⟩ := t0; exact h : i0.length ≤ 262144)
 change Sat _ _ (n0 :: H :: F) at u0
 refine pu1 <| nT <| blockE ?_
 have m1 := Sat.nilc u0
 have n1 := OwnT.nil (enc := encTap) (E := 94) (sz := 2) fR
 have o1 := Sat.nilc m1
 have v0 := o1.pick 2 rfl
 change Sat _ _ (n0 :: [] :: [] :: H :: F) at v0
 refine loopE (γ := Nat × (List Tap) × (Option Addr) × Nat × Nat × Chunk × Chunk × (List Int) × Bool × Chunk) (fun ⟨i, xs, a, n, k, c, G, r', b', fp'⟩ ρ w => AllAt ρ [(0, Pt p 0), (3, .slice a n k), (6, I a0), (7, I ((i : Nat) : Int))] ∧ Sat W w (fp' :: c :: G :: H :: F) ∧ (i : Int) ≤ a0 ∧ Got (encF nTap) (wfN wfTap i) i0 l0 (xs.map Tap.v) r' b' ∧ RdrR 84 H p r' b' fp' ∧ OwnT encTap 94 2 a n k xs c ∧ n = i ∧ (∀ z ∈ xs, Tap.Ok [G] z)) (fun ⟨i, xs, a, n, k, c, G, r', b', fp'⟩ => a0.toNat - i) (0, [], none, 0, 0, [], [], i0, l0, n0) ⟨alA, v0, om, Got.none _ _, t0, n1, rfl, (by intro z hz; cases hz)⟩ ?_
 skip
 rintro ⟨i, xs, a, n, k, c, G, r', b', fp'⟩ ρ _ ⟨hA, w0, hi, hG, hI', hO, hn, hD⟩
 refine cAnchor hA (fun ρ => ?_)
 clear hA
 refine sR <| pu1 <| nT <| seqE ?_
 by_cases x0 : (((i : Nat) : Int) : Int) < a0
 rotate_left
 ·refine cF _ (decide_eq_false x0) ?_
  refine exitE (xB <| ?_)
  refine thenK_n <| sR <| pu2 <| nT <| retE <| retT [.slice a n k] ?_
  have y0 := ((((w0.pick 3 rfl).pick 3 rfl).pick 3 rfl).pick 3 rfl)
  change Sat _ _ (fp' :: c :: G :: H :: F) at y0
  have p1 : Sat W _ (fp' :: (c ++ G) :: H :: F) := Sat.perm y0 (by simp)
  have hZ : Got (encF nTap) (wfN wfTap a0.toNat) i0 l0 (xs.map Tap.v) r' b' := by rw [show a0.toNat = i from by omega]; exact hG
  exact ⟨a, n, k, xs, (c ++ G), r', b', rfl, (hO.rd (fun p hp => by simp [hp])), (fun z hz => (hD z hz).of_mem mS), Got.list nTap_ge m0 hZ, _, hI', p1⟩
 refine cT _ (decide_eq_true x0) ?_
 refine kT <| seqE <| blockE <| sR <| pu1 ?_
 have z0 := ((w0.pick 3 rfl).pick 1 rfl)
 change Sat _ _ (fp' :: H :: c :: G :: F) at z0
 refine sF #[Pt p 0] Try.call53 (Calls.mono (rdr_number W _ _ _ _ _ _ _ hI' z0) ?_)
 rintro _ _ ⟨b0, _, _, rfl, a1, _, q1, r1, b1⟩
 refine ⟨_, rfl, ?_⟩
 change Sat _ _ (q1 :: H :: c :: G :: F) at b1
 refine pu1 ?_
 refine sAlloc b1 Try.zeroValue94 ?_
 intro _ _ s1
 refine sTw s1 0 [I b0, .slice none 0 0] Try.sizeOf94 ?_
 intro _ c1
 try dsimp only [List.set, List.eraseIdx, Value.cells] at c1
 refine nT <| sR <| pu1 ?_
 have d1 := ((c1.pick 2 rfl).pick 2 rfl)
 try dsimp only [List.set, List.eraseIdx, Value.cells] at d1
 refine sF #[Pt p 0] Try.call57 (Calls.mono (rdr_numbers W _ _ _ _ _ _ _ r1 d1) ?_)
 rintro _ _ ⟨c0, d0, e0, o0, p0, q0, e1, rfl, t1, f1, _, u1, g1⟩
 refine ⟨_, rfl, ?_⟩
 try dsimp only [List.set, List.eraseIdx, Value.cells] at g1
 refine pu1 ?_
 refine sT1 g1 3 1 (.slice c0 d0 e0) #[I b0, .slice c0 d0 e0] Try.sizeOf22 ?_
 intro _ r0
 try dsimp only [List.set, List.eraseIdx, Value.cells] at r0
 refine nT <| sR <| pu1 ?_
 refine sLA r0 3 0 [I b0, .slice c0 d0 e0] (Try.isAgg94 _) (Try.sizeOf94 _) ?_
 refine sBS r0 #[I b0, .slice c0 d0 e0] Try.runUnderlying58 Try.sizeOf94 Try.zeroValue94 ?_
 intro _ _ v1
 refine sApp (nb := 32) v1 hO 5 (RdT.blk (enc := encTap) (sz := 2) (xs := [(⟨b0, ⟨c0, d0, e0, o0⟩⟩ : Tap)]) fR 1 0 rfl rfl rfl om) Try.underlying58 (i := Try.t94) kr fR ?_
 intro w1 x1 h1 _ y1 i1
 try dsimp only [List.set, List.eraseIdx, Value.cells] at i1
 refine pu1 <| nT <| seqE ?_
 have j0 := (i1.pick 1 rfl)
 try dsimp only [List.set, List.eraseIdx, Value.cells] at j0
 obtain ⟨f0, g0, h0, rfl, k0, j1⟩ := u1
 have hll_a_58 := k0.len; have hle_a_58 := k0.le
 refine regionE <| pu3 ?_
 refine sL j0 0 1 (.bool e1) (Try.isAgg4 _) ?_
 refine nT ?_
 cases e1
 rotate_left
 ·refine cTt <| sR <| pu1 <| nT ?_
  refine retE (blockK_r <| thenK_r <| tR <| thenK_r <| ?_)
  refine retT [.slice none 0 0] ?_
  have z1 : RdrR 84 H p q0 true [(p, .cells #[.slice f0 g0 h0, .bool true] 84 (0, 0))] := ⟨_, _, _, rfl, k0, j1⟩
  have hX := hG.snoc pfTap (Got.tap a1 f1)
  have k1 := (((((((j0.pick 3 rfl).pick 1 rfl).dropAt 2 rfl).dropAt 2 rfl).dropAt 2 rfl).dropAt 2 rfl).dropAt 2 rfl)
  change Sat _ _ ([(p, .cells #[.slice f0 g0 h0, .bool true] 84 (0, 0))] :: H :: F) at k1
  have a2 : Sat W _ ([(p, .cells #[.slice f0 g0 h0, .bool true] 84 (0, 0))] :: [] :: H :: F) := Sat.perm k1 (by simp)
  have hZ := (hX.stop (n := a0.toNat) om ([] : List TapV))
  exact ⟨none, 0, 0, [], [], _, _, rfl, RdT.nil (enc := encTap) (sz := 2) fR _, (fun z hz => by cases hz), Got.list nTap_ge m0 hZ, _, z1, a2⟩
 refine cFf <| skipE <| blockK_n <| thenK_n <| regionE ?_
 refine sAdd ((i : Nat) : Int) 1 ?_
 refine pu1 <| nT ?_
 have b2 : RdrR 84 H p q0 false [(p, .cells #[.slice f0 g0 h0, .bool false] 84 (0, 0))] := ⟨_, _, _, rfl, k0, j1⟩
 have l1 := (((((((j0.pick 3 rfl).pick 6 rfl).pick 4 rfl).pick 6 rfl).pick 4 rfl).dropAt 5 rfl).dropAt 5 rfl)
 try dsimp only [List.set, List.eraseIdx, Value.cells] at l1
 have hX := hG.snoc pfTap (Got.tap a1 f1)
 have c2 := (Sat.perm (cs' := [(p, .cells #[.slice f0 g0 h0, .bool false] 84 (0, 0))] :: h1 :: (p0 ++ G) :: H :: F) l1 (by simp))
 have hD2 : ∀ z ∈ xs ++ [(⟨b0, ⟨c0, d0, e0, o0⟩⟩ : Tap)], Tap.Ok [(p0 ++ G)] z := by
  intro z hz
  rcases List.mem_append.1 hz with h | h
  ·exact (hD z h).of_mem mS
  ·simp only [List.mem_singleton] at h; subst h; exact ⟨t1.of_mem mS⟩
 exact ⟨(i + 1, (xs ++ [(⟨b0, ⟨c0, d0, e0, o0⟩⟩ : Tap)]), w1, (n + 1), x1, h1, (p0 ++ G), q0, false, [(p, .cells #[.slice f0 g0 h0, .bool false] 84 (0, 0))]), by dsimp only; omega, alA, c2, om, by simpa [Tap.v] using hX, b2, y1, om, hD2⟩
theorem rdr_ops (W w : World) (p : Nat) (H fp : Chunk) (F : List Chunk) (r : List Int) (b : Bool) (hI : RdrR 84 H p r b fp) (hS : Sat W w (fp :: H :: F)) :
  Calls Try.prog 66 #[Pt p 0] w fun e w' => ∃ (a : Option Addr) (n k : Nat) (xs : List POp) (G : Chunk) (r' : List Int) (b' : Bool), e = .returned (.slice a n k) ∧ RdT encPOp 2 [G] a n k xs ∧ Got (encL nOp) (wfL wfOp) r b xs r' b' ∧ ∃ fp' : Chunk, RdrR 84 H p r' b' fp' ∧ Sat W w' (fp' :: G :: H :: F) := by
 refine callsE (n := 21) Try.func66 rfl rfl (Nat.le_of_ble_eq_true rfl) ?_
 refine sR <| pu1 <| nT <| sR <| pu1 <| nT <| seqE <| sR <| pu1 ?_
 have k0 := ((hS.pick 1 rfl).pick 1 rfl)
 change Sat _ _ (fp :: H :: F) at k0
 refine sF #[Pt p 0, I 2] Try.call54 (Calls.mono (rdr_count_2 W _ _ _ _ _ _ _ hI k0) ?_)
 rintro _ _ ⟨c0, d0, g0, rfl, l0, h0, m0, n0⟩
 refine ⟨_, rfl, ?_⟩
 have hrng_v_4 := l0.rng; have hcap_v_4 := (by obtain ⟨_, _, _, _, _, _, h⟩ := m0; exact h : d0.length ≤ 262144)
 change Sat _ _ (h0 :: H :: F) at n0
 refine pu1 <| nT <| blockE ?_
 have a1 := Sat.nilc n0
 have b1 := OwnT.nil (enc := encPOp) (E := 66) (sz := 2) fR
 have o0 := a1.pick 1 rfl
 change Sat _ _ (h0 :: [] :: H :: F) at o0
 refine loopE (γ := Nat × (List POp) × (Option Addr) × Nat × Nat × Chunk × (List Int) × Bool × Chunk) (fun ⟨i, xs, a, n, k, c, r', b', fp'⟩ ρ w => AllAt ρ [(0, Pt p 0), (3, .slice a n k), (6, I c0), (7, I ((i : Nat) : Int))] ∧ Sat W w (fp' :: c :: H :: F) ∧ (i : Int) ≤ c0 ∧ Got (encF nOp) (wfN wfOp i) d0 g0 xs r' b' ∧ RdrR 84 H p r' b' fp' ∧ OwnT encPOp 66 2 a n k xs c ∧ n = i) (fun ⟨i, xs, a, n, k, c, r', b', fp'⟩ => c0.toNat - i) (0, [], none, 0, 0, [], d0, g0, h0) ⟨alA, o0, om, Got.none _ _, m0, b1, rfl⟩ ?_
 skip
 rintro ⟨i, xs, a, n, k, c, r', b', fp'⟩ ρ _ ⟨hA, p0, hi, hG, hI', hO, hn⟩
 refine cAnchor hA (fun ρ => ?_)
 clear hA
 refine sR <| pu1 <| nT <| seqE ?_
 by_cases q0 : (((i : Nat) : Int) : Int) < c0
 rotate_left
 ·refine cF _ (decide_eq_false q0) ?_
  refine exitE (xB <| ?_)
  refine thenK_n <| sR <| pu2 <| nT <| retE <| retT [.slice a n k] ?_
  have r0 := (((p0.pick 2 rfl).pick 2 rfl).pick 2 rfl)
  change Sat _ _ (fp' :: c :: H :: F) at r0
  have hZ : Got (encF nOp) (wfN wfOp c0.toNat) d0 g0 xs r' b' := by rw [show c0.toNat = i from by omega]; exact hG
  exact ⟨a, n, k, xs, c, r', b', rfl, (hO.rd (fun p hp => by simp [hp])), Got.list nOp_ge l0 hZ, _, hI', r0⟩
 refine cT _ (decide_eq_true q0) ?_
 refine kT <| seqE <| blockE <| sR <| pu1 ?_
 have s0 := ((p0.pick 2 rfl).pick 1 rfl)
 change Sat _ _ (fp' :: H :: c :: F) at s0
 refine sF #[Pt p 0] Try.call53 (Calls.mono (rdr_number W _ _ _ _ _ _ _ hI' s0) ?_)
 rintro _ _ ⟨a0, _, _, rfl, c1, _, i0, d1, t0⟩
 refine ⟨_, rfl, ?_⟩
 change Sat _ _ (i0 :: H :: c :: F) at t0
 refine pu1 ?_
 refine sAlloc t0 Try.zeroValue66 ?_
 intro e0 _ e1
 refine sTw e1 0 [I a0, I 0] Try.sizeOf66 ?_
 intro _ u0
 change Sat _ _ ([(e0, .cells #[I a0, I 0] 66 (0, 0))] :: i0 :: H :: c :: F) at u0
 refine nT <| sR <| pu1 ?_
 have v0 := ((u0.pick 2 rfl).pick 2 rfl)
 change Sat _ _ (i0 :: H :: [(e0, .cells #[I a0, I 0] 66 (0, 0))] :: c :: F) at v0
 refine sF #[Pt p 0] Try.call53 (Calls.mono (rdr_number W _ _ _ _ _ _ _ d1 v0) ?_)
 rintro _ _ ⟨b0, f1, g1, rfl, h1, _, f0, i1, w0⟩
 refine ⟨_, rfl, ?_⟩
 change Sat _ _ (f0 :: H :: [(e0, .cells #[I a0, I 0] 66 (0, 0))] :: c :: F) at w0
 refine pu1 ?_
 refine sT1 w0 2 1 (I b0) #[I a0, I b0] Try.sizeOf3 ?_
 intro _ j0
 change Sat _ _ (f0 :: H :: [(e0, .cells #[I a0, I b0] 66 (0, 0))] :: c :: F) at j0
 refine nT <| regionE <| pu1 ?_
 refine sLA j0 2 0 [I a0, I b0] (Try.isAgg66 _) (Try.sizeOf66 _) ?_
 refine sBS j0 #[I a0, I b0] Try.runUnderlying59 Try.sizeOf66 Try.zeroValue66 ?_
 intro _ _ j1
 refine sApp (nb := 16) j1 hO 4 (RdT.blk (enc := encPOp) (sz := 2) (xs := [(⟨a0, b0⟩ : POp)]) fR 1 0 rfl rfl rfl om) Try.underlying59 (i := Try.t66) kr fR ?_
 intro k1 l1 x0 _ m1 y0
 try dsimp only [List.set, List.eraseIdx, Value.cells] at y0
 refine pu1 <| nB <| regionE ?_
 refine sAdd ((i : Nat) : Int) 1 ?_
 refine pu1 <| nT ?_
 have z0 := (((((y0.pick 2 rfl).pick 4 rfl).pick 3 rfl).dropAt 3 rfl).dropAt 3 rfl)
 change Sat _ _ (f0 :: x0 :: H :: F) at z0
 have hX := hG.snoc pfOp (Got.op c1 h1)
 exact ⟨(i + 1, (xs ++ [(⟨a0, b0⟩ : POp)]), k1, (n + 1), l1, x0, f1, g1, f0), by dsimp only; omega, alA, z0, om, by first | exact hX | simpa using hX, i1, m1, om⟩
theorem rrf_number (W w : World) (p : Nat) (H fp : Chunk) (F : List Chunk) (r : List Int) (b : Bool) (hI : RdrR 102 H p r b fp) (hS : Sat W w (fp :: H :: F)) :
  Calls Try.prog 49 #[Pt p 0] w fun e w' => ∃ (v : Int) (r' : List Int) (b' : Bool), e = .returned (I v) ∧ Got encN WfI r b v r' b' ∧ WfI v ∧ ∃ fp' : Chunk, RdrR 102 H p r' b' fp' ∧ Sat W w' (fp' :: H :: F) := by
 obtain ⟨a, n, k, rfl, hR, hB⟩ := hI
 have hle := hR.le; have hll := hR.len
 refine callsE (n := 45) Try.func49 rfl rfl (Nat.le_of_ble_eq_true rfl) ?_
 refine sR <| pu1 <| nT <| seqE <| sR <| pu3 ?_
 refine sL hS 0 1 (.bool b) (Try.isAgg4 _) ?_
 refine pu1 ?_
 cases b
 rotate_left
 ·refine pu7 <| nT <| cTt <| sR <| pu3 ?_
  refine sT1 hS 0 1 (.bool true) #[.slice a n k, .bool true] Try.sizeOf4 ?_
  intro _ i0
  change Sat _ _ ([(p, .cells #[.slice a n k, .bool true] 102 (0, 0))] :: H :: F) at i0
  refine nT <| sR <| pu1 <| nT ?_
  refine retE (thenK_r <| ?_)
  refine retT [I 0] ?_
  have j0 := ((i0.pick 1 rfl).pick 1 rfl)
  change Sat _ _ ([(p, .cells #[.slice a n k, .bool true] 102 (0, 0))] :: H :: F) at j0
  exact ⟨0, r, true, rfl, Got.fail 0 (by first | exact .inl rfl | (right; omega)), by unfold WfI; omega, _, ⟨_, _, _, rfl, hR, hB⟩, j0⟩
 refine pu3 <| gY ?_
 refine sL hS 0 0 (.slice a n k) (Try.isAgg31 _) ?_
 refine pu3 <| nT ?_
 by_cases k0 : (((n : Nat) : Int) : Int) < 8
 ·refine cT _ (decide_eq_true k0) ?_
  refine sR <| pu3 ?_
  refine sT1 hS 0 1 (.bool true) #[.slice a n k, .bool true] Try.sizeOf4 ?_
  intro _ l0
  change Sat _ _ ([(p, .cells #[.slice a n k, .bool true] 102 (0, 0))] :: H :: F) at l0
  refine nT <| sR <| pu1 <| nT ?_
  refine retE (thenK_r <| ?_)
  refine retT [I 0] ?_
  have m0 := ((l0.pick 1 rfl).pick 1 rfl)
  change Sat _ _ ([(p, .cells #[.slice a n k, .bool true] 102 (0, 0))] :: H :: F) at m0
  exact ⟨0, r, true, rfl, Got.fail 0 (by first | exact .inl rfl | (right; omega)), by unfold WfI; omega, _, ⟨_, _, _, rfl, hR, hB⟩, m0⟩
 refine cF _ (decide_eq_false k0) ?_
 refine kT <| sR <| pu1 <| nT <| seqE <| sR <| pu1 <| nT <| blockE ?_
 refine loopN 9 ?_
 refine roundS ?_
 refine seqE <| sR <| pu2 <| nT <| cTt <| kT <| seqE <| blockE <| regionE <| pu1 ?_
 refine stepY (.int .u64 ((0 : Int) * 256)) rfl rfl (Y_shl .u64 .u64 0 8 256 _ rfl kr kr (by decide) (by decide) (wrapIn_u64 _ om)) ?_
 refine pu3 ?_
 refine sL hS 0 0 (.slice a n k) (Try.isAgg31 _) ?_
 refine pu1 ?_
 refine sIdx hR 0 Try.runUnderlying31 Try.sizeOf5 ?_
 intro a0 _ _ x0 y0
 have n0 : r[0]? = some a0 := by have h := x0; first | exact h | (simp only [List.drop_zero] at h; rw [List.getElem?_take] at h; simpa using h)
 have hb_x_5 := hB.1 a0 (List.mem_of_getElem? n0)
 refine sLp hS (y0.up 1 rfl) 0 (.int .u8 a0) (Try.isAgg5 _) ?_
 refine stepY (.int .u64 a0) rfl rfl (Y_conv (k := .u8) (a := a0) Try.underlying5 Try.underlying95 (wrapIn_u64 _ om) rfl kr) ?_
 refine stepY (.int .u64 (((0 : Int) * 256) + a0)) rfl rfl (Y_orLow ((0 : Int) * 256) a0 rfl kr kr om om om) ?_
 refine pu1 <| nB <| regionE <| pu3 <| nT ?_
 refine roundS ?_
 refine seqE <| sR <| pu2 <| nT <| cTt <| kT <| seqE <| blockE <| regionE <| pu1 ?_
 refine stepY (.int .u64 ((((0 : Int) * 256) + a0) * 256)) rfl rfl (Y_shl .u64 .u64 (((0 : Int) * 256) + a0) 8 256 _ rfl kr kr (by decide) (by decide) (wrapIn_u64 _ om)) ?_
 refine pu3 ?_
 refine sL hS 0 0 (.slice a n k) (Try.isAgg31 _) ?_
 refine pu1 ?_
 refine sIdx hR 1 Try.runUnderlying31 Try.sizeOf5 ?_
 intro b0 _ _ z0 a1
 have o0 : r[1]? = some b0 := by have h := z0; first | exact h | (simp only [List.drop_zero] at h; rw [List.getElem?_take] at h; simpa using h)
 have hb_x_11 := hB.1 b0 (List.mem_of_getElem? o0)
 refine sLp hS (a1.up 1 rfl) 0 (.int .u8 b0) (Try.isAgg5 _) ?_
 refine stepY (.int .u64 b0) rfl rfl (Y_conv (k := .u8) (a := b0) Try.underlying5 Try.underlying95 (wrapIn_u64 _ om) rfl kr) ?_
 refine stepY (.int .u64 (((((0 : Int) * 256) + a0) * 256) + b0)) rfl rfl (Y_orLow ((((0 : Int) * 256) + a0) * 256) b0 rfl kr kr om om om) ?_
 refine pu1 <| nB <| regionE <| pu3 <| nT ?_
 refine roundS ?_
 refine seqE <| sR <| pu2 <| nT <| cTt <| kT <| seqE <| blockE <| regionE <| pu1 ?_
 refine stepY (.int .u64 ((((((0 : Int) * 256) + a0) * 256) + b0) * 256)) rfl rfl (Y_shl .u64 .u64 (((((0 : Int) * 256) + a0) * 256) + b0) 8 256 _ rfl kr kr (by decide) (by decide) (wrapIn_u64 _ om)) ?_
 refine pu3 ?_
 refine sL hS 0 0 (.slice a n k) (Try.isAgg31 _) ?_
 refine pu1 ?_
 refine sIdx hR 2 Try.runUnderlying31 Try.sizeOf5 ?_
 intro c0 _ _ b1 c1
 have p0 : r[2]? = some c0 := by have h := b1; first | exact h | (simp only [List.drop_zero] at h; rw [List.getElem?_take] at h; simpa using h)
 have hb_x_17 := hB.1 c0 (List.mem_of_getElem? p0)
 refine sLp hS (c1.up 1 rfl) 0 (.int .u8 c0) (Try.isAgg5 _) ?_
 refine stepY (.int .u64 c0) rfl rfl (Y_conv (k := .u8) (a := c0) Try.underlying5 Try.underlying95 (wrapIn_u64 _ om) rfl kr) ?_
 refine stepY (.int .u64 (((((((0 : Int) * 256) + a0) * 256) + b0) * 256) + c0)) rfl rfl (Y_orLow ((((((0 : Int) * 256) + a0) * 256) + b0) * 256) c0 rfl kr kr om om om) ?_
 refine pu1 <| nB <| regionE <| pu3 <| nT ?_
 refine roundS ?_
 refine seqE <| sR <| pu2 <| nT <| cTt <| kT <| seqE <| blockE <| regionE <| pu1 ?_
 refine stepY (.int .u64 ((((((((0 : Int) * 256) + a0) * 256) + b0) * 256) + c0) * 256)) rfl rfl (Y_shl .u64 .u64 (((((((0 : Int) * 256) + a0) * 256) + b0) * 256) + c0) 8 256 _ rfl kr kr (by decide) (by decide) (wrapIn_u64 _ om)) ?_
 refine pu3 ?_
 refine sL hS 0 0 (.slice a n k) (Try.isAgg31 _) ?_
 refine pu1 ?_
 refine sIdx hR 3 Try.runUnderlying31 Try.sizeOf5 ?_
 intro d0 _ _ d1 e1
 have q0 : r[3]? = some d0 := by have h := d1; first | exact h | (simp only [List.drop_zero] at h; rw [List.getElem?_take] at h; simpa using h)
 have hb_x_23 := hB.1 d0 (List.mem_of_getElem? q0)
 refine sLp hS (e1.up 1 rfl) 0 (.int .u8 d0) (Try.isAgg5 _) ?_
 refine stepY (.int .u64 d0) rfl rfl (Y_conv (k := .u8) (a := d0) Try.underlying5 Try.underlying95 (wrapIn_u64 _ om) rfl kr) ?_
 refine stepY (.int .u64 (((((((((0 : Int) * 256) + a0) * 256) + b0) * 256) + c0) * 256) + d0)) rfl rfl (Y_orLow ((((((((0 : Int) * 256) + a0) * 256) + b0) * 256) + c0) * 256) d0 rfl kr kr om om om) ?_
 refine pu1 <| nB <| regionE <| pu3 <| nT ?_
 refine roundS ?_
 refine seqE <| sR <| pu2 <| nT <| cTt <| kT <| seqE <| blockE <| regionE <| pu1 ?_
 refine stepY (.int .u64 ((((((((((0 : Int) * 256) + a0) * 256) + b0) * 256) + c0) * 256) + d0) * 256)) rfl rfl (Y_shl .u64 .u64 (((((((((0 : Int) * 256) + a0) * 256) + b0) * 256) + c0) * 256) + d0) 8 256 _ rfl kr kr (by decide) (by decide) (wrapIn_u64 _ om)) ?_
 refine pu3 ?_
 refine sL hS 0 0 (.slice a n k) (Try.isAgg31 _) ?_
 refine pu1 ?_
 refine sIdx hR 4 Try.runUnderlying31 Try.sizeOf5 ?_
 intro e0 _ _ f1 g1
 have r0 : r[4]? = some e0 := by have h := f1; first | exact h | (simp only [List.drop_zero] at h; rw [List.getElem?_take] at h; simpa using h)
 have hb_x_29 := hB.1 e0 (List.mem_of_getElem? r0)
 refine sLp hS (g1.up 1 rfl) 0 (.int .u8 e0) (Try.isAgg5 _) ?_
 refine stepY (.int .u64 e0) rfl rfl (Y_conv (k := .u8) (a := e0) Try.underlying5 Try.underlying95 (wrapIn_u64 _ om) rfl kr) ?_
 refine stepY (.int .u64 (((((((((((0 : Int) * 256) + a0) * 256) + b0) * 256) + c0) * 256) + d0) * 256) + e0)) rfl rfl (Y_orLow ((((((((((0 : Int) * 256) + a0) * 256) + b0) * 256) + c0) * 256) + d0) * 256) e0 rfl kr kr om om om) ?_
 refine pu1 <| nB <| regionE <| pu3 <| nT ?_
 refine roundS ?_
 refine seqE <| sR <| pu2 <| nT <| cTt <| kT <| seqE <| blockE <| regionE <| pu1 ?_
 refine stepY (.int .u64 ((((((((((((0 : Int) * 256) + a0) * 256) + b0) * 256) + c0) * 256) + d0) * 256) + e0) * 256)) rfl rfl (Y_shl .u64 .u64 (((((((((((0 : Int) * 256) + a0) * 256) + b0) * 256) + c0) * 256) + d0) * 256) + e0) 8 256 _ rfl kr kr (by decide) (by decide) (wrapIn_u64 _ om)) ?_
 refine pu3 ?_
 refine sL hS 0 0 (.slice a n k) (Try.isAgg31 _) ?_
 refine pu1 ?_
 refine sIdx hR 5 Try.runUnderlying31 Try.sizeOf5 ?_
 intro f0 _ _ h1 i1
 have s0 : r[5]? = some f0 := by have h := h1; first | exact h | (simp only [List.drop_zero] at h; rw [List.getElem?_take] at h; simpa using h)
 have hb_x_35 := hB.1 f0 (List.mem_of_getElem? s0)
 refine sLp hS (i1.up 1 rfl) 0 (.int .u8 f0) (Try.isAgg5 _) ?_
 refine stepY (.int .u64 f0) rfl rfl (Y_conv (k := .u8) (a := f0) Try.underlying5 Try.underlying95 (wrapIn_u64 _ om) rfl kr) ?_
 refine stepY (.int .u64 (((((((((((((0 : Int) * 256) + a0) * 256) + b0) * 256) + c0) * 256) + d0) * 256) + e0) * 256) + f0)) rfl rfl (Y_orLow ((((((((((((0 : Int) * 256) + a0) * 256) + b0) * 256) + c0) * 256) + d0) * 256) + e0) * 256) f0 rfl kr kr om om om) ?_
 refine pu1 <| nB <| regionE <| pu3 <| nT ?_
 refine roundS ?_
 refine seqE <| sR <| pu2 <| nT <| cTt <| kT <| seqE <| blockE <| regionE <| pu1 ?_
 refine stepY (.int .u64 ((((((((((((((0 : Int) * 256) + a0) * 256) + b0) * 256) + c0) * 256) + d0) * 256) + e0) * 256) + f0) * 256)) rfl rfl (Y_shl .u64 .u64 (((((((((((((0 : Int) * 256) + a0) * 256) + b0) * 256) + c0) * 256) + d0) * 256) + e0) * 256) + f0) 8 256 _ rfl kr kr (by decide) (by decide) (wrapIn_u64 _ om)) ?_
 refine pu3 ?_
 refine sL hS 0 0 (.slice a n k) (Try.isAgg31 _) ?_
 refine pu1 ?_
 refine sIdx hR 6 Try.runUnderlying31 Try.sizeOf5 ?_
 intro g0 _ _ j1 k1
 have t0 : r[6]? = some g0 := by have h := j1; first | exact h | (simp only [List.drop_zero] at h; rw [List.getElem?_take] at h; simpa using h)
 have hb_x_41 := hB.1 g0 (List.mem_of_getElem? t0)
 refine sLp hS (k1.up 1 rfl) 0 (.int .u8 g0) (Try.isAgg5 _) ?_
 refine stepY (.int .u64 g0) rfl rfl (Y_conv (k := .u8) (a := g0) Try.underlying5 Try.underlying95 (wrapIn_u64 _ om) rfl kr) ?_
 refine stepY (.int .u64 (((((((((((((((0 : Int) * 256) + a0) * 256) + b0) * 256) + c0) * 256) + d0) * 256) + e0) * 256) + f0) * 256) + g0)) rfl rfl (Y_orLow ((((((((((((((0 : Int) * 256) + a0) * 256) + b0) * 256) + c0) * 256) + d0) * 256) + e0) * 256) + f0) * 256) g0 rfl kr kr om om om) ?_
 refine pu1 <| nB <| regionE <| pu3 <| nT ?_
 refine roundS ?_
 refine seqE <| sR <| pu2 <| nT <| cTt <| kT <| seqE <| blockE <| regionE <| pu1 ?_
 refine stepY (.int .u64 ((((((((((((((((0 : Int) * 256) + a0) * 256) + b0) * 256) + c0) * 256) + d0) * 256) + e0) * 256) + f0) * 256) + g0) * 256)) rfl rfl (Y_shl .u64 .u64 (((((((((((((((0 : Int) * 256) + a0) * 256) + b0) * 256) + c0) * 256) + d0) * 256) + e0) * 256) + f0) * 256) + g0) 8 256 _ rfl kr kr (by decide) (by decide) (wrapIn_u64 _ om)) ?_
 refine pu3 ?_
 refine sL hS 0 0 (.slice a n k) (Try.isAgg31 _) ?_
 refine pu1 ?_
 refine sIdx hR 7 Try.runUnderlying31 Try.sizeOf5 ?_
 intro h0 _ _ l1 m1
 have u0 : r[7]? = some h0 := by have h := l1; first | exact h | (simp only [List.drop_zero] at h; rw [List.getElem?_take] at h; simpa using h)
 have hb_x_47 := hB.1 h0 (List.mem_of_getElem? u0)
 refine sLp hS (m1.up 1 rfl) 0 (.int .u8 h0) (Try.isAgg5 _) ?_
 refine stepY (.int .u64 h0) rfl rfl (Y_conv (k := .u8) (a := h0) Try.underlying5 Try.underlying95 (wrapIn_u64 _ om) rfl kr) ?_
 refine stepY (.int .u64 (((((((((((((((((0 : Int) * 256) + a0) * 256) + b0) * 256) + c0) * 256) + d0) * 256) + e0) * 256) + f0) * 256) + g0) * 256) + h0)) rfl rfl (Y_orLow ((((((((((((((((0 : Int) * 256) + a0) * 256) + b0) * 256) + c0) * 256) + d0) * 256) + e0) * 256) + f0) * 256) + g0) * 256) h0 rfl kr kr om om om) ?_
 refine pu1 <| nB <| regionE <| pu3 <| nT ?_
 refine roundS ?_
 refine seqE <| sR <| pu2 <| nT <| cFf ?_
 refine exitE (xB <| ?_)
 refine thenK_n <| sR <| pu4 ?_
 refine sL hS 0 0 (.slice a n k) (Try.isAgg31 _) ?_
 refine sSl (some 8) none 8 n Try.runUnderlying31 Try.sizeOf5 ⟨by decide, rfl⟩ rfl om om ?_ (a := a) (len := n) (cap := k)
 have n1 := hR.part (lo := 8) (hi := n) om om
 refine pu2 ?_
 refine sT1 hS 0 0 (.slice (partAddr a k 8 1) (n - 8) (k - 8)) #[.slice (partAddr a k 8 1) (n - 8) (k - 8), .bool false] Try.sizeOf31 ?_
 intro _ v0
 try dsimp only [List.set, List.eraseIdx, Value.cells] at v0
 refine nT <| sR <| pu1 ?_
 refine stepY (I (IntKind.i64.wrap (((((((((((((((((0 : Int) * 256) + a0) * 256) + b0) * 256) + c0) * 256) + d0) * 256) + e0) * 256) + f0) * 256) + g0) * 256) + h0))) rfl rfl (Y_conv (k := .u64) (a := (((((((((((((((((0 : Int) * 256) + a0) * 256) + b0) * 256) + c0) * 256) + d0) * 256) + e0) * 256) + f0) * 256) + g0) * 256) + h0)) Try.underlying95 Try.underlying3 (rfl) rfl kr) ?_
 refine pu1 <| nT <| retE <| retT [I (IntKind.i64.wrap (((((((((((((((((0 : Int) * 256) + a0) * 256) + b0) * 256) + c0) * 256) + d0) * 256) + e0) * 256) + f0) * 256) + g0) * 256) + h0))] ?_
 have w0 := ((v0.pick 1 rfl).pick 1 rfl)
 try dsimp only [List.set, List.eraseIdx, Value.cells] at w0
 have hd := dec8 hb_x_5 hb_x_11 hb_x_17 hb_x_23 hb_x_29 hb_x_35 hb_x_41 hb_x_47 (((((((((((((((((0 : Int) * 256) + a0) * 256) + b0) * 256) + c0) * 256) + d0) * 256) + e0) * 256) + f0) * 256) + g0) * 256) + h0) om
 have hR2 := n1
 rw [List.take_of_length_le (by simp; omega)] at hR2
 exact ⟨_, r.drop 8, false, rfl, Got.read (take8 n0 o0 p0 q0 r0 s0 t0 u0) hd.1 hd.2, hd.2, _, ⟨_, _, _, rfl, hR2, fun x hx => hB.1 x (List.mem_of_mem_drop hx), by have := hB.2; simp; omega⟩, w0⟩
theorem rrf_count (W w : World) (p : Nat) (H fp : Chunk) (F : List Chunk) (r : List Int) (b : Bool) (hI : RdrR 102 H p r b fp) (hS : Sat W w (fp :: H :: F)) :
  Calls Try.prog 50 #[Pt p 0] w fun e w' => ∃ (v : Int) (r' : List Int) (b' : Bool), e = .returned (I v) ∧ GotC 1 r b v r' b' ∧ ∃ fp' : Chunk, RdrR 102 H p r' b' fp' ∧ Sat W w' (fp' :: H :: F) := by
 refine callsE (n := 22) Try.func50 rfl rfl (Nat.le_of_ble_eq_true rfl) ?_
 refine sR <| pu1 <| nT <| sR <| pu1 ?_
 have k0 := ((hS.pick 1 rfl).pick 1 rfl)
 change Sat _ _ (fp :: H :: F) at k0
 refine sF #[Pt p 0] Try.call49 (Calls.mono (rrf_number W _ _ _ _ _ _ _ hI k0) ?_)
 rintro _ _ ⟨f0, g0, h0, rfl, i0, t0, l0, u0, d0⟩
 refine ⟨_, rfl, ?_⟩
 change Sat _ _ (l0 :: H :: F) at d0
 refine pu1 <| nT <| seqE <| seqE ?_
 change Sat _ _ (l0 :: H :: F) at d0
 obtain ⟨b0, a0, c0, rfl, e0, j0⟩ := u0
 have hll_a_11 := e0.len; have hle_a_11 := e0.le
 refine regionE <| pu3 ?_
 by_cases m0 : (f0 : Int) < 0
 ·refine sFix 8 _ true (decide_eq_true m0) ?_
  refine pu9 <| nT <| cTt <| sR <| pu3 ?_
  refine sT1 d0 0 1 (.bool true) #[.slice b0 a0 c0, .bool true] Try.sizeOf4 ?_
  intro _ n0
  change Sat _ _ ([(p, .cells #[.slice b0 a0 c0, .bool true] 102 (0, 0))] :: H :: F) at n0
  refine nT <| sR <| pu1 <| nT ?_
  refine retE (thenK_r <| ?_)
  refine retT [I 0] ?_
  have v0 : RdrR 102 H p g0 true [(p, .cells #[.slice b0 a0 c0, .bool true] 102 (0, 0))] := ⟨_, _, _, rfl, e0, j0⟩
  have o0 := ((n0.pick 1 rfl).pick 1 rfl)
  change Sat _ _ ([(p, .cells #[.slice b0 a0 c0, .bool true] 102 (0, 0))] :: H :: F) at o0
  have ht : (((a0 : Nat) : Int)).tdiv 8 = ((a0 : Nat) : Int) / 8 := Int.tdiv_eq_ediv_of_nonneg om
  simp only [ht] at *
  exact ⟨0, _, _, rfl, GotC.bad i0 (by first | (left; omega) | (right; omega)), _, v0, o0⟩
 refine sFix 8 _ false (decide_eq_false m0) ?_
 refine pu4 <| gY ?_
 refine sL d0 0 0 (.slice b0 a0 c0) (Try.isAgg31 _) ?_
 refine pu1 <| gY ?_
 refine sQuo ((a0 : Nat) : Int) 8 ?_
 refine pu2 <| nT ?_
 by_cases p0 : (f0 : Int) > (((a0 : Nat) : Int).tdiv 8)
 rotate_left
 ·refine cF _ (decide_eq_false p0) ?_
  refine kT <| sR <| pu2 <| nT <| retE <| retT [I f0] ?_
  have w0 : RdrR 102 H p g0 h0 [(p, .cells #[.slice b0 a0 c0, .bool h0] 102 (0, 0))] := ⟨_, _, _, rfl, e0, j0⟩
  have q0 := ((d0.pick 1 rfl).pick 1 rfl)
  change Sat _ _ ([(p, .cells #[.slice b0 a0 c0, .bool h0] 102 (0, 0))] :: H :: F) at q0
  have ht : (((a0 : Nat) : Int)).tdiv 8 = ((a0 : Nat) : Int) / 8 := Int.tdiv_eq_ediv_of_nonneg om
  simp only [ht] at *
  exact ⟨f0, _, _, rfl, GotC.good i0 t0 om om, _, w0, q0⟩
 refine cT _ (decide_eq_true p0) ?_
 refine sR <| pu3 ?_
 refine sT1 d0 0 1 (.bool true) #[.slice b0 a0 c0, .bool true] Try.sizeOf4 ?_
 intro _ r0
 change Sat _ _ ([(p, .cells #[.slice b0 a0 c0, .bool true] 102 (0, 0))] :: H :: F) at r0
 refine nT <| sR <| pu1 <| nT ?_
 refine retE (thenK_r <| ?_)
 refine retT [I 0] ?_
 have x0 : RdrR 102 H p g0 true [(p, .cells #[.slice b0 a0 c0, .bool true] 102 (0, 0))] := ⟨_, _, _, rfl, e0, j0⟩
 have s0 := ((r0.pick 1 rfl).pick 1 rfl)
 change Sat _ _ ([(p, .cells #[.slice b0 a0 c0, .bool true] 102 (0, 0))] :: H :: F) at s0
 have ht : (((a0 : Nat) : Int)).tdiv 8 = ((a0 : Nat) : Int) / 8 := Int.tdiv_eq_ediv_of_nonneg om
 simp only [ht] at *
 exact ⟨0, _, _, rfl, GotC.bad i0 (by first | (left; omega) | (right; omega)), _, x0, s0⟩
theorem rrf_numbers (W w : World) (p : Nat) (H fp : Chunk) (F : List Chunk) (r : List Int) (b : Bool) (hI : RdrR 102 H p r b fp) (hS : Sat W w (fp :: H :: F)) :
  Calls Try.prog 51 #[Pt p 0] w fun e w' => ∃ (a : Option Addr) (n k : Nat) (xs : List Int) (G : Chunk) (r' : List Int) (b' : Bool), e = .returned (.slice a n k) ∧ RdT encI 1 [G] a n k xs ∧ Got (encL encN) (wfL WfI) r b xs r' b' ∧ ∃ fp' : Chunk, RdrR 102 H p r' b' fp' ∧ Sat W w' (fp' :: G :: H :: F) := by
 refine callsE (n := 17) Try.func51 rfl rfl (Nat.le_of_ble_eq_true rfl) ?_
 refine sR <| pu1 <| nT <| sR <| pu1 <| nT <| seqE <| sR <| pu1 ?_
 have h0 := ((hS.pick 1 rfl).pick 1 rfl)
 change Sat _ _ (fp :: H :: F) at h0
 refine sF #[Pt p 0] Try.call50 (Calls.mono (rrf_count W _ _ _ _ _ _ _ hI h0) ?_)
 rintro _ _ ⟨a0, b0, e0, rfl, i0, f0, j0, k0⟩
 refine ⟨_, rfl, ?_⟩
 have hrng_v_4 := i0.rng; have hcap_v_4 := (by obtain ⟨_, _, _, _, _, _, h⟩ := j0; exact h : b0.length ≤ 262144)
 change Sat _ _ (f0 :: H :: F) at k0
 refine pu1 <| nT <| blockE ?_
 have t0 := Sat.nilc k0
 have u0 := OwnT.nil (enc := encI) (E := 3) (sz := 1) fR
 have l0 := t0.pick 1 rfl
 change Sat _ _ (f0 :: [] :: H :: F) at l0
 refine loopE (γ := Nat × (List Int) × (Option Addr) × Nat × Nat × Chunk × (List Int) × Bool × Chunk × Int) (fun ⟨i, xs, a, n, k, c, r', b', fp', j⟩ ρ w => AllAt ρ [(0, Pt p 0), (3, .slice a n k), (4, I j)] ∧ Sat W w (fp' :: c :: H :: F) ∧ (i : Int) ≤ a0 ∧ Got (encF encN) (wfN WfI i) b0 e0 xs r' b' ∧ RdrR 102 H p r' b' fp' ∧ OwnT encI 3 1 a n k xs c ∧ n = i ∧ j = a0 - i) (fun ⟨i, xs, a, n, k, c, r', b', fp', j⟩ => a0.toNat - i) (0, [], none, 0, 0, [], b0, e0, f0, a0) ⟨alA, l0, om, Got.none _ _, j0, u0, rfl, om⟩ ?_
 skip
 rintro ⟨i, xs, a, n, k, c, r', b', fp', j⟩ ρ _ ⟨hA, m0, hi, hG, hI', hO, hn, hj⟩
 refine cAnchor hA (fun ρ => ?_)
 clear hA
 refine seqE <| sR <| pu2 <| nT ?_
 by_cases n0 : (j : Int) > 0
 rotate_left
 ·refine cF _ (decide_eq_false n0) ?_
  refine exitE (xB <| ?_)
  refine thenK_n <| sR <| pu2 <| nT <| retE <| retT [.slice a n k] ?_
  have o0 := (((m0.pick 2 rfl).pick 2 rfl).pick 2 rfl)
  change Sat _ _ (fp' :: c :: H :: F) at o0
  have hZ : Got (encF encN) (wfN WfI a0.toNat) b0 e0 xs r' b' := by rw [show a0.toNat = i from by omega]; exact hG
  exact ⟨a, n, k, xs, c, r', b', rfl, (hO.rd (fun p hp => by simp [hp])), Got.list encN_ge i0 hZ, _, hI', o0⟩
 refine cT _ (decide_eq_true n0) ?_
 refine kT <| seqE <| blockE <| regionE <| pu2 ?_
 have p0 := ((m0.pick 2 rfl).pick 1 rfl)
 change Sat _ _ (fp' :: H :: c :: F) at p0
 refine sF #[Pt p 0] Try.call49 (Calls.mono (rrf_number W _ _ _ _ _ _ _ hI' p0) ?_)
 rintro _ _ ⟨c0, v0, w0, rfl, x0, _, d0, y0, q0⟩
 refine ⟨_, rfl, ?_⟩
 change Sat _ _ (d0 :: H :: c :: F) at q0
 refine sBS q0 #[I c0] Try.runUnderlying22 Try.sizeOf3 Try.zeroValue3 ?_
 intro z0 _ a1
 refine sApp (nb := 8) a1 hO 3 (RdT.blk (enc := encI) (sz := 1) (xs := [c0]) fR 1 0 rfl rfl rfl om) Try.underlying22 (i := Try.t3) kr fR ?_
 intro b1 c1 g0 _ d1 r0
 change Sat _ _ ([(z0, .cells #[I c0] 3 (0, 0))] :: d0 :: H :: g0 :: F) at r0
 refine pu1 <| nB <| regionE <| pu1 ?_
 refine sSub j 1 ?_
 refine pu1 <| nT ?_
 have s0 := ((((r0.pick 2 rfl).pick 3 rfl).pick 3 rfl).dropAt 3 rfl)
 change Sat _ _ (d0 :: g0 :: H :: F) at s0
 have hX := hG.snoc pfI x0
 exact ⟨(i + 1, (xs ++ [c0]), b1, (n + 1), c1, g0, v0, w0, d0, (j - 1)), by dsimp only; omega, alA, s0, om, by first | exact hX | simpa using hX, y0, d1, om, om⟩
theorem rrf_taps (W w : World) (p : Nat) (H fp : Chunk) (F : List Chunk) (r : List Int) (b : Bool) (hI : RdrR 102 H p r b fp) (hS : Sat W w (fp :: H :: F)) :
  Calls Try.prog 64 #[Pt p 0] w fun e w' => ∃ (a : Option Addr) (n k : Nat) (xs : List Tap) (G : Chunk) (r' : List Int) (b' : Bool), e = .returned (.slice a n k) ∧ RdT encTap 2 [G] a n k xs ∧ (∀ z ∈ xs, Tap.Ok [G] z) ∧ Got (encL nTap) (wfL wfTap) r b (xs.map Tap.v) r' b' ∧ ∃ fp' : Chunk, RdrR 102 H p r' b' fp' ∧ Sat W w' (fp' :: G :: H :: F) := by
 refine callsE (n := 30) Try.func64 rfl rfl (Nat.le_of_ble_eq_true rfl) ?_
 refine sR <| pu1 <| nT <| sR <| pu1 <| nT <| seqE <| sR <| pu1 ?_
 have u0 := ((hS.pick 1 rfl).pick 1 rfl)
 change Sat _ _ (fp :: H :: F) at u0
 refine sF #[Pt p 0] Try.call50 (Calls.mono (rrf_count W _ _ _ _ _ _ _ hI u0) ?_)
 rintro _ _ ⟨a0, i0, l0, rfl, n0, o0, v0, w0⟩
 refine ⟨_, rfl, ?_⟩
 have hrng_v_4 := n0.rng; have hcap_v_4 := (by obtain ⟨_, _, _, _, _, _, h⟩ := v0; exact h : i0.length ≤ 262144)
 change Sat _ _ (o0 :: H :: F) at w0
 refine pu1 <| nT <| blockE ?_
 have i1 := Sat.nilc w0
 have j1 := OwnT.nil (enc := encTap) (E := 94) (sz := 2) fR
 have k1 := Sat.nilc i1
 have x0 := k1.pick 2 rfl
 change Sat _ _ (o0 :: [] :: [] :: H :: F) at x0
 refine loopE (γ := Nat × (List Tap) × (Option Addr) × Nat × Nat × Chunk × Chunk × (List Int) × Bool × Chunk × Int) (fun ⟨i, xs, a, n, k, c, G, r', b', fp', j⟩ ρ w => AllAt ρ [(0, Pt p 0), (3, .slice a n k), (4, I j)] ∧ Sat W w (fp' :: c :: G :: H :: F) ∧ (i : Int) ≤ a0 ∧ Got (encF nTap) (wfN wfTap i) i0 l0 (xs.map Tap.v) r' b' ∧ RdrR 102 H p r' b' fp' ∧ OwnT encTap 94 2 a n k xs c ∧ n = i ∧ (∀ z ∈ xs, Tap.Ok [G] z) ∧ j = a0 - i) (fun ⟨i, xs, a, n, k, c, G, r', b', fp', j⟩ => a0.toNat - i) (0, [], none, 0, 0, [], [], i0, l0, o0, a0) ⟨alA, x0, om, Got.none _ _, v0, j1, rfl, (by intro z hz; cases hz), om⟩ ?_
 skip
 rintro ⟨i, xs, a, n, k, c, G, r', b', fp', j⟩ ρ _ ⟨hA, j0, hi, hG, hI', hO, hn, hD, hj⟩
 refine cAnchor hA (fun ρ => ?_)
 clear hA
 refine seqE <| seqE ?_
 change Sat _ _ (fp' :: c :: G :: H :: F) at j0
 obtain ⟨b0, c0, d0, rfl, k0, p0⟩ := hI'
 have hll_a_16 := k0.len; have hle_a_16 := k0.le
 refine regionE <| pu3 ?_
 by_cases y0 : (j : Int) > 0
 rotate_left
 ·refine sFix 10 _ false (decide_eq_false y0) ?_
  refine pu6 <| nT <| cFf ?_
  refine exitE (xB <| ?_)
  refine thenK_n <| sR <| pu2 <| nT <| retE <| retT [.slice a n k] ?_
  have l1 : RdrR 102 H p r' b' [(p, .cells #[.slice b0 c0 d0, .bool b'] 102 (0, 0))] := ⟨_, _, _, rfl, k0, p0⟩
  have z0 := ((((j0.pick 3 rfl).pick 3 rfl).pick 3 rfl).pick 3 rfl)
  change Sat _ _ ([(p, .cells #[.slice b0 c0 d0, .bool b'] 102 (0, 0))] :: c :: G :: H :: F) at z0
  have m1 : Sat W _ ([(p, .cells #[.slice b0 c0 d0, .bool b'] 102 (0, 0))] :: (c ++ G) :: H :: F) := Sat.perm z0 (by simp)
  have hZ : Got (encF nTap) (wfN wfTap a0.toNat) i0 l0 (xs.map Tap.v) r' b' := by
   by_cases hfull : (i : Int) = a0
   ·rw [show a0.toNat = i from by omega]; exact hG
   ·first | (exfalso; omega) | exact hG.stop om _
  exact ⟨a, n, k, xs, (c ++ G), r', b', rfl, (hO.rd (fun p hp => by simp [hp])), (fun z hz => (hD z hz).of_mem mS), Got.list nTap_ge1 n0 hZ, _, l1, m1⟩
 refine sFix 10 _ true (decide_eq_true y0) ?_
 refine pu3 <| gY ?_
 refine sL j0 0 1 (.bool b') (Try.isAgg4 _) ?_
 refine pu2 <| nT ?_
 cases b'
 rotate_left
 ·refine cFf ?_
  refine exitE (xB <| ?_)
  refine thenK_n <| sR <| pu2 <| nT <| retE <| retT [.slice a n k] ?_
  have n1 : RdrR 102 H p r' true [(p, .cells #[.slice b0 c0 d0, .bool true] 102 (0, 0))] := ⟨_, _, _, rfl, k0, p0⟩
  have a1 := ((((j0.pick 3 rfl).pick 3 rfl).pick 3 rfl).pick 3 rfl)
  change Sat _ _ ([(p, .cells #[.slice b0 c0 d0, .bool true] 102 (0, 0))] :: c :: G :: H :: F) at a1
  have o1 : Sat W _ ([(p, .cells #[.slice b0 c0 d0, .bool true] 102 (0, 0))] :: (c ++ G) :: H :: F) := Sat.perm a1 (by simp)
  have hZ : Got (encF nTap) (wfN wfTap a0.toNat) i0 l0 (xs.map Tap.v) r' true := by
   by_cases hfull : (i : Int) = a0
   ·rw [show a0.toNat = i from by omega]; exact hG
   ·first | (exfalso; omega) | exact hG.stop om _
  exact ⟨a, n, k, xs, (c ++ G), r', true, rfl, (hO.rd (fun p hp => by simp [hp])), (fun z hz => (hD z hz).of_mem mS), Got.list nTap_ge1 n0 hZ, _, n1, o1⟩
 refine cTt <| kT <| seqE <| blockE <| sR <| pu1 ?_
 have p1 : RdrR 102 H p r' false [(p, .cells #[.slice b0 c0 d0, .bool false] 102 (0, 0))] := ⟨_, _, _, rfl, k0, p0⟩
 have b1 := ((j0.pick 3 rfl).pick 1 rfl)
 change Sat _ _ ([(p, .cells #[.slice b0 c0 d0, .bool false] 102 (0, 0))] :: H :: c :: G :: F) at b1
 refine sF #[Pt p 0] Try.call49 (Calls.mono (rrf_number W _ _ _ _ _ _ _ p1 b1) ?_)
 rintro _ _ ⟨e0, _, _, rfl, q1, _, r1, s1, c1⟩
 refine ⟨_, rfl, ?_⟩
 change Sat _ _ (r1 :: H :: c :: G :: F) at c1
 refine pu1 ?_
 refine sAlloc c1 Try.zeroValue94 ?_
 intro _ _ t1
 refine sTw t1 0 [I e0, .slice none 0 0] Try.sizeOf94 ?_
 intro _ d1
 try dsimp only [List.set, List.eraseIdx, Value.cells] at d1
 refine nT <| sR <| pu1 ?_
 have e1 := ((d1.pick 2 rfl).pick 2 rfl)
 try dsimp only [List.set, List.eraseIdx, Value.cells] at e1
 refine sF #[Pt p 0] Try.call51 (Calls.mono (rrf_numbers W _ _ _ _ _ _ _ s1 e1) ?_)
 rintro _ _ ⟨f0, g0, h0, q0, m0, u1, v1, rfl, w1, x1, r0, y1, f1⟩
 refine ⟨_, rfl, ?_⟩
 try dsimp only [List.set, List.eraseIdx, Value.cells] at f1
 refine pu1 ?_
 refine sT1 f1 3 1 (.slice f0 g0 h0) #[I e0, .slice f0 g0 h0] Try.sizeOf22 ?_
 intro _ s0
 try dsimp only [List.set, List.eraseIdx, Value.cells] at s0
 refine nT <| regionE <| pu1 ?_
 refine sLA s0 3 0 [I e0, .slice f0 g0 h0] (Try.isAgg94 _) (Try.sizeOf94 _) ?_
 refine sBS s0 #[I e0, .slice f0 g0 h0] Try.runUnderlying58 Try.sizeOf94 Try.zeroValue94 ?_
 intro _ _ z1
 refine sApp (nb := 32) z1 hO 5 (RdT.blk (enc := encTap) (sz := 2) (xs := [(⟨e0, ⟨f0, g0, h0, q0⟩⟩ : Tap)]) fR 1 0 rfl rfl rfl om) Try.underlying58 (i := Try.t94) kr fR ?_
 intro a2 b2 t0 _ c2 g1
 try dsimp only [List.set, List.eraseIdx, Value.cells] at g1
 refine pu1 <| nB <| regionE <| pu1 ?_
 refine sSub j 1 ?_
 refine pu1 <| nT ?_
 have h1 := (((((((g1.pick 3 rfl).pick 6 rfl).pick 4 rfl).pick 6 rfl).pick 5 rfl).dropAt 5 rfl).dropAt 5 rfl)
 change Sat _ _ (r0 :: t0 :: m0 :: G :: H :: F) at h1
 have hX := hG.snoc pfTap (Got.tap q1 x1)
 have d2 := (Sat.perm (cs' := r0 :: t0 :: (m0 ++ G) :: H :: F) h1 (by simp))
 have hD2 : ∀ z ∈ xs ++ [(⟨e0, ⟨f0, g0, h0, q0⟩⟩ : Tap)], Tap.Ok [(m0 ++ G)] z := by
  intro z hz
  rcases List.mem_append.1 hz with h | h
  ·exact (hD z h).of_mem mS
  ·simp only [List.mem_singleton] at h; subst h; exact ⟨w1.of_mem mS⟩
 exact ⟨(i + 1, (xs ++ [(⟨e0, ⟨f0, g0, h0, q0⟩⟩ : Tap)]), a2, (n + 1), b2, t0, (m0 ++ G), u1, v1, r0, (j - 1)), by dsimp only; omega, alA, d2, om, by simpa [Tap.v] using hX, y1, c2, om, hD2, om⟩
end Go.Proofs.Ytcddcpaodcjecaa
