import Derived.Test.YtcddcpaodcjecaaTape
import Derived.Test.YtcddcpaodcjecaaDec
import Derived.Test.YtcddcpaodcjecaaFork
namespace Go.Proofs.Ytcddcpaodcjecaa
open Go Go.E
set_option linter.unusedVariables false
set_option linter.unusedSimpArgs false
set_option linter.unnecessarySimpa false
set_option maxRecDepth 100000
set_option maxHeartbeats 2000000

-- squeezed
theorem Bytes.part {l : List Int} (h : Bytes l) (i j : Nat) : Bytes ((l.drop i).take j) := fun b hb => h b (List.mem_of_mem_drop (List.mem_of_mem_take hb))
theorem Bytes.one {x : Int} (h : 0 ≤ x ∧ x < 256) : Bytes [x] := fun b hb => by simp at hb; omega
theorem Bytes.set {l : List Int} (h : Bytes l) {i : Nat} {x : Int} (hx : 0 ≤ x ∧ x < 256) : Bytes (l.set i x) := fun b hb => by
  rcases List.mem_or_eq_of_mem_set hb with h1 | h1
  · exact h b h1
  · rw [h1]; exact hx
theorem l19_damage (W w : World) (p : Nat) (a : Option Addr) (n k : Nat) (i : Int) (xs : List Int) (H : Chunk) (F : List Chunk) (hR : RdT encI 1 [H] a n k xs) (hi : 0 ≤ i ∧ i ≤ n) (hS : Sat W w ([(p, .cells #[.slice a n k, I i] 46 (0, 0))] :: H :: F)) (ab0 : Option Addr) (nb0 kb0 : Nat) (b0 : List Int) (hb0 : RdT encB 1 [H] ab0 nb0 kb0 b0) (hb : Bytes b0) (hbl : b0.length ≤ 300000) :
  Calls Try.prog 16 #[Pt p 0, .slice ab0 nb0 kb0] w fun e w' => ∃ (az : Option Addr) (nz : Nat) (kz : Nat) (zs : List Int) (G : Chunk), e = .returned (.slice az nz kz) ∧ (RdT encB 1 [G] az nz kz zs) ∧ (Bytes zs ∧ zs.length ≤ b0.length + 1) ∧ ∃ i' : Int, (0 ≤ i' ∧ i' ≤ n) ∧ Sat W w' ([(p, .cells #[.slice a n k, I i'] 46 (0, 0))] :: G :: H :: F) := by
 have hl_b0 := hb0.le; have hn_b0 := hb0.len
 have hle := hR.le
 refine callsE (n := 57) Try.func16 rfl rfl (Nat.le_of_ble_eq_true rfl) ?_
 refine sR <| pu1 <| nT <| sR ?_
 refine sBS hS #[] Try.runUnderlying31 Try.sizeOf5 Try.zeroValue5 ?_
 intro l2 _ m2
 refine pu1 ?_
 have n2 := OwnT.blk (enc := encB) (sz := 1) (b := l2) (c := #[]) (E := 5) (xs := []) fR 0 rfl rfl rfl om
 refine sApp (nb := 1) m2 n2 0 (hb0.up 2 rfl) Try.underlying31 (i := Try.t5) kr fR ?_
 intro h0 f0 a0 _ d0 s0
 change Sat _ _ (a0 :: [(p, .cells #[.slice a n k, I i] 46 (0, 0))] :: H :: F) at s0
 refine pu1 <| nilO ?_
 have hlo := d0.le
 refine thenK_n <| seqE <| sR <| pu3 <| nT ?_
 by_cases a1 : ((((0 + nb0) : Nat) : Int) : Int) = 0
 ·refine cT _ (beq_iff_eq.2 a1) ?_
  refine sR <| pu2 <| nT ?_
  refine retE (thenK_r <| ?_)
  refine retT [.slice h0 (0 + nb0) f0] ?_
  have b1 := (((s0.pick 2 rfl).pick 1 rfl).pick 2 rfl)
  change Sat _ _ ([(p, .cells #[.slice a n k, I i] 46 (0, 0))] :: a0 :: H :: F) at b1
  exact ⟨_, _, _, _, a0, rfl, (d0.rdAt (cs := [a0]) 0 rfl), ⟨(Bytes.app (fun b hb => by cases hb) hb), by first | (simp; done) | (simp; omega)⟩, _, om, b1⟩
 refine cF _ (beq_eq_false_iff_ne.2 a1) ?_
 refine kT <| seqE <| sR <| pu1 ?_
 have c1 := (s0.pick 1 rfl)
 change Sat _ _ ([(p, .cells #[.slice a n k, I i] 46 (0, 0))] :: a0 :: H :: F) at c1
 refine sF #[Pt p 0, I 4] Try.call19 (Calls.mono (tape_next W _ _ _ _ _ i _ _ [] (RdT.flat (hR.up 1 (by rfl))) om (Sat.flat1 c1) 4 om) ?_)
 rintro _ _ ⟨t0, rfl, _, i0, _, d1⟩
 refine ⟨_, rfl, ?_⟩
 have l0 := Sat.unflat1 d1; clear d1
 change Sat _ _ ([(p, .cells #[.slice a n k, I i0] 46 (0, 0))] :: a0 :: H :: F) at l0
 refine nT <| blockE <| sR <| pu2 <| nT ?_
 by_cases e1 : (t0 : Int) = 0
 ·refine cT _ (beq_iff_eq.2 e1) ?_
  refine sR <| pu4 ?_
  change Sat _ _ ([(p, .cells #[.slice a n k, I i0] 46 (0, 0))] :: a0 :: H :: F) at l0
  refine sF #[Pt p 0, I (((0 + nb0) : Nat) : Int)] Try.call19 (Calls.mono (tape_next W _ _ _ _ _ i0 _ _ [] (RdT.flat (hR.up 1 (by rfl))) om (Sat.flat1 l0) (((0 + nb0) : Nat) : Int) om) ?_)
  rintro _ _ ⟨o0, rfl, _, f1, _, g1⟩
  refine ⟨_, rfl, ?_⟩
  have h1 := Sat.unflat1 g1; clear g1
  change Sat _ _ ([(p, .cells #[.slice a n k, I f1] 46 (0, 0))] :: a0 :: H :: F) at h1
  refine sSl none (some o0) 0 ((o0).toNat) Try.runUnderlying31 Try.sizeOf5 rfl ⟨om, om⟩ om om ?_ (a := h0) (len := (0 + nb0)) (cap := f0)
  have o2 := d0.part (lo := 0) (hi := (o0).toNat) om om
  refine pu1 <| nT ?_
  refine retE (blockK_r <| thenK_r <| ?_)
  refine retT [.slice (partAddr h0 f0 0 1) ((o0).toNat - 0) (f0 - 0)] ?_
  have i1 := (((h1.pick 2 rfl).pick 2 rfl).pick 2 rfl)
  change Sat _ _ ([(p, .cells #[.slice a n k, I f1] 46 (0, 0))] :: a0 :: H :: F) at i1
  exact ⟨_, _, _, _, a0, rfl, (o2.rdAt (cs := [a0]) 0 rfl), ⟨(Bytes.part (Bytes.app (fun b hb => by cases hb) hb) _ _), by first | (simp; done) | (simp; omega)⟩, _, om, i1⟩
 refine cF _ (beq_eq_false_iff_ne.2 e1) ?_
 refine sR <| pu2 <| nT ?_
 by_cases j1 : (t0 : Int) = 1
 ·refine cT _ (beq_iff_eq.2 j1) ?_
  refine sR <| pu2 ?_
  change Sat _ _ ([(p, .cells #[.slice a n k, I i0] 46 (0, 0))] :: a0 :: H :: F) at l0
  refine sF #[Pt p 0, I 256] Try.call19 (Calls.mono (tape_next W _ _ _ _ _ i0 _ _ [] (RdT.flat (hR.up 1 (by rfl))) om (Sat.flat1 l0) 256 om) ?_)
  rintro _ _ ⟨p0, rfl, _, k1, _, l1⟩
  refine ⟨_, rfl, ?_⟩
  have m1 := Sat.unflat1 l1; clear l1
  change Sat _ _ ([(p, .cells #[.slice a n k, I k1] 46 (0, 0))] :: a0 :: H :: F) at m1
  refine stepY (.int .u8 (p0 % 256)) rfl rfl (Y_conv (k := .i64) (a := p0) Try.underlying3 Try.underlying5 (wrap_u8 _) rfl kr) ?_
  refine sBS m1 #[.int .u8 (p0 % 256)] Try.runUnderlying31 Try.sizeOf5 Try.zeroValue5 ?_
  intro _ _ p2
  refine sApp (nb := 1) p2 d0 2 (RdT.blk (enc := encB) (sz := 1) (xs := [(p0 % 256)]) fR 1 0 rfl rfl rfl om) Try.underlying31 (i := Try.t5) kr fR ?_
  intro q2 r2 u0 _ s2 n1
  try dsimp only [List.set, List.eraseIdx, Value.cells] at n1
  refine pu1 <| nT ?_
  refine retE (blockK_r <| thenK_r <| ?_)
  refine retT [.slice q2 ((0 + nb0) + 1) r2] ?_
  have o1 := ((((n1.pick 3 rfl).pick 3 rfl).pick 3 rfl).dropAt 3 rfl)
  change Sat _ _ ([(p, .cells #[.slice a n k, I k1] 46 (0, 0))] :: u0 :: H :: F) at o1
  exact ⟨_, _, _, _, u0, rfl, (s2.rdAt (cs := [u0]) 0 rfl), ⟨(Bytes.app (Bytes.app (fun b hb => by cases hb) hb) (Bytes.one om)), by first | (simp; done) | (simp; omega)⟩, _, om, o1⟩
 refine cF _ (beq_eq_false_iff_ne.2 j1) ?_
 refine sR <| pu2 <| nT ?_
 by_cases p1 : (t0 : Int) = 2
 ·refine cT _ (beq_iff_eq.2 p1) ?_
  refine regionE <| pu4 ?_
  refine stepY (I (min (((0 + nb0) : Nat) : Int) 40)) rfl rfl (Y_min2 (((0 + nb0) : Nat) : Int) 40 rfl rfl kr kr) ?_
  change Sat _ _ ([(p, .cells #[.slice a n k, I i0] 46 (0, 0))] :: a0 :: H :: F) at l0
  refine sF #[Pt p 0, I (min (((0 + nb0) : Nat) : Int) 40)] Try.call19 (Calls.mono (tape_next W _ _ _ _ _ i0 _ _ [] (RdT.flat (hR.up 1 (by rfl))) om (Sat.flat1 l0) (min (((0 + nb0) : Nat) : Int) 40) om) ?_)
  rintro _ _ ⟨v0, rfl, _, q1, _, r1⟩
  refine ⟨_, rfl, ?_⟩
  have s1 := Sat.unflat1 r1; clear r1
  change Sat _ _ ([(p, .cells #[.slice a n k, I q1] 46 (0, 0))] :: a0 :: H :: F) at s1
  refine pu1 ?_
  refine sBS s1 #[I 0, I 1, I 255, I 128, I 2] Try.runUnderlying22 Try.sizeOf3 Try.zeroValue3 ?_
  intro t2 _ u2
  have t1 := (u2.pick 1 rfl)
  try dsimp only [List.set, List.eraseIdx, Value.cells] at t1
  refine sF #[Pt p 0, .slice (At t2 0) 5 5] Try.call26 (Calls.mono (tape_pick W _ _ _ _ _ q1 _ _ [] (RdT.flat (hR.up 2 (by rfl))) om (Sat.flat1 t1) _ _ _ [0, 1, 255, 128, 2] (RdT.flat (RdT.blk (enc := encI) (sz := 1) (xs := [0, 1, 255, 128, 2]) (fun _ => (by rfl)) 5 0 rfl rfl rfl om)) om om) ?_)
  rintro _ _ ⟨g0, rfl, v2, w2, _, u1⟩
  refine ⟨_, rfl, ?_⟩
  have v1 := Sat.unflat1 u1; clear u1
  try dsimp only [List.set, List.eraseIdx, Value.cells] at v1
  have k4 : (g0 : Int) = 0 ∨ (g0 : Int) = 1 ∨ (g0 : Int) = 255 ∨ (g0 : Int) = 128 ∨ (g0 : Int) = 2 := by simpa using v2
  refine stepY (.int .u8 (g0 % 256)) rfl rfl (Y_conv (k := .i64) (a := g0) Try.underlying3 Try.underlying5 (wrap_u8 _) rfl kr) ?_
  refine sIdxO d0 v0 (v0).toNat Try.runUnderlying31 Try.sizeOf5 ?_
  intro x2 _ _ y2 _ z2
  refine sStF v1 d0 z2 2 (v0).toNat 0 x2 (g0 % 256) y2 (.int .u8 (g0 % 256)) [.int .u8 (g0 % 256)] Try.sizeOf5 ?_
  intro _ w0 a3 w1
  try dsimp only [List.set, List.eraseIdx, Value.cells] at w1
  refine nB <| sR <| pu2 <| nT <| retE <| retT [.slice h0 (0 + nb0) f0] ?_
  have x1 := ((((w1.pick 3 rfl).pick 3 rfl).pick 2 rfl).dropAt 3 rfl)
  change Sat _ _ ([(p, .cells #[.slice a n k, I w2] 46 (0, 0))] :: w0 :: H :: F) at x1
  exact ⟨_, _, _, _, w0, rfl, (a3.rdAt (cs := [w0]) 0 rfl), ⟨(Bytes.set (Bytes.app (fun b hb => by cases hb) hb) om), by first | (simp; done) | (simp; omega)⟩, _, om, x1⟩
 refine cF _ (beq_eq_false_iff_ne.2 p1) ?_
 refine drawP [4, 6, 8, 13] [] (Plan.sts [0, 1, 2, 3, 7] <| .ef 4 <| Plan.sts [5] <| .fk 6 8 (.ef 8 <| Plan.sts [9] <| Plan.sts [10] <| Plan.sts [11] <| Plan.sts [12] <| .ef 13 <| .fin) (Plan.sts [9] <| Plan.sts [10] <| .ef 6 <| Plan.sts [11] <| Plan.sts [12] <| .ef 13 <| .fin)) rfl kr trivial ?_
 have y1 := l0.drew
 refine qU [0, 1, 2, 3, 7] ?_
 refine qO rfl ?_
 change Sat _ _ ([(p, .cells #[.slice a n k, I i0] 46 (0, 0))] :: a0 :: H :: F) at y1
 refine sF #[Pt p 0, I (((0 + nb0) : Nat) : Int)] Try.call19 (Calls.mono (tape_next W _ _ _ _ _ i0 _ _ [] (RdT.flat (hR.up 1 (by rfl))) om (Sat.flat1 y1) (((0 + nb0) : Nat) : Int) om) ?_)
 rintro _ _ ⟨e0, rfl, _, n0, _, z1⟩
 refine ⟨_, rfl, ?_⟩
 have m0 := Sat.unflat1 z1; clear z1
 change Sat _ _ ([(p, .cells #[.slice a n k, I n0] 46 (0, 0))] :: a0 :: H :: F) at m0
 refine nilO ⟨trivial, ?_⟩
 obtain ⟨c0, b3, c3, a2, b2, d3, s4⟩ := OwnT.elem d0 e0
 refine qS (.pointer (some ⟨b3, c3 + (e0).toNat * 1, none⟩)) rfl rfl rfl (fun w _ => Y_idx (a := h0) (i := e0) (len := (0 + nb0)) (cap := f0) rfl Try.runUnderlying31 Try.sizeOf5 kr kr d3) ?_
 refine qF ?_ ?_
 ·refine qO rfl ?_
  refine sLp m0 (b2.up 1 rfl) 0 (.int .u8 c0) (Try.isAgg5 _) ?_
  refine nilO ⟨trivial, ?_⟩
  refine qO rfl ?_
  change Sat _ _ ([(p, .cells #[.slice a n k, I n0] 46 (0, 0))] :: a0 :: H :: F) at m0
  refine sF #[Pt p 0, I 255] Try.call19 (Calls.mono (tape_next W _ _ _ _ _ n0 _ _ [] (RdT.flat (hR.up 1 (by rfl))) om (Sat.flat1 m0) 255 om) ?_)
  rintro _ _ ⟨j0, rfl, _, x0, _, c2⟩
  refine ⟨_, rfl, ?_⟩
  have d2 := Sat.unflat1 c2; clear c2
  change Sat _ _ ([(p, .cells #[.slice a n k, I x0] 46 (0, 0))] :: a0 :: H :: F) at d2
  refine nilO ⟨trivial, ?_⟩
  refine qS (I (1 + j0)) rfl rfl rfl (fun w _ => Y_add (a := 1) (b := j0) rfl kr kr om) ?_
  refine qS (.int .u8 ((1 + j0) % 256)) rfl rfl rfl (fun w _ => Y_conv (k := .i64) (a := (1 + j0)) Try.underlying3 Try.underlying5 (wrap_u8 _) rfl kr) ?_
  refine qS (.int .u8 (xor8 c0 ((1 + j0) % 256))) rfl rfl rfl (fun w _ => Y_xor8 c0 ((1 + j0) % 256) rfl kr kr) ?_
  obtain ⟨e3, f3, g3, e2, w4, h3, i3⟩ := OwnT.elem d0 e0
  obtain rfl : c0 = e3 := Option.some.inj (a2.symm.trans e2)
  refine qS (.pointer (some ⟨f3, g3 + (e0).toNat * 1, none⟩)) rfl rfl rfl (fun w _ => Y_idx (a := h0) (i := e0) (len := (0 + nb0)) (cap := f0) rfl Try.runUnderlying31 Try.sizeOf5 kr kr h3) ?_
  refine qO rfl ?_
  refine sStF d2 d0 i3 1 (e0).toNat 0 c0 (xor8 c0 ((1 + j0) % 256)) e2 (.int .u8 (xor8 c0 ((1 + j0) % 256))) [.int .u8 (xor8 c0 ((1 + j0) % 256))] Try.sizeOf5 ?_
  intro _ q0 j3 f2
  change Sat _ _ ([(p, .cells #[.slice a n k, I x0] 46 (0, 0))] :: q0 :: H :: F) at f2
  refine nilO ⟨trivial, ?_⟩
  refine qN ?_
  refine blockK_n <| thenK_n <| sR <| pu2 <| nT <| retE <| retT [.slice h0 (0 + nb0) f0] ?_
  have g2 := (((f2.pick 2 rfl).pick 2 rfl).pick 2 rfl)
  change Sat _ _ ([(p, .cells #[.slice a n k, I x0] 46 (0, 0))] :: q0 :: H :: F) at g2
  exact ⟨_, _, _, _, q0, rfl, (j3.rdAt (cs := [q0]) 0 rfl), ⟨(Bytes.set (Bytes.app (fun b hb => by cases hb) hb) (xor8_bd _ _)), by first | (simp; done) | (simp; omega)⟩, _, om, g2⟩
 refine qO rfl ?_
 change Sat _ _ ([(p, .cells #[.slice a n k, I n0] 46 (0, 0))] :: a0 :: H :: F) at m0
 refine sF #[Pt p 0, I 255] Try.call19 (Calls.mono (tape_next W _ _ _ _ _ n0 _ _ [] (RdT.flat (hR.up 1 (by rfl))) om (Sat.flat1 m0) 255 om) ?_)
 rintro _ _ ⟨k0, rfl, _, y0, _, h2⟩
 refine ⟨_, rfl, ?_⟩
 have z0 := Sat.unflat1 h2; clear h2
 change Sat _ _ ([(p, .cells #[.slice a n k, I y0] 46 (0, 0))] :: a0 :: H :: F) at z0
 refine nilO ⟨trivial, ?_⟩
 refine qS (I (1 + k0)) rfl rfl rfl (fun w _ => Y_add (a := 1) (b := k0) rfl kr kr om) ?_
 refine qS (.int .u8 ((1 + k0) % 256)) rfl rfl rfl (fun w _ => Y_conv (k := .i64) (a := (1 + k0)) Try.underlying3 Try.underlying5 (wrap_u8 _) rfl kr) ?_
 refine qO rfl ?_
 refine sLp z0 (b2.up 1 rfl) 0 (.int .u8 c0) (Try.isAgg5 _) ?_
 refine nilO ⟨trivial, ?_⟩
 refine qS (.int .u8 (xor8 c0 ((1 + k0) % 256))) rfl rfl rfl (fun w _ => Y_xor8 c0 ((1 + k0) % 256) rfl kr kr) ?_
 obtain ⟨k3, l3, m3, i2, b5, n3, o3⟩ := OwnT.elem d0 e0
 obtain rfl : c0 = k3 := Option.some.inj (a2.symm.trans i2)
 refine qS (.pointer (some ⟨l3, m3 + (e0).toNat * 1, none⟩)) rfl rfl rfl (fun w _ => Y_idx (a := h0) (i := e0) (len := (0 + nb0)) (cap := f0) rfl Try.runUnderlying31 Try.sizeOf5 kr kr n3) ?_
 refine qO rfl ?_
 refine sStF z0 d0 o3 1 (e0).toNat 0 c0 (xor8 c0 ((1 + k0) % 256)) i2 (.int .u8 (xor8 c0 ((1 + k0) % 256))) [.int .u8 (xor8 c0 ((1 + k0) % 256))] Try.sizeOf5 ?_
 intro _ r0 p3 j2
 change Sat _ _ ([(p, .cells #[.slice a n k, I y0] 46 (0, 0))] :: r0 :: H :: F) at j2
 refine nilO ⟨trivial, ?_⟩
 refine qN ?_
 refine blockK_n <| thenK_n <| sR <| pu2 <| nT <| retE <| retT [.slice h0 (0 + nb0) f0] ?_
 have k2 := (((j2.pick 2 rfl).pick 2 rfl).pick 2 rfl)
 change Sat _ _ ([(p, .cells #[.slice a n k, I y0] 46 (0, 0))] :: r0 :: H :: F) at k2
 exact ⟨_, _, _, _, r0, rfl, (p3.rdAt (cs := [r0]) 0 rfl), ⟨(Bytes.set (Bytes.app (fun b hb => by cases hb) hb) (xor8_bd _ _)), by first | (simp; done) | (simp; omega)⟩, _, om, k2⟩
end Go.Proofs.Ytcddcpaodcjecaa
