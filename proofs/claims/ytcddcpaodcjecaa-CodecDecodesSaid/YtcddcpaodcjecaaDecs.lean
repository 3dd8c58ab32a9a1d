import Derived.Test.YtcddcpaodcjecaaSize
import Derived.Test.YtcddcpaodcjecaaDamage
namespace Go.Proofs.Ytcddcpaodcjecaa
open Go Go.E
set_option linter.unusedVariables false
set_option linter.unusedSimpArgs false
set_option linter.unnecessarySimpa false
set_option maxRecDepth 100000
set_option maxHeartbeats 2000000
-- squeezed
theorem l19_decodes (W w : World) (H : Chunk) (F : List Chunk) (ab0 : Option Addr) (nb0 kb0 : Nat) (b0 : List Int) (hb0 : RdT encB 1 [H] ab0 nb0 kb0 b0) (hb : Bytes b0) (hS : Sat W w (H :: F)) :
  Calls Try.prog 15 #[.slice ab0 nb0 kb0] w fun e w' => e = .returned (.bool true) ∧ Sat W w' (H :: F) := by
 have hl_b0 := hb0.le; have hn_b0 := hb0.len
 refine callsE (n := 25) Try.func15 rfl rfl (Nat.le_of_ble_eq_true rfl) ?_
 refine sR <| pu1 <| nT <| sR <| pu1 ?_
 refine sF #[.slice ab0 nb0 kb0] Try.call17 (Calls.mono (codec_decode W _ _ [] _ _ _ b0 (RdT.flat (hb0.up 0 (by rfl))) hb (Sat.flat hS)) ?_)
 rintro _ _ ⟨a0, g0, q0, rfl, d0, h0, i0⟩
 refine ⟨_, rfl, ?_⟩
 have j0 := Sat.unflat1 i0; clear i0
 change Sat _ _ (g0 :: H :: F) at j0
 refine pu3 ?_
 refine sAlloc j0 Try.zeroValue28 ?_
 intro r0 _ s0
 refine sT s0 0 0 (.agg (encJob a0).toArray) (encJob a0) (encJob a0).toArray Try.sizeOf28 ?_
 intro _ t0
 refine pu1 <| nT <| sR <| pu1 ?_
 refine sF #[.slice ab0 nb0 kb0] Try.call38 (Calls.mono (ref_decode W _ _ [] _ _ _ b0 (RdT.flat (hb0.up 2 (by rfl))) hb (Sat.flat t0)) ?_)
 rintro _ _ ⟨c0, u0, v0, rfl, e0, k0, l0⟩
 refine ⟨_, rfl, ?_⟩
 have m0 := Sat.unflat1 l0; clear l0
 change Sat _ _ (u0 :: [(r0, .cells (encJob a0).toArray 28 (0, 0))] :: g0 :: H :: F) at m0
 refine pu3 ?_
 refine sAlloc m0 Try.zeroValue28 ?_
 intro _ _ w0
 refine sT w0 0 0 (.agg (encJob c0).toArray) (encJob c0) (encJob c0).toArray Try.sizeOf28 ?_
 intro _ f0
 refine pu1 <| nT <| sR ?_
 refine sLA f0 2 0 [.slice a0.inputs.a a0.inputs.n a0.inputs.k, .slice a0.stages.a a0.stages.n a0.stages.k, .slice a0.outputs.a a0.outputs.n a0.outputs.k, I a0.priority] (Try.isAgg28 _) (Try.sizeOf28 _) ?_
 refine sLA f0 0 0 [.slice c0.inputs.a c0.inputs.n c0.inputs.k, .slice c0.stages.a c0.stages.n c0.stages.k, .slice c0.outputs.a c0.outputs.n c0.outputs.k, I c0.priority] (Try.isAgg28 _) (Try.sizeOf28 _) ?_
 refine sF #[.agg (encJob a0).toArray, .agg (encJob c0).toArray] Try.call12 (Calls.mono (r19_same W _ _ [] a0 c0 ⟨(RdT.flat (d0.inputs.up 3 (by rfl))), (fun z hz => (d0.inputsD z hz).of_mem (mem_flat1 3 (by rfl))), (RdT.flat (d0.stages.up 3 (by rfl))), (fun z hz => (d0.stagesD z hz).of_mem (mem_flat1 3 (by rfl))), (RdT.flat (d0.outputs.up 3 (by rfl)))⟩ ⟨(RdT.flat (e0.inputs.up 1 (by rfl))), (fun z hz => (e0.inputsD z hz).of_mem (mem_flat1 1 (by rfl))), (RdT.flat (e0.stages.up 1 (by rfl))), (fun z hz => (e0.stagesD z hz).of_mem (mem_flat1 1 (by rfl))), (RdT.flat (e0.outputs.up 1 (by rfl)))⟩ (Sat.flat f0)) ?_)
 rintro _ _ ⟨rfl, n0⟩
 refine ⟨_, rfl, ?_⟩
 have o0 := Sat.unflat n0; clear n0
 try dsimp only [List.set, List.eraseIdx, Value.cells] at o0
 refine pu1 ?_
 have x0 : a0.v = c0.v := (DecR.same h0 k0).1
 refine sFix 20 _ true (decide_eq_true x0) ?_
 refine pu5 <| nT <| retE <| retT [.bool ((q0 : Int) == v0)] ?_
 have p0 := (((((o0.pick 4 rfl).dropAt 1 rfl).dropAt 1 rfl).dropAt 1 rfl).dropAt 1 rfl)
 change Sat _ _ (H :: F) at p0
 exact ⟨congrArg (fun b => Ending.returned (.bool b)) (beq_iff_eq.2 (DecR.same h0 k0).2), p0⟩
theorem l19_dec_law (W w : World) (H : Chunk) (F : List Chunk) (t : Option Addr) (nt kt : Nat) (xt : List Int) (b : Option Addr) (nb kb : Nat) (xb : List Int) (ht : RdT encI 1 [H] t nt kt xt) (hb : RdT encB 1 [H] b nb kb xb) (bdb : Bytes xb) (hS : Sat W w (H :: F)) :
  Calls Try.prog 5 #[.slice t nt kt, .slice b nb kb] w fun e w' => e = .returned (.bool true) ∧ Sat W w' (H :: F) := by
 have hlt := ht.le
 have hlb := hb.le
 refine callsE (n := 52) Try.func5 rfl rfl (Nat.le_of_ble_eq_true rfl) ?_
 refine sR <| pu1 <| nT <| sR <| pu1 ?_
 refine sF #[.slice t nt kt] Try.call8 (Calls.mono (tape_new W _ (H :: F) _ _ _ hS) ?_)
 rintro _ _ ⟨a0, rfl, m0⟩
 refine ⟨_, rfl, ?_⟩
 change Sat _ _ ([(a0, .cells #[.slice t nt kt, I 0] 46 (0, 0))] :: H :: F) at m0
 have r3 := ht.le
 refine pu1 <| nT <| sR <| pu2 ?_
 change Sat _ _ ([(a0, .cells #[.slice t nt kt, I 0] 46 (0, 0))] :: H :: F) at m0
 refine sF #[Pt a0 0, I 3] Try.call9 (Calls.mono (tg_job W _ _ _ _ _ 0 _ _ [] (RdT.flat (ht.up 0 (by rfl))) om (Sat.flat1 m0) 3 om) ?_)
 rintro _ _ ⟨n0, b0, rfl, c0, q2, _, k0, _, x0⟩
 refine ⟨_, rfl, ?_⟩
 have o0 := Sat.unflat2 x0; clear x0
 change Sat _ _ ([(a0, .cells #[.slice t nt kt, I k0] 46 (0, 0))] :: b0 :: H :: F) at o0
 change Sat _ _ ([(a0, .cells #[.slice t nt kt, I k0] 46 (0, 0))] :: b0 :: H :: F) at o0
 have y0 := ((o0.pick 1 rfl).pick 1 rfl)
 change Sat _ _ ([(a0, .cells #[.slice t nt kt, I k0] 46 (0, 0))] :: b0 :: H :: F) at y0
 refine sF #[Pt a0 0, .agg (encJob n0).toArray] Try.call10 (Calls.mono (tg_spoilJob W _ _ _ _ _ k0 _ _ b0 [] (RdT.flat (ht.up 0 (by rfl))) om (Sat.flat2 y0) n0 ⟨c0.inputs, c0.inputsD, c0.stages, c0.stagesD, c0.outputs⟩ 0 om (jobB_S q2)) ?_)
 rintro _ _ ⟨d0, e0, rfl, i0, p0, l0, _, z0⟩
 refine ⟨_, rfl, ?_⟩
 have a1 := Sat.unflat3 z0; clear z0
 change Sat _ _ ([(a0, .cells #[.slice t nt kt, I l0] 46 (0, 0))] :: e0 :: b0 :: H :: F) at a1
 have b1 := (((a1.pick 2 rfl).pick 2 rfl).pick 2 rfl)
 change Sat _ _ ([(a0, .cells #[.slice t nt kt, I l0] 46 (0, 0))] :: e0 :: b0 :: H :: F) at b1
 have r2 : Sat W _ ([(a0, .cells #[.slice t nt kt, I l0] 46 (0, 0))] :: (e0 ++ b0) :: H :: F) := Sat.perm b1 (by simp)
 have x3 : Job.Ok [(e0 ++ b0)] n0 := c0.of_mem mS
 refine sF #[.agg (encJob d0).toArray] Try.call14 (Calls.mono (ref_encode W _ _ [] d0 ⟨(RdT.flat (i0.inputs.up 1 (by rfl))), (fun z hz => (i0.inputsD z hz).of_mem (mem_flat1 1 (by rfl))), (RdT.flat (i0.stages.up 1 (by rfl))), (fun z hz => (i0.stagesD z hz).of_mem (mem_flat1 1 (by rfl))), (RdT.flat (i0.outputs.up 1 (by rfl)))⟩ (by have hbd := nJob_bd p0 om; omega) (Sat.flat r2)) ?_)
 rintro _ _ (⟨s2, f0, g0, h0, c1, rfl, j0, q0⟩ | ⟨s2, rfl, q0⟩)
 ·refine ⟨_, rfl, ?_⟩
  have d1 := Sat.unflat1 q0; clear q0
  try dsimp only [List.set, List.eraseIdx, Value.cells] at d1
  have hn_a_32 := j0.len; rw [enc_len] at hn_a_32; have hle_a_32 := j0.le
  refine pu5 <| nilO ?_
  have hbd0 := nJob_bd p0 om
  have hlb : ([84, 70, 1] ++ bytesOf (nJob d0.v)).length ≤ 200000 := by rw [enc_len]; omega
  refine thenK_n <| sR <| pu1 ?_
  refine sF #[.slice f0 g0 h0] Try.call15 (Calls.mono (l19_decodes W _ _ [] f0 g0 h0 ([84, 70, 1] ++ bytesOf (nJob d0.v)) (RdT.flat (j0.rdAt 0 (by rfl))) (enc_bytes _) (Sat.flat d1)) ?_)
  rintro _ _ ⟨rfl, e1⟩
  refine ⟨_, rfl, ?_⟩
  have f1 := Sat.unflat e1; clear e1
  try dsimp only [List.set, List.eraseIdx, Value.cells] at f1
  refine pu3 <| gY ?_
  have g1 := (f1.pick 1 rfl)
  try dsimp only [List.set, List.eraseIdx, Value.cells] at g1
  refine sF #[Pt a0 0, .slice f0 g0 h0] Try.call16 (Calls.mono (l19_damage W _ _ _ _ _ l0 _ _ [] (RdT.flat (ht.up 2 (by rfl))) om (Sat.flat1 g1) f0 g0 h0 ([84, 70, 1] ++ bytesOf (nJob d0.v)) (RdT.flat (j0.rdAt 0 (by rfl))) (enc_bytes _) (by first | omega | (simp; omega))) ?_)
  rintro _ _ ⟨h1, i1, j1, t2, k1, rfl, r0, l1, u2, _, m1⟩
  refine ⟨_, rfl, ?_⟩
  have n1 := Sat.unflat2 m1; clear m1
  try dsimp only [List.set, List.eraseIdx, Value.cells] at n1
  have hn_zs_46 := r0.len; have hl_zs_46 := r0.le; have hlb_zs_46 := l1.2
  refine gY ?_
  refine sF #[.slice h1 i1 j1] Try.call15 (Calls.mono (l19_decodes W _ _ [] h1 i1 j1 t2 (RdT.flat (r0.up 1 (by rfl))) l1.1 (Sat.flat n1)) ?_)
  rintro _ _ ⟨rfl, o1⟩
  refine ⟨_, rfl, ?_⟩
  have s0 := Sat.unflat o1; clear o1
  try dsimp only [List.set, List.eraseIdx, Value.cells] at s0
  refine pu5 <| gY ?_
  try dsimp only [List.set, List.eraseIdx, Value.cells] at s0
  refine sF #[Pt a0 0, .slice f0 g0 h0] Try.call16 (Calls.mono (l19_damage W _ _ _ _ _ u2 _ _ [] (RdT.flat (ht.up 3 (by rfl))) om (Sat.flat1 s0) f0 g0 h0 ([84, 70, 1] ++ bytesOf (nJob d0.v)) (RdT.flat (j0.rdAt 1 (by rfl))) (enc_bytes _) (by first | omega | (simp; omega))) ?_)
  rintro _ _ ⟨p1, q1, r1, v2, s1, rfl, t0, t1, w2, _, u1⟩
  refine ⟨_, rfl, ?_⟩
  have u0 := Sat.unflat2 u1; clear u1
  try dsimp only [List.set, List.eraseIdx, Value.cells] at u0
  have hn_zs_61 := t0.len; have hl_zs_61 := t0.le; have hlb_zs_61 := t1.2
  refine gY ?_
  try dsimp only [List.set, List.eraseIdx, Value.cells] at u0
  refine sF #[Pt a0 0, .slice p1 q1 r1] Try.call16 (Calls.mono (l19_damage W _ _ _ _ _ w2 _ _ [] (RdT.flat (ht.up 4 (by rfl))) om (Sat.flat1 u0) p1 q1 r1 v2 (RdT.flat (t0.up 0 (by rfl))) t1.1 (by first | omega | (simp; omega))) ?_)
  rintro _ _ ⟨v1, w1, x1, x2, y1, rfl, v0, z1, a2, _, b2⟩
  refine ⟨_, rfl, ?_⟩
  have c2 := Sat.unflat2 b2; clear b2
  try dsimp only [List.set, List.eraseIdx, Value.cells] at c2
  have hn_zs_73 := v0.len; have hl_zs_73 := v0.le; have hlb_zs_73 := z1.2
  refine gY ?_
  refine sF #[.slice v1 w1 x1] Try.call15 (Calls.mono (l19_decodes W _ _ [] v1 w1 x1 x2 (RdT.flat (v0.up 1 (by rfl))) z1.1 (Sat.flat c2)) ?_)
  rintro _ _ ⟨rfl, d2⟩
  refine ⟨_, rfl, ?_⟩
  have w0 := Sat.unflat d2; clear d2
  try dsimp only [List.set, List.eraseIdx, Value.cells] at w0
  refine pu6 ?_
  by_cases e2 : (((nb : Nat) : Int) : Int) > 20000
  ·refine sFix 38 _ true (decide_eq_true e2) ?_
   refine pu11 <| gY ?_
   refine sF #[] Try.call13 (Calls.mono (l19_sane W _ ([(a0, .cells #[.slice t nt kt, I a2] 46 (0, 0))] :: y1 :: s1 :: k1 :: c1 :: (e0 ++ b0) :: H :: F) w0) ?_)
   rintro _ _ ⟨rfl, f2⟩
   refine ⟨_, rfl, ?_⟩
   try dsimp only [List.set, List.eraseIdx, Value.cells] at f2
   refine pu2 <| nT <| retE <| retT [.bool true] ?_
   have g2 := (f2.pick 6 rfl)
   try dsimp only [List.set, List.eraseIdx, Value.cells] at g2
   have y2 := g2.dropAt 1 rfl
   have z2 := y2.dropAt 1 rfl
   have a3 := z2.dropAt 1 rfl
   have b3 := a3.dropAt 1 rfl
   have c3 := b3.dropAt 1 rfl
   have d3 := c3.dropAt 1 rfl
   exact ⟨rfl, d3⟩
  refine sFix 38 _ false (decide_eq_false e2) ?_
  refine pu1 <| gY ?_
  refine sF #[.slice b nb kb] Try.call15 (Calls.mono (l19_decodes W _ _ [] b nb kb xb (RdT.flat (hb.up 6 (by rfl))) bdb (Sat.flat w0)) ?_)
  rintro _ _ ⟨rfl, h2⟩
  refine ⟨_, rfl, ?_⟩
  have i2 := Sat.unflat h2; clear h2
  try dsimp only [List.set, List.eraseIdx, Value.cells] at i2
  refine pu1 <| gY ?_
  refine sBS i2 #[.int .u8 84, .int .u8 70, .int .u8 1] Try.runUnderlying31 Try.sizeOf5 Try.zeroValue5 ?_
  intro e3 _ f3
  refine pu1 <| gY ?_
  have g3 := OwnT.blk (enc := encB) (sz := 1) (b := e3) (c := #[.int .u8 84, .int .u8 70, .int .u8 1]) (E := 5) (xs := [84, 70, 1]) fR 3 rfl rfl rfl om
  refine sApp (nb := 1) f3 g3 0 (hb.up 7 rfl) Try.underlying31 (i := Try.t5) kr fR ?_
  intro j2 k2 h3 _ i3 l2
  try dsimp only [List.set, List.eraseIdx, Value.cells] at l2
  refine gY ?_
  refine sF #[.slice j2 (3 + nb) k2] Try.call15 (Calls.mono (l19_decodes W _ _ [] j2 (3 + nb) k2 ([84, 70, 1] ++ xb) (RdT.flat (i3.rdAt 0 (by rfl))) (Bytes.app (by intro b hb; simp at hb; omega) bdb) (Sat.flat l2)) ?_)
  rintro _ _ ⟨rfl, m2⟩
  refine ⟨_, rfl, ?_⟩
  have n2 := Sat.unflat m2; clear m2
  try dsimp only [List.set, List.eraseIdx, Value.cells] at n2
  refine pu4 <| gY ?_
  refine sF #[] Try.call13 (Calls.mono (l19_sane W _ (h3 :: [(a0, .cells #[.slice t nt kt, I a2] 46 (0, 0))] :: y1 :: s1 :: k1 :: c1 :: (e0 ++ b0) :: H :: F) n2) ?_)
  rintro _ _ ⟨rfl, o2⟩
  refine ⟨_, rfl, ?_⟩
  try dsimp only [List.set, List.eraseIdx, Value.cells] at o2
  refine pu2 <| nT <| retE <| retT [.bool true] ?_
  have p2 := (o2.pick 7 rfl)
  try dsimp only [List.set, List.eraseIdx, Value.cells] at p2
  have j3 := p2.dropAt 1 rfl
  have k3 := j3.dropAt 1 rfl
  have l3 := k3.dropAt 1 rfl
  have m3 := l3.dropAt 1 rfl
  have n3 := m3.dropAt 1 rfl
  have o3 := n3.dropAt 1 rfl
  have p3 := o3.dropAt 1 rfl
  exact ⟨rfl, p3⟩
 ·exfalso; have hbd := nJob_bd p0 om; omega
end Go.Proofs.Ytcddcpaodcjecaa
