import Derived.Test.YtdingplbadblpaaGreatP2Tape
import Derived.Test.YtdingplbadblpaaGreatP2Lc
namespace Go.Proofs.YtdingplbadblpaaGreat
open Go Go.E
set_option linter.unusedVariables false
set_option linter.unusedSimpArgs false
set_option linter.unnecessarySimpa false
set_option maxRecDepth 100000
set_option maxHeartbeats 2000000
variable {W w : World} {H : Chunk} {F : List Chunk}

-- squeezed
theorem tg_weights {p : Nat} {a : Option Addr} {n k : Nat} {i : Int} {xs : List Int} (hR : RdT encI 1 [H] a n k xs) (hi : 0 ≤ i ∧ i ≤ n) (hS : Sat W w ([(p, .cells #[.slice a n k, I i] 85 (0, 0))] :: H :: F)) (m0 : Int) (hm : m0 ≤ 64) :
  Calls Tryz.prog 62 #[Pt p 0, I m0] w fun e w' => ∃ (az : Option Addr) (nz : Nat) (kz : Nat) (zs : List Int) (G : Chunk), e = .returned (.slice az nz kz) ∧ (RdT encI 1 [G] az nz kz zs) ∧ ((zs.length : Int) = max m0 0 ∧ ∀ z ∈ zs, numB z) ∧ ∃ i' : Int, (0 ≤ i' ∧ i' ≤ n) ∧ Sat W w' ([(p, .cells #[.slice a n k, I i'] 85 (0, 0))] :: G :: H :: F) := by
 have hle := hR.le
 refine callsA 22 Tryz.func62 rfl ?_
 refine sR <| pu1 <| nT <| sR <| pu1 <| nT <| seqE <| sR <| pu1 <| nT <| blockE ?_
 have d0 := Sat.nilc hS
 have e0 := OwnT.nil (enc := encI) (E := 3) (sz := 1) fR
 refine loopA (γ := Nat × Int × (List Int) × (Option Addr) × Nat × Nat × Chunk) (fun ⟨i, iti, zs, azs, nzs, kzs, czs⟩ => [(0, Pt p 0), (1, I m0), (6, I ((i : Nat) : Int)), (5, .slice azs nzs kzs)]) (fun ⟨i, iti, zs, azs, nzs, kzs, czs⟩ w => Sat W w (czs :: [(p, .cells #[.slice a n k, I iti] 85 (0, 0))] :: H :: F) ∧ i ≤ m0.toNat ∧ (∀ z ∈ zs, numB z) ∧ (zs.length = i) ∧ (0 ≤ iti ∧ iti ≤ n) ∧ OwnT encI 3 1 azs nzs kzs zs czs) (fun ⟨i, iti, zs, azs, nzs, kzs, czs⟩ => m0.toNat - i) (0, i, [], none, 0, 0, []) ⟨d0, om, (by intro z hz; cases hz), by rfl, om, e0⟩ ?_
 rintro ⟨i, iti, zs, azs, nzs, kzs, czs⟩ ρ _ ⟨c0, hi, hB, hzl, hiti, hOzs⟩
 have hn_zs := hOzs.len; have hl_zs := hOzs.le
 refine seqE <| sR <| pu3 <| nT ?_
 refine cD (((i : Nat) : Int) < m0) (fun f0 => ?_) (fun f0 => ?_)
 rotate_left
 ·refine exitE <| xB <| thenK_n <| sR <| pu2 <| nT <| retE <| retT [.slice azs nzs kzs] ?_
  have g0 := (c0.pick 1 rfl)
  exact ⟨_, _, _, zs, czs, rfl, (hOzs.rdAt (cs := [czs]) 0 rfl), ⟨om, hB⟩, _, om, g0⟩
 refine kT <| seqE <| blockE <| regionE <| pu3 ?_
 have h0 := (c0.pick 1 rfl)
 refine cX Tryz.call13 (tape_next (RdT.flat (hR.up 1 (by rfl))) om (Sat.flat1 h0) 41 om) ?_
 rintro _ _ ⟨b0, rfl, _, _, _, i0⟩
 have j0 := Sat.unflat1 i0
 refine sSub b0 20 ?_
 refine sBS j0 #[I 1, I 2, I (-1), I 0, I (b0 - 20), I 5] Tryz.runUnderlying22 Tryz.sizeOf3 Tryz.zeroValue3 ?_
 intro _ _ k0
 have l0 := (k0.pick 1 rfl)
 refine cX Tryz.call38 (tape_pick (RdT.flat (hR.up 2 (by rfl))) om (Sat.flat1 l0) (RdT.flat (RdT.blk (enc := encI) (sz := 1) (xs := [1, 2, -1, 0, (b0 - 20), 5]) (fun _ => (by rfl)) 6 0 rfl rfl rfl om)) om om) ?_
 rintro _ _ ⟨a0, rfl, n0, o0, _, p0⟩
 have q0 := Sat.unflat1 p0
 have h1 : (a0 : Int) = 1 ∨ (a0 : Int) = 2 ∨ (a0 : Int) = (-1) ∨ (a0 : Int) = 0 ∨ (a0 : Int) = (b0 - 20) ∨ (a0 : Int) = 5 := by simpa using n0
 refine sBS q0 #[I a0] Tryz.runUnderlying22 Tryz.sizeOf3 Tryz.zeroValue3 ?_
 intro _ _ r0
 refine sApp (nb := 8) r0 hOzs 3 (RdT.blk (enc := encI) (sz := 1) (xs := [a0]) fR 1 0 rfl rfl rfl om) Tryz.underlying22 (i := Tryz.t3) kr fR ?_
 intro s0 t0 u0 _ v0 w0
 refine pu1 <| nB <| regionE <| pu1 ?_
 refine sAdd ((i : Nat) : Int) 1 ?_
 refine pu1 <| nT ?_
 have x0 := ((w0.pick 3 rfl).drops [1, 2])
 exact ⟨(i + 1, o0, (zs ++ [a0]), s0, (nzs + 1), t0, u0), od, alA, x0, om, mem_snoc hB (by unfold numB; omega), by simp; omega, om, v0⟩
theorem tg_edge {p : Nat} {a : Option Addr} {n k : Nat} {i : Int} {xs : List Int} (hR : RdT encI 1 [H] a n k xs) (hi : 0 ≤ i ∧ i ≤ n) (hS : Sat W w ([(p, .cells #[.slice a n k, I i] 85 (0, 0))] :: H :: F)) (mx : Int) (hmx : 0 ≤ mx ∧ mx ≤ 4294967296) :
  Calls Tryz.prog 61 #[Pt p 0, I mx] w fun e w' => ∃ (ep : Int) (ef : Int), e = .returned (.agg #[I ep, I ef]) ∧ (numB ep ∧ numB ef) ∧ ∃ i' : Int, (0 ≤ i' ∧ i' ≤ n) ∧ Sat W w' ([(p, .cells #[.slice a n k, I i'] 85 (0, 0))] :: H :: F) := by
 have hle := hR.le
 refine callsA 20 Tryz.func61 rfl ?_
 refine sR ?_
 refine sAlloc hS Tryz.zeroValue34 ?_
 intro _ _ g0
 refine nT <| sR <| pu1 ?_
 have h0 := (g0.pick 1 rfl)
 refine cX Tryz.call13 (tape_next (RdT.flat (hR.up 1 (by rfl))) om (Sat.flat1 h0) 4 om) ?_
 rintro _ _ ⟨a0, rfl, _, _, _, i0⟩
 have j0 := Sat.unflat1 i0
 refine pu1 ?_
 refine sAlloc j0 Tryz.zeroValue34 ?_
 intro _ _ k0
 refine sT k0 0 0 (.agg #[I a0, I 0]) [I a0, I 0] #[I a0, I 0] Tryz.sizeOf34 ?_
 intro _ c0
 refine nT <| seqE <| sR <| pu1 ?_
 refine sL c0 0 0 (I a0) (Tryz.isAgg3 _) ?_
 refine pu1 <| nT ?_
 refine cE a0 3 (fun l0 => ?_) (fun l0 => ?_)
 rotate_left
 ·refine kT <| sR ?_
  refine lA c0 0 0 2 (Tryz.isAgg34 _) (Tryz.sizeOf34 _) ?_
  refine sT c0 2 0 (.agg #[I a0, I 0]) [I a0, I 0] #[I a0, I 0] Tryz.sizeOf34 ?_
  intro _ d0
  refine nT <| retE <| retN (vs := [.agg #[I a0, I 0]]) rfl (.cons (.cell _ _ _ _ kr (lvA d0 2 0 [I a0, I 0] (Tryz.isAgg34 _) (Tryz.sizeOf34 _) rfl rfl rfl)) .nil) ?_
  have m0 := (d0.drops [0, 1])
  exact ⟨a0, 0, rfl, by unfold numB; omega, _, om, m0⟩
 have hd := tdiv_bd (a := mx) (b := 2) (A := 4294967296) om om
 refine regionE <| pu3 ?_
 refine sQuo mx 2 ?_
 refine sBS c0 #[I 0, I mx, I (mx.tdiv 2)] Tryz.runUnderlying22 Tryz.sizeOf3 Tryz.zeroValue3 ?_
 intro _ _ n0
 have o0 := (n0.pick 2 rfl)
 refine cX Tryz.call38 (tape_pick (RdT.flat (hR.up 3 (by rfl))) om (Sat.flat1 o0) (RdT.flat (RdT.blk (enc := encI) (sz := 1) (xs := [0, mx, (mx.tdiv 2)]) (fun _ => (by rfl)) 3 0 rfl rfl rfl om)) om om) ?_
 rintro _ _ ⟨b0, rfl, p0, _, _, q0⟩
 have r0 := Sat.unflat1 q0
 have i1 : (b0 : Int) = 0 ∨ (b0 : Int) = mx ∨ (b0 : Int) = (mx.tdiv 2) := by simpa using p0
 refine pu1 ?_
 refine sT r0 2 1 (I b0) [I b0] #[I a0, I b0] Tryz.sizeOf3 ?_
 intro _ e0
 refine nT <| sR ?_
 refine lA e0 2 0 2 (Tryz.isAgg34 _) (Tryz.sizeOf34 _) ?_
 refine sT e0 3 0 (.agg #[I a0, I b0]) [I a0, I b0] #[I a0, I b0] Tryz.sizeOf34 ?_
 intro _ f0
 refine nT <| retE <| retN (vs := [.agg #[I a0, I b0]]) rfl (.cons (.cell _ _ _ _ kr (lvA f0 3 0 [I a0, I b0] (Tryz.isAgg34 _) (Tryz.sizeOf34 _) rfl rfl rfl)) .nil) ?_
 have s0 := (f0.drops [1, 1, 1])
 exact ⟨a0, b0, rfl, by unfold numB; omega, _, om, s0⟩
theorem tg_table {p : Nat} {a : Option Addr} {n k : Nat} {i : Int} {xs : List Int} (hR : RdT encI 1 [H] a n k xs) (hi : 0 ≤ i ∧ i ≤ n) (hS : Sat W w ([(p, .cells #[.slice a n k, I i] 85 (0, 0))] :: H :: F)) (n0 : Int) (hn0 : 1 ≤ n0 ∧ n0 ≤ 128) :
  Calls Tryz.prog 63 #[Pt p 0, I n0] w fun e w' => ∃ (az : Option Addr) (nz : Nat) (kz : Nat) (zs : List Tap) (G : Chunk), e = .returned (.slice az nz kz) ∧ (RdT encTap 2 [G] az nz kz zs) ∧ (∀ z ∈ zs, Tap.Ok [G] z) ∧ (zs.length ≤ 6 ∧ ∀ z ∈ zs, tapB z) ∧ ∃ i' : Int, (0 ≤ i' ∧ i' ≤ n) ∧ Sat W w' ([(p, .cells #[.slice a n k, I i'] 85 (0, 0))] :: G :: H :: F) := by
 have hle := hR.le
 refine callsA 57 Tryz.func63 rfl ?_
 refine sR <| pu1 <| nT <| sR <| pu1 ?_
 refine cX Tryz.call13 (tape_next (RdT.flat (hR.up 0 (by rfl))) om (Sat.flat1 hS) 6 om) ?_
 rintro _ _ ⟨a0, rfl, _, _, _, h1⟩
 have i1 := Sat.unflat1 h1
 refine sAdd 1 a0 ?_
 refine pu1 <| nT <| sR <| pu2 ?_
 refine sF #[I n0, I (1 + a0), I 8] Tryz.call101 (Calls.mono (r8_linear W _ _ [] n0 (1 + a0) 8 (Sat.flat i1)) ?_)
 rintro _ _ ⟨q0, b0, r0, s0, _, e0, f0, rfl, g0, t0, h0, u0⟩
 refine ⟨_, rfl, ?_⟩
 have j1 := Sat.unflat2 u0; clear u0
 have hn_zs_14 := g0.len; have hl_zs_14 := g0.le
 refine pu5 <| nT <| seqE <| sR <| pu1 ?_
 have k1 := (j1.pick 2 rfl)
 refine cX Tryz.call13 (tape_next (RdT.flat (hR.up 2 (by rfl))) om (Sat.flat1 k1) 2 om) ?_
 rintro _ _ ⟨l1, rfl, _, c0, _, m1⟩
 have v0 := Sat.unflat1 m1
 refine pu1 <| nT ?_
 refine cE l1 0 (fun n1 => ?_) (fun n1 => ?_)
 ·refine seqE <| sR <| pu2 ?_
  refine sF #[I n0, I (1 + a0), I 8] Tryz.call102 (Calls.mono (r8_box W _ _ [] n0 (1 + a0) 8 (Sat.flat v0)) ?_)
  rintro _ _ ⟨o1, p1, q1, r1, s1, l0, m0, rfl, o0, t1, w0, x0⟩
  refine ⟨_, rfl, ?_⟩
  have y0 := Sat.unflat2 x0; clear x0
  have hn_zs_36 := o0.len; have hl_zs_36 := o0.le
  refine pu5 <| nT <| sR <| pu2 <| nT ?_
  refine cE s1 0 (fun u1 => ?_) (fun u1 => ?_)
  rotate_left
  ·refine kT <| sR <| pu2 <| nT <| retE <| thenK_r <| retT [.slice q0 b0 r0] ?_
   have v1 := (y0.drops [0, 0])
   have w1 : Sat W _ ([(p, .cells #[.slice a n k, I c0] 85 (0, 0))] :: (f0 ++ e0) :: H :: F) := Sat.perm (show Sat W _ ([(p, .cells #[.slice a n k, I c0] 85 (0, 0))] :: f0 :: e0 :: H :: F) from v1) (by simp [Value.cells])
   exact ⟨_, _, _, s0, (f0 ++ e0), rfl, (g0.rd (fun p hp => by simp [hp])), (fun z hz => (t0 z hz).of_mem mS), ⟨by have h := h0.1; omega, h0.2⟩, _, om, w1⟩
  refine sR <| pu2 <| nT <| retE <| thenK_r <| thenK_r <| retT [.slice o1 p1 q1] ?_
  have x1 := ((y0.pick 2 rfl).drops [3, 3])
  have y1 : Sat W _ ([(p, .cells #[.slice a n k, I c0] 85 (0, 0))] :: (m0 ++ l0) :: H :: F) := Sat.perm (show Sat W _ ([(p, .cells #[.slice a n k, I c0] 85 (0, 0))] :: m0 :: l0 :: H :: F) from x1) (by simp [Value.cells])
  exact ⟨_, _, _, r1, (m0 ++ l0), rfl, (o0.rd (fun p hp => by simp [hp])), (fun z hz => (t1 z hz).of_mem mS), ⟨by have h := w0.1; omega, w0.2⟩, _, om, y1⟩
 refine kT <| seqE <| sR <| pu1 <| nT <| blockE ?_
 have z1 := (v0.pick 2 rfl)
 have a2 := (z1.pick 2 rfl)
 refine loopA (γ := Nat × Int × (List Tap) × (Option Addr) × Nat × Nat × Chunk × Chunk) (fun ⟨i, iti, zs, azs, nzs, kzs, czs, Gzs⟩ => [(0, Pt p 0), (1, I n0), (10, I ((i : Nat) : Int)), (6, .slice azs nzs kzs)]) (fun ⟨i, iti, zs, azs, nzs, kzs, czs, Gzs⟩ w => Sat W w (Gzs :: czs :: [(p, .cells #[.slice a n k, I iti] 85 (0, 0))] :: H :: F) ∧ i ≤ b0 ∧ (∀ z ∈ zs, tapB z) ∧ (zs.length = b0) ∧ (zs.length ≤ 6) ∧ (0 ≤ iti ∧ iti ≤ n) ∧ OwnT encTap 123 2 azs nzs kzs zs czs ∧ (∀ z ∈ zs, Tap.Ok [Gzs] z)) (fun ⟨i, iti, zs, azs, nzs, kzs, czs, Gzs⟩ => b0 - i) (0, c0, s0, q0, b0, r0, e0, f0) ⟨a2, om, h0.2, om, by have h := h0.1; omega, om, g0, t0⟩ ?_
 rintro ⟨i, iti, zs, azs, nzs, kzs, czs, Gzs⟩ ρ _ ⟨z0, hi, hB, hzl, hz6, hiti, hOzs, hDzs⟩
 have hn_zs := hOzs.len; have hl_zs := hOzs.le
 refine seqE <| sR <| pu4 <| nT ?_
 refine cD (((i : Nat) : Int) < ((nzs : Nat) : Int)) (fun b2 => ?_) (fun b2 => ?_)
 rotate_left
 ·refine exitE <| xB <| thenK_n <| sR <| pu2 <| nT <| retE <| retT [.slice azs nzs kzs] ?_
  have c2 := (z0.pick 2 rfl)
  have d2 : Sat W _ ([(p, .cells #[.slice a n k, I iti] 85 (0, 0))] :: (Gzs ++ czs) :: H :: F) := Sat.perm (show Sat W _ ([(p, .cells #[.slice a n k, I iti] 85 (0, 0))] :: Gzs :: czs :: H :: F) from c2) (by simp [Value.cells])
  exact ⟨_, _, _, zs, (Gzs ++ czs), rfl, (hOzs.rd (fun p hp => by simp [hp])), (fun z hz => (hDzs z hz).of_mem mS), ⟨om, hB⟩, _, om, d2⟩
 refine kT <| seqE <| blockE <| sR <| pu1 ?_
 have e2 := (z0.pick 2 rfl)
 refine cX Tryz.call13 (tape_next (RdT.flat (hR.up 2 (by rfl))) om (Sat.flat1 e2) 4 om) ?_
 rintro _ _ ⟨f2, rfl, _, g2, _, h2⟩
 have a1 := Sat.unflat1 h2
 refine pu1 <| nT ?_
 refine cE f2 0 (fun i2 => ?_) (fun i2 => ?_)
 rotate_left
 ·refine skipE <| blockK_n <| thenK_n <| regionE <| pu1 ?_
  refine sAdd ((i : Nat) : Int) 1 ?_
  refine pu1 <| nT ?_
  have j2 := (a1.picks [2, 2])
  exact ⟨(i + 1, g2, zs, azs, nzs, kzs, czs, Gzs), od, alA, j2, om, hB, by first | omega | (simp; omega), by first | omega | (simp; omega), om, hOzs, hDzs⟩
 refine regionE <| pu4 ?_
 refine sAdd n0 6 ?_
 refine cX Tryz.call13 (tape_next (RdT.flat (hR.up 2 (by rfl))) om (Sat.flat1 a1) (n0 + 6) om) ?_
 rintro _ _ ⟨d0, rfl, _, _, _, k2⟩
 have l2 := Sat.unflat1 k2
 refine sSub d0 4 ?_
 refine pu2 ?_
 refine cX Tryz.call13 (tape_next (RdT.flat (hR.up 2 (by rfl))) om (Sat.flat1 l2) 4 om) ?_
 rintro _ _ ⟨b1, rfl, _, _, _, m2⟩
 have n2 := Sat.unflat1 m2
 refine sAdd 1 b1 ?_
 refine cX Tryz.call62 (tg_weights (RdT.flat (hR.up 2 (by rfl))) om (Sat.flat1 n2) (1 + b1) om) ?_
 rintro _ _ ⟨i0, j0, k0, c1, d1, rfl, p0, e1, f1, _, o2⟩
 have p2 := Sat.unflat2 o2
 have hn_zs_81 := p0.len; have hl_zs_81 := p0.le
 refine pu1 ?_
 refine sIdxO hOzs ((i : Nat) : Int) i Tryz.runUnderlying35 Tryz.sizeOf123 ?_
 intro q2 _ _ r2 _ s2
 refine sStF p2 hOzs s2 3 i 0 q2 (⟨(d0 - 4), ⟨i0, j0, k0, c1⟩⟩ : Tap) r2 (.agg #[I (d0 - 4), .slice i0 j0 k0]) [I (d0 - 4), .slice i0 j0 k0] Tryz.sizeOf123 ?_
 intro _ g1 t2 u2
 refine nB <| regionE <| pu1 ?_
 refine sAdd ((i : Nat) : Int) 1 ?_
 refine pu1 <| nT ?_
 have v2 := (u2.picks [3, 3, 3])
 have w2 := (Sat.perm (cs' := (d1 ++ Gzs) :: (g1 :: [(p, .cells #[.slice a n k, I f1] 85 (0, 0))] :: H :: F)) v2 (by simp))
 exact ⟨(i + 1, f1, (zs.set i (⟨(d0 - 4), ⟨i0, j0, k0, c1⟩⟩ : Tap)), azs, nzs, kzs, g1, (d1 ++ Gzs)), od, alA, w2, om, mem_set hB ⟨by unfold numB; dsimp only; omega, by have h := e1.1; dsimp only; omega, e1.2⟩, by first | omega | (simp; omega), by first | omega | (simp; omega), om, t2, (mem_set (fun z hz => (hDzs z hz).of_mem mS) ⟨p0.of_mem mS⟩)⟩
def opB (o : POp) : Prop := numB o.code ∧ numB o.arg
theorem tg_ops {p : Nat} {a : Option Addr} {n k : Nat} {i : Int} {xs : List Int} (hR : RdT encI 1 [H] a n k xs) (hi : 0 ≤ i ∧ i ≤ n) (hS : Sat W w ([(p, .cells #[.slice a n k, I i] 85 (0, 0))] :: H :: F)) (two : Bool) :
  Calls Tryz.prog 64 #[Pt p 0, .bool two] w fun e w' => ∃ (az : Option Addr) (nz : Nat) (kz : Nat) (zs : List POp) (G : Chunk), e = .returned (.slice az nz kz) ∧ (RdT encPOp 2 [G] az nz kz zs) ∧ (zs.length ≤ 9 ∧ ∀ z ∈ zs, opB z) ∧ ∃ i' : Int, (0 ≤ i' ∧ i' ≤ n) ∧ Sat W w' ([(p, .cells #[.slice a n k, I i'] 85 (0, 0))] :: G :: H :: F) := by
 have hle := hR.le
 refine callsA 55 Tryz.func64 rfl ?_
 refine sR <| pu1 <| nT <| sR <| pu1 ?_
 refine sBS hS #[I 0, I 0] Tryz.runUnderlying36 Tryz.sizeOf92 Tryz.zeroValue92 ?_
 intro d0 _ h0
 refine pu1 <| nT ?_
 refine cutA (γ := (Option Addr) × Nat × Nat × (List POp) × Chunk × Int) (fun ⟨a1, n1, k1, z1, c1, itc⟩ => [(0, Pt p 0), (5, .slice a1 n1 k1)]) (fun ⟨a1, n1, k1, z1, c1, itc⟩ w => Sat W w ([(p, .cells #[.slice a n k, I itc] 85 (0, 0))] :: c1 :: H :: F) ∧ (0 ≤ itc ∧ itc ≤ n) ∧ OwnT encPOp 92 2 a1 n1 k1 z1 c1 ∧ (z1.length ≤ 3 ∧ ∀ z ∈ z1, opB z)) ?_ ?_
 ·refine sR <| pu1 <| nT ?_
  refine cB two (fun k0 => ?_) (fun k0 => ?_)
  rotate_left
  ·refine kT ?_
   have l0 := OwnT.blk (enc := encPOp) (sz := 2) (b := d0) (c := #[I 0, I 0]) (E := 92) (xs := [(⟨0, 0⟩ : POp)]) fR 1 rfl rfl rfl om
   have m0 := (h0.pick 1 rfl)
   exact ⟨((At d0 0), 1, 1, [(⟨0, 0⟩ : POp)], [(d0, .cells #[I 0, I 0] 92 (0, 0))], i), alA, m0, om, l0, ⟨by simp, (by intro z hz; simp at hz; subst hz; (unfold opB numB; dsimp only; omega))⟩⟩
  refine regionE <| pu3 ?_
  refine sBS h0 #[I 3, I 4, I 5, I 6, I 7, I 8, I 9] Tryz.runUnderlying22 Tryz.sizeOf3 Tryz.zeroValue3 ?_
  intro _ _ n0
  have o0 := (n0.pick 2 rfl)
  refine cX Tryz.call38 (tape_pick (RdT.flat (hR.up 2 (by rfl))) om (Sat.flat1 o0) (RdT.flat (RdT.blk (enc := encI) (sz := 1) (xs := [3, 4, 5, 6, 7, 8, 9]) (fun _ => (by rfl)) 7 0 rfl rfl rfl om)) om om) ?_
  rintro _ _ ⟨a0, rfl, p0, q0, _, r0⟩
  have s0 := Sat.unflat1 r0
  have j3 : (a0 : Int) = 3 ∨ (a0 : Int) = 4 ∨ (a0 : Int) = 5 ∨ (a0 : Int) = 6 ∨ (a0 : Int) = 7 ∨ (a0 : Int) = 8 ∨ (a0 : Int) = 9 := by simpa using p0
  refine pu1 ?_
  refine sBS s0 #[I 1, I 0, I a0, I 0] Tryz.runUnderlying36 Tryz.sizeOf92 Tryz.zeroValue92 ?_
  intro _ _ t0
  have u0 := OwnT.blk (enc := encPOp) (sz := 2) (b := d0) (c := #[I 0, I 0]) (E := 92) (xs := [(⟨0, 0⟩ : POp)]) fR 1 rfl rfl rfl om
  refine sApp (nb := 16) t0 u0 3 (RdT.blk (enc := encPOp) (sz := 2) (xs := [(⟨1, 0⟩ : POp), (⟨a0, 0⟩ : POp)]) fR 2 0 rfl rfl rfl om) Tryz.underlying36 (i := Tryz.t92) kr fR ?_
  intro v0 w0 x0 _ y0 z0
  refine pu1 <| nT ?_
  have b1 := (z0.drops [0, 1])
  exact ⟨(v0, (1 + 2), w0, ([(⟨0, 0⟩ : POp)] ++ [(⟨1, 0⟩ : POp), (⟨a0, 0⟩ : POp)]), x0, q0), alA, b1, om, y0, ⟨by simp, (by intro z hz; simp at hz; rcases hz with rfl | rfl | rfl <;> (unfold opB numB; dsimp only; omega))⟩⟩
 rintro ⟨a1, n1, k1, z1, c1, itc⟩ ρ _ ⟨d1, hitc, hO1, hz1⟩
 refine seqE <| sR <| pu1 ?_
 refine cX Tryz.call13 (tape_next (RdT.flat (hR.up 1 (by rfl))) om (Sat.flat1 d1) 4 om) ?_
 rintro _ _ ⟨e1, rfl, _, f1, _, g1⟩
 have h1 := Sat.unflat1 g1
 refine pu1 <| nT <| blockE ?_
 have i1 := (h1.pick 1 rfl)
 refine loopA (γ := Nat × Int × Int × (List POp) × (Option Addr) × Nat × Nat × Chunk) (fun ⟨u, j, itu, zs, azs, nzs, kzs, czs⟩ => [(0, Pt p 0), (6, I j), (5, .slice azs nzs kzs)]) (fun ⟨u, j, itu, zs, azs, nzs, kzs, czs⟩ w => Sat W w (czs :: [(p, .cells #[.slice a n k, I itu] 85 (0, 0))] :: H :: F) ∧ u ≤ 3 ∧ (∀ z ∈ zs, opB z) ∧ (zs.length ≤ 3 + 2 * u) ∧ ((u : Int) + j ≤ 3) ∧ (0 ≤ itu ∧ itu ≤ n) ∧ OwnT encPOp 92 2 azs nzs kzs zs czs) (fun ⟨u, j, itu, zs, azs, nzs, kzs, czs⟩ => 3 - u) (0, e1, f1, z1, a1, n1, k1, c1) ⟨i1, om, hz1.2, om, om, om, hO1⟩ ?_
 rintro ⟨u, j, itu, zs, azs, nzs, kzs, czs⟩ ρ _ ⟨i0, hu, hB, hzl, hj, hitu, hOzs⟩
 have hn_zs := hOzs.len; have hl_zs := hOzs.le
 refine seqE <| sR <| pu2 <| nT ?_
 refine cD (j > 0) (fun j1 => ?_) (fun j1 => ?_)
 rotate_left
 ·refine exitE <| xB <| thenK_n <| sR <| pu2 <| nT <| retE <| retT [.slice azs nzs kzs] ?_
  have l1 := (i0.pick 1 rfl)
  exact ⟨_, _, _, zs, czs, rfl, (hOzs.rdAt (cs := [czs]) 0 rfl), ⟨om, hB⟩, _, om, l1⟩
 refine kT <| seqE <| blockE <| sR <| pu1 ?_
 have m1 := (i0.pick 1 rfl)
 refine cX Tryz.call13 (tape_next (RdT.flat (hR.up 1 (by rfl))) om (Sat.flat1 m1) 3 om) ?_
 rintro _ _ ⟨j0, rfl, _, o1, _, p1⟩
 have f0 := Sat.unflat1 p1
 refine nT <| blockE <| sR <| pu2 <| nT ?_
 refine cE j0 0 (fun q1 => ?_) (fun q1 => ?_)
 rotate_left
 ·refine sR <| pu2 <| nT ?_
  refine cE j0 1 (fun r1 => ?_) (fun r1 => ?_)
  rotate_left
  ·refine regionE <| pu2 ?_
   refine sBS f0 #[I 11, I 0] Tryz.runUnderlying36 Tryz.sizeOf92 Tryz.zeroValue92 ?_
   intro _ _ s1
   refine sApp (nb := 16) s1 hOzs 2 (RdT.blk (enc := encPOp) (sz := 2) (xs := [(⟨11, 0⟩ : POp)]) fR 1 0 rfl rfl rfl om) Tryz.underlying36 (i := Tryz.t92) kr fR ?_
   intro t1 u1 v1 _ w1 x1
   refine pu1 <| nilO <| blockK_n <| blockK_n <| thenK_n <| regionE <| pu1 ?_
   refine sSub j 1 ?_
   refine pu1 <| nT ?_
   have y1 := ((x1.pick 2 rfl).dropAt 1 rfl)
   exact ⟨(u + 1, (j - 1), o1, (zs ++ [(⟨11, 0⟩ : POp)]), t1, (nzs + 1), u1, v1), od, alA, y1, om, (by
     intro z hz
     rcases List.mem_append.1 hz with h | h
     ·exact hB z h
     ·simp only [List.mem_cons, List.not_mem_nil, or_false] at h
      subst h; (unfold opB numB; dsimp only; omega)), by simp; omega, om, om, w1⟩
  refine regionE <| pu2 ?_
  refine cX Tryz.call13 (tape_next (RdT.flat (hR.up 1 (by rfl))) om (Sat.flat1 f0) 4 om) ?_
  rintro _ _ ⟨g0, rfl, _, a2, _, b2⟩
  have c2 := Sat.unflat1 b2
  refine pu1 ?_
  refine sBS c2 #[I 10, I g0] Tryz.runUnderlying36 Tryz.sizeOf92 Tryz.zeroValue92 ?_
  intro _ _ d2
  refine sApp (nb := 16) d2 hOzs 2 (RdT.blk (enc := encPOp) (sz := 2) (xs := [(⟨10, g0⟩ : POp)]) fR 1 0 rfl rfl rfl om) Tryz.underlying36 (i := Tryz.t92) kr fR ?_
  intro e2 f2 g2 _ h2 i2
  refine pu1 <| nilO <| blockK_n <| blockK_n <| thenK_n <| regionE <| pu1 ?_
  refine sSub j 1 ?_
  refine pu1 <| nT ?_
  have j2 := ((i2.pick 2 rfl).dropAt 1 rfl)
  exact ⟨(u + 1, (j - 1), a2, (zs ++ [(⟨10, g0⟩ : POp)]), e2, (nzs + 1), f2, g2), od, alA, j2, om, (by
    intro z hz
    rcases List.mem_append.1 hz with h | h
    ·exact hB z h
    ·simp only [List.mem_cons, List.not_mem_nil, or_false] at h
     subst h; (unfold opB numB; dsimp only; omega)), by simp; omega, om, om, h2⟩
 refine regionE <| pu3 ?_
 refine cX Tryz.call13 (tape_next (RdT.flat (hR.up 1 (by rfl))) om (Sat.flat1 f0) 300 om) ?_
 rintro _ _ ⟨e0, rfl, _, _, _, k2⟩
 have l2 := Sat.unflat1 k2
 refine sSub e0 100 ?_
 refine sBS l2 #[I (e0 - 100), I 0, I 3, I (-2)] Tryz.runUnderlying22 Tryz.sizeOf3 Tryz.zeroValue3 ?_
 intro _ _ m2
 have n2 := (m2.pick 1 rfl)
 refine cX Tryz.call38 (tape_pick (RdT.flat (hR.up 2 (by rfl))) om (Sat.flat1 n2) (RdT.flat (RdT.blk (enc := encI) (sz := 1) (xs := [(e0 - 100), 0, 3, -2]) (fun _ => (by rfl)) 4 0 rfl rfl rfl om)) om om) ?_
 rintro _ _ ⟨c0, rfl, o2, _, _, p2⟩
 have q2 := Sat.unflat1 p2
 have n4 : (c0 : Int) = (e0 - 100) ∨ (c0 : Int) = 0 ∨ (c0 : Int) = 3 ∨ (c0 : Int) = (-2) := by simpa using o2
 refine pu2 ?_
 refine sBS q2 #[I 3, I 4, I 5, I 6, I 7, I 8, I 9] Tryz.runUnderlying22 Tryz.sizeOf3 Tryz.zeroValue3 ?_
 intro _ _ r2
 have s2 := (r2.pick 1 rfl)
 refine cX Tryz.call38 (tape_pick (RdT.flat (hR.up 3 (by rfl))) om (Sat.flat1 s2) (RdT.flat (RdT.blk (enc := encI) (sz := 1) (xs := [3, 4, 5, 6, 7, 8, 9]) (fun _ => (by rfl)) 7 0 rfl rfl rfl om)) om om) ?_
 rintro _ _ ⟨b0, rfl, t2, u2, _, v2⟩
 have w2 := Sat.unflat1 v2
 have s4 : (b0 : Int) = 3 ∨ (b0 : Int) = 4 ∨ (b0 : Int) = 5 ∨ (b0 : Int) = 6 ∨ (b0 : Int) = 7 ∨ (b0 : Int) = 8 ∨ (b0 : Int) = 9 := by simpa using t2
 refine pu1 ?_
 refine sBS w2 #[I 2, I c0, I b0, I 0] Tryz.runUnderlying36 Tryz.sizeOf92 Tryz.zeroValue92 ?_
 intro _ _ x2
 refine sApp (nb := 16) x2 hOzs 4 (RdT.blk (enc := encPOp) (sz := 2) (xs := [(⟨2, c0⟩ : POp), (⟨b0, 0⟩ : POp)]) fR 2 0 rfl rfl rfl om) Tryz.underlying36 (i := Tryz.t92) kr fR ?_
 intro y2 z2 a3 _ b3 c3
 refine pu1 <| nilO <| blockK_n <| blockK_n <| thenK_n <| regionE <| pu1 ?_
 refine sSub j 1 ?_
 refine pu1 <| nT ?_
 have d3 := ((c3.pick 4 rfl).drops [1, 2, 2])
 exact ⟨(u + 1, (j - 1), u2, (zs ++ [(⟨2, c0⟩ : POp), (⟨b0, 0⟩ : POp)]), y2, (nzs + 2), z2, a3), od, alA, d3, om, (by
   intro z hz
   rcases List.mem_append.1 hz with h | h
   ·exact hB z h
   ·simp only [List.mem_cons, List.not_mem_nil, or_false] at h
    rcases h with rfl | rfl <;> (unfold opB numB; dsimp only; omega)), by simp; omega, om, om, b3⟩
def stageB (k : Nat) (q : Stage) : Prop := (numB q.kind ∧ numB q.a ∧ numB q.b ∧ numB q.edgePolicy ∧ numB q.edgeFill ∧ numB q.kW ∧ numB q.kH ∧ numB q.shift ∧ numB q.shift2 ∧ numB q.bins ∧ numB q.max_) ∧ (q.weights.l.length ≤ 64 ∧ ∀ z ∈ q.weights.l, numB z) ∧ (q.row.l.length ≤ 64 ∧ ∀ z ∈ q.row.l, numB z) ∧ (q.col.l.length ≤ 64 ∧ ∀ z ∈ q.col.l, numB z) ∧ (q.x.l.length ≤ 6 + k ∧ ∀ z ∈ q.x.l, tapB z) ∧ (q.y.l.length ≤ 6 + k ∧ ∀ z ∈ q.y.l, tapB z) ∧ (q.ops.l.length ≤ 9 + k ∧ ∀ z ∈ q.ops.l, opB z)
theorem tg_stage {p : Nat} {a : Option Addr} {n k : Nat} {i : Int} {xs : List Int} (hR : RdT encI 1 [H] a n k xs) (hi : 0 ≤ i ∧ i ≤ n) (hS : Sat W w ([(p, .cells #[.slice a n k, I i] 85 (0, 0))] :: H :: F)) (a0 : Int) (s0 : Shape) (b0 : Int) (hs0 : szP s0) (hab : numB a0 ∧ numB b0) :
  Calls Tryz.prog 23 #[Pt p 0, I a0, .agg #[I s0.w, I s0.h, I s0.max_], I b0] w fun e w' => ∃ (q : Stage) (G : Chunk), e = .returned (.agg (encStage q).toArray) ∧ (Stage.Ok [G] q) ∧ (stageB 0 q) ∧ (q.a = a0 ∧ (q.b = -1 ∨ (q.b = b0 ∧ 0 ≤ b0))) ∧ ∃ i' : Int, (0 ≤ i' ∧ i' ≤ n) ∧ Sat W w' ([(p, .cells #[.slice a n k, I i'] 85 (0, 0))] :: G :: H :: F) := by
 have hle := hR.le
 have hs1 := hs0; unfold szP at hs1; have hab1 := hab; unfold numB at hab1
 refine callsA 126 Tryz.func23 rfl ?_
 refine sR ?_
 refine sBox hS (.agg #[I s0.w, I s0.h, I s0.max_]) #[I s0.w, I s0.h, I s0.max_] ?_
 intro p0 _ e5
 refine sAlloc e5 Tryz.zeroValue38 ?_
 intro f0 _ f5
 refine nT <| sR <| pu1 ?_
 have g5 := (f5.pick 2 rfl)
 refine cX Tryz.call13 (tape_next (RdT.flat (hR.up 2 (by rfl))) om (Sat.flat1 g5) 6 om) ?_
 rintro _ _ ⟨c0, rfl, _, _, _, h5⟩
 have i5 := Sat.unflat1 h5
 refine sAdd 1 c0 ?_
 refine pu2 ?_
 refine cX Tryz.call13 (tape_next (RdT.flat (hR.up 2 (by rfl))) om (Sat.flat1 i5) 4 om) ?_
 rintro _ _ ⟨e0, rfl, _, _, _, j5⟩
 have k5 := Sat.unflat1 j5
 refine pu2 ?_
 refine sAlloc k5 Tryz.zeroValue38 ?_
 intro g0 _ l5
 refine sT l5 0 0 (.agg #[I (1 + c0), I a0, I (-1), .bool ((e0 : Int) == 3), I 0, I 0, I 0, I 0, .slice none 0 0, .slice none 0 0, .slice none 0 0, I 0, I 0, .slice none 0 0, .slice none 0 0, I 0, .slice none 0 0, I 0]) [I (1 + c0), I a0, I (-1), .bool ((e0 : Int) == 3), I 0, I 0, I 0, I 0, .slice none 0 0, .slice none 0 0, .slice none 0 0, I 0, I 0, .slice none 0 0, .slice none 0 0, I 0, .slice none 0 0, I 0] #[I (1 + c0), I a0, I (-1), .bool ((e0 : Int) == 3), I 0, I 0, I 0, I 0, .slice none 0 0, .slice none 0 0, .slice none 0 0, I 0, I 0, .slice none 0 0, .slice none 0 0, I 0, .slice none 0 0, I 0] Tryz.sizeOf38 ?_
 intro _ m5
 refine nT <| sR <| pu1 ?_
 refine sBS m5 #[I 255, I 65535, I 15] Tryz.runUnderlying22 Tryz.sizeOf3 Tryz.zeroValue3 ?_
 intro _ _ n5
 have o5 := (n5.pick 2 rfl)
 refine cX Tryz.call38 (tape_pick (RdT.flat (hR.up 4 (by rfl))) om (Sat.flat1 o5) (RdT.flat (RdT.blk (enc := encI) (sz := 1) (xs := [255, 65535, 15]) (fun _ => (by rfl)) 3 0 rfl rfl rfl om)) om om) ?_
 rintro _ _ ⟨d0, rfl, p5, k2, _, q5⟩
 have h0 := Sat.unflat1 q5
 have pb : (d0 : Int) = 255 ∨ (d0 : Int) = 65535 ∨ (d0 : Int) = 15 := by simpa using p5
 refine pu1 <| nT ?_
 refine cutA (γ := Stage × Chunk × Int) (fun ⟨q, G1, itc⟩ => [(8, Pt f0 0), (9, Pt g0 0)]) (fun ⟨q, G1, itc⟩ w => Sat W w ([(p, .cells #[.slice a n k, I itc] 85 (0, 0))] :: [(g0, .cells (encStage q).toArray 38 (0, 0))] :: [(f0, .cells #[I 0, I 0, I 0, .bool false, I 0, I 0, I 0, I 0, .slice none 0 0, .slice none 0 0, .slice none 0 0, I 0, I 0, .slice none 0 0, .slice none 0 0, I 0, .slice none 0 0, I 0] 38 (0, 0))] :: G1 :: H :: F) ∧ (0 ≤ itc ∧ itc ≤ n) ∧ Stage.Ok [G1] q ∧ stageB 0 q ∧ (q.a = a0 ∧ (q.b = -1 ∨ (q.b = b0 ∧ 0 ≤ b0)))) ?_ ?_
 rotate_left
 ·rintro ⟨q, G1, itc⟩ ρ _ ⟨u3, hitc, hqok, hqB, hqab⟩
  refine sR ?_
  refine lA u3 1 0 18 (Tryz.isAgg38 _) (Tryz.sizeOf38 _) ?_
  refine sT u3 2 0 (.agg (encStage q).toArray) (encStage q) (encStage q).toArray Tryz.sizeOf38 ?_
  intro _ v3
  refine nT <| retE <| retN (vs := [.agg (encStage q).toArray]) rfl (.cons (.cell _ _ _ _ kr (lvA v3 2 0 (encStage q) (Tryz.isAgg38 _) (Tryz.sizeOf38 _) rfl rfl rfl)) .nil) ?_
  have r5 := (v3.drops [1, 1])
  exact ⟨q, G1, rfl, hqok, hqB, hqab, _, om, r5⟩
 refine sR <| pu1 ?_
 refine sL h0 2 0 (I (1 + c0)) (Tryz.isAgg3 _) ?_
 refine nT <| blockE <| sR <| pu2 <| nT ?_
 refine cE (1 + c0) 1 (fun s5 => ?_) (fun s5 => ?_)
 ·refine seqE ?_
  refine drawP [1, 2, 4, 5, 8, 12, 14, 16, 18, 20, 22] [(11, ⟨p0, 2, none⟩, I s0.max_)] (Plan.sts [0, 3, 6, 7, 9, 10] <| Plan.sts [11] <| .fk 1 4 (.fk 2 4 (Plan.sts [13] <| .ef 4 <| .ef 5 <| .ef 8 <| .ef 12 <| .ef 14 <| Plan.sts [15] <| .ef 16 <| Plan.sts [17] <| .ef 18 <| Plan.sts [19] <| .ef 20 <| Plan.sts [21] <| .ef 22 <| .fin) (.ef 2 <| Plan.sts [13] <| .ef 5 <| .ef 8 <| .ef 12 <| .ef 14 <| Plan.sts [15] <| .ef 16 <| Plan.sts [17] <| .ef 18 <| Plan.sts [19] <| .ef 20 <| Plan.sts [21] <| .ef 22 <| .fin)) (.ef 1 <| .ef 2 <| Plan.sts [13] <| .ef 5 <| .ef 8 <| .ef 12 <| .ef 14 <| Plan.sts [15] <| .ef 16 <| Plan.sts [17] <| .ef 18 <| Plan.sts [19] <| .ef 20 <| Plan.sts [21] <| .ef 22 <| .fin)) rfl kr ⟨.inr (h0.cell 4 rfl rfl), trivial⟩ ?_
  have w3 := h0.drew
  refine qU [0, 3, 6, 7, 9, 10] ?_
  refine qLd (I s0.max_) 0 Tryz.isAgg3 ?_
  refine qF ?_ ?_
  rotate_left
  ·refine qO rfl ?_
   refine sBS w3 #[I 1, I 3, I 2] Tryz.runUnderlying22 Tryz.sizeOf3 Tryz.zeroValue3 ?_
   intro _ _ x3
   refine nilO ⟨⟨.inr (x3.cell 5 rfl rfl), trivial⟩, ?_⟩
   refine qO rfl ?_
   refine sBS x3 #[I 1, I 3, I 2, I 5] Tryz.runUnderlying22 Tryz.sizeOf3 Tryz.zeroValue3 ?_
   intro _ _ y3
   refine nilO ⟨⟨.inr (y3.cell 6 rfl rfl), trivial⟩, ?_⟩
   refine qO rfl ?_
   have t5 := (y3.pick 2 rfl)
   refine cX Tryz.call38 (tape_pick (RdT.flat (hR.up 6 (by rfl))) om (Sat.flat1 t5) (RdT.flat (RdT.blk (enc := encI) (sz := 1) (xs := [1, 3, 2, 5]) (fun _ => (by rfl)) 4 0 rfl rfl rfl om)) om om) ?_
   rintro _ _ ⟨i0, rfl, u5, _, _, v5⟩
   have z3 := Sat.unflat1 v5
   have zb : (i0 : Int) = 1 ∨ (i0 : Int) = 3 ∨ (i0 : Int) = 2 ∨ (i0 : Int) = 5 := by simpa using u5
   refine nilO ⟨⟨.inr (z3.cell 6 rfl rfl), trivial⟩, ?_⟩
   refine qU [13] ?_
   refine qO rfl ?_
   refine cX Tryz.call38 (tape_pick (RdT.flat (hR.up 6 (by rfl))) om (Sat.flat1 z3) (RdT.flat (RdT.blk (enc := encI) (sz := 1) (xs := [1, 3, 2]) (fun _ => (by rfl)) 3 1 rfl rfl rfl om)) om om) ?_
   rintro _ _ ⟨l0, rfl, w5, _, _, x5⟩
   have a4 := Sat.unflat1 x5
   have dc : (l0 : Int) = 1 ∨ (l0 : Int) = 3 ∨ (l0 : Int) = 2 := by simpa using w5
   refine nilO ⟨⟨.inr (a4.cell 6 rfl rfl), trivial⟩, ?_⟩
   refine qO rfl ?_
   refine cX Tryz.call13 (tape_next (RdT.flat (hR.up 6 (by rfl))) om (Sat.flat1 a4) 4 om) ?_
   rintro _ _ ⟨q0, rfl, _, _, _, y5⟩
   have b4 := Sat.unflat1 y5
   refine nilO ⟨⟨.inr (b4.cell 6 rfl rfl), trivial⟩, ?_⟩
   refine qO rfl ?_
   refine cX Tryz.call61 (tg_edge (RdT.flat (hR.up 6 (by rfl))) om (Sat.flat1 b4) s0.max_ om) ?_
   rintro _ _ ⟨r0, t0, rfl, z5, _, _, a6⟩
   have b6 := Sat.unflat1 a6
   unfold numB at z5
   refine nilO ⟨dA, ?_⟩
   refine qO rfl ?_
   refine tW b6 4 6 (I i0) Tryz.sizeOf3 ?_
   intro _ c6
   refine nilO ⟨dA, ?_⟩
   refine qU [15] ?_
   refine qO rfl ?_
   refine tW c6 4 7 (I l0) Tryz.sizeOf3 ?_
   intro _ d6
   refine nilO ⟨dA, ?_⟩
   refine qU [17] ?_
   refine qO rfl ?_
   refine tW d6 4 17 (I d0) Tryz.sizeOf3 ?_
   intro _ e6
   refine nilO ⟨dA, ?_⟩
   refine qU [19] ?_
   refine qO rfl ?_
   refine tW e6 4 11 (I q0) Tryz.sizeOf3 ?_
   intro _ f6
   refine nilO ⟨dA, ?_⟩
   refine qU [21] ?_
   refine qO rfl ?_
   refine tW f6 4 4 (.agg #[I r0, I t0]) Tryz.sizeOf34 ?_
   intro _ l2
   refine nilO ⟨dA, ?_⟩
   refine qN ?_
   refine thenK_n ?_
   have hkk := mul_bd (a := i0) (b := l0) (A := 5) (B := 3) om om
   refine regionE <| pu2 ?_
   refine sL l2 4 6 (I i0) (Tryz.isAgg3 _) ?_
   refine pu1 ?_
   refine sL l2 4 7 (I l0) (Tryz.isAgg3 _) ?_
   refine sMul i0 l0 ?_
   refine cX Tryz.call62 (tg_weights (RdT.flat (hR.up 6 (by rfl))) om (Sat.flat1 l2) (i0 * l0) om) ?_
   rintro _ _ ⟨u0, v0, w0, g6, m2, rfl, n2, c4, o2, _, h6⟩
   have i6 := Sat.unflat2 h6
   have hn_zs_220 := n2.len; have hl_zs_220 := n2.le
   refine pu1 ?_
   refine tW i6 5 8 (.slice u0 v0 w0) Tryz.sizeOf22 ?_
   intro _ j6
   refine nB ?_
   have k6 := ((j6.picks [6, 6, 2]).drops [4, 4, 4, 4])
   have l6 : Sat W _ ([(p, .cells #[.slice a n k, I o2] 85 (0, 0))] :: [(g0, .cells #[I (1 + c0), I a0, I (-1), .bool ((e0 : Int) == 3), I r0, I t0, I i0, I l0, .slice u0 v0 w0, .slice none 0 0, .slice none 0 0, I q0, I 0, .slice none 0 0, .slice none 0 0, I 0, .slice none 0 0, I d0] 38 (0, 0))] :: [(f0, .cells #[I 0, I 0, I 0, .bool false, I 0, I 0, I 0, I 0, .slice none 0 0, .slice none 0 0, .slice none 0 0, I 0, I 0, .slice none 0 0, .slice none 0 0, I 0, .slice none 0 0, I 0] 38 (0, 0))] :: (m2) :: (H :: F)) := Sat.perm (show Sat W _ ([(p, .cells #[.slice a n k, I o2] 85 (0, 0))] :: [(g0, .cells #[I (1 + c0), I a0, I (-1), .bool ((e0 : Int) == 3), I r0, I t0, I i0, I l0, .slice u0 v0 w0, .slice none 0 0, .slice none 0 0, I q0, I 0, .slice none 0 0, .slice none 0 0, I 0, .slice none 0 0, I d0] 38 (0, 0))] :: [(f0, .cells #[I 0, I 0, I 0, .bool false, I 0, I 0, I 0, I 0, .slice none 0 0, .slice none 0 0, .slice none 0 0, I 0, I 0, .slice none 0 0, .slice none 0 0, I 0, .slice none 0 0, I 0] 38 (0, 0))] :: m2 :: H :: F) from k6) (by simp [Value.cells])
   exact ⟨((⟨(1 + c0), a0, -1, ((e0 : Int) == 3), r0, t0, i0, l0, ⟨u0, v0, w0, g6⟩, ⟨none, 0, 0, []⟩, ⟨none, 0, 0, []⟩, q0, 0, ⟨none, 0, 0, []⟩, ⟨none, 0, 0, []⟩, 0, ⟨none, 0, 0, []⟩, d0⟩ : Stage), (m2), o2), alA, l6, om, ⟨n2.of_mem mS, RdT.nil (enc := encI) (sz := 1) fR _, RdT.nil (enc := encI) (sz := 1) fR _, RdT.nil (enc := encTap) (sz := 2) fR _, (fun z hz => by cases hz), RdT.nil (enc := encTap) (sz := 2) fR _, (fun z hz => by cases hz), RdT.nil (enc := encPOp) (sz := 2) fR _⟩, ⟨⟨nb, nb, nb, nb, nb, nb, nb, nb, nb, nb, nb⟩, ⟨by have h := c4.1; dsimp only; omega, c4.2⟩, ⟨by simp, fun z hz => by cases hz⟩, ⟨by simp, fun z hz => by cases hz⟩, ⟨by simp, fun z hz => by cases hz⟩, ⟨by simp, fun z hz => by cases hz⟩, ⟨by simp, fun z hz => by cases hz⟩⟩, ⟨rfl, by first | (left; rfl) | (right; exact ⟨rfl, om⟩)⟩⟩
  refine qO rfl ?_
  refine sBS w3 #[I 1, I 3, I 2, I 5] Tryz.runUnderlying22 Tryz.sizeOf3 Tryz.zeroValue3 ?_
  intro _ _ p2
  refine nilO ⟨⟨.inr (p2.cell 5 rfl rfl), trivial⟩, ?_⟩
  refine qF ?_ ?_
  ·refine qO rfl ?_
   have m6 := (p2.pick 1 rfl)
   refine cX Tryz.call38 (tape_pick (RdT.flat (hR.up 5 (by rfl))) om (Sat.flat1 m6) (RdT.flat (RdT.blk (enc := encI) (sz := 1) (xs := [1, 3, 2, 5]) (fun _ => (by rfl)) 4 0 rfl rfl rfl om)) om om) ?_
   rintro _ _ ⟨j0, rfl, n6, _, _, o6⟩
   have d4 := Sat.unflat1 o6
   have yc : (j0 : Int) = 1 ∨ (j0 : Int) = 3 ∨ (j0 : Int) = 2 ∨ (j0 : Int) = 5 := by simpa using n6
   refine nilO ⟨⟨.inr (d4.cell 5 rfl rfl), trivial⟩, ?_⟩
   refine qU [13] ?_
   refine qO rfl ?_
   refine sBS d4 #[I 1, I 3, I 2] Tryz.runUnderlying22 Tryz.sizeOf3 Tryz.zeroValue3 ?_
   intro _ _ e4
   refine nilO ⟨⟨.inr (e4.cell 6 rfl rfl), trivial⟩, ?_⟩
   refine qO rfl ?_
   have p6 := (e4.pick 1 rfl)
   refine cX Tryz.call38 (tape_pick (RdT.flat (hR.up 6 (by rfl))) om (Sat.flat1 p6) (RdT.flat (RdT.blk (enc := encI) (sz := 1) (xs := [1, 3, 2]) (fun _ => (by rfl)) 3 0 rfl rfl rfl om)) om om) ?_
   rintro _ _ ⟨m0, rfl, q6, _, _, r6⟩
   have f4 := Sat.unflat1 r6
   have ed : (m0 : Int) = 1 ∨ (m0 : Int) = 3 ∨ (m0 : Int) = 2 := by simpa using q6
   refine nilO ⟨⟨.inr (f4.cell 6 rfl rfl), trivial⟩, ?_⟩
   refine qO rfl ?_
   refine cX Tryz.call13 (tape_next (RdT.flat (hR.up 6 (by rfl))) om (Sat.flat1 f4) 4 om) ?_
   rintro _ _ ⟨x0, rfl, _, _, _, s6⟩
   have g4 := Sat.unflat1 s6
   refine nilO ⟨⟨.inr (g4.cell 6 rfl rfl), trivial⟩, ?_⟩
   refine qO rfl ?_
   refine cX Tryz.call61 (tg_edge (RdT.flat (hR.up 6 (by rfl))) om (Sat.flat1 g4) s0.max_ om) ?_
   rintro _ _ ⟨y0, z0, rfl, t6, _, _, u6⟩
   have v6 := Sat.unflat1 u6
   unfold numB at t6
   refine nilO ⟨dA, ?_⟩
   refine qO rfl ?_
   refine tW v6 4 6 (I j0) Tryz.sizeOf3 ?_
   intro _ w6
   refine nilO ⟨dA, ?_⟩
   refine qU [15] ?_
   refine qO rfl ?_
   refine tW w6 4 7 (I m0) Tryz.sizeOf3 ?_
   intro _ x6
   refine nilO ⟨dA, ?_⟩
   refine qU [17] ?_
   refine qO rfl ?_
   refine tW x6 4 17 (I d0) Tryz.sizeOf3 ?_
   intro _ y6
   refine nilO ⟨dA, ?_⟩
   refine qU [19] ?_
   refine qO rfl ?_
   refine tW y6 4 11 (I x0) Tryz.sizeOf3 ?_
   intro _ z6
   refine nilO ⟨dA, ?_⟩
   refine qU [21] ?_
   refine qO rfl ?_
   refine tW z6 4 4 (.agg #[I y0, I z0]) Tryz.sizeOf34 ?_
   intro _ q2
   refine nilO ⟨dA, ?_⟩
   refine qN ?_
   refine thenK_n ?_
   have hkk := mul_bd (a := j0) (b := m0) (A := 5) (B := 3) om om
   refine regionE <| pu2 ?_
   refine sL q2 4 6 (I j0) (Tryz.isAgg3 _) ?_
   refine pu1 ?_
   refine sL q2 4 7 (I m0) (Tryz.isAgg3 _) ?_
   refine sMul j0 m0 ?_
   refine cX Tryz.call62 (tg_weights (RdT.flat (hR.up 6 (by rfl))) om (Sat.flat1 q2) (j0 * m0) om) ?_
   rintro _ _ ⟨a1, b1, c1, a7, r2, rfl, s2, h4, t2, _, b7⟩
   have c7 := Sat.unflat2 b7
   have hn_zs_95 := s2.len; have hl_zs_95 := s2.le
   refine pu1 ?_
   refine tW c7 5 8 (.slice a1 b1 c1) Tryz.sizeOf22 ?_
   intro _ d7
   refine nB ?_
   have e7 := ((d7.picks [6, 6, 2]).drops [4, 4, 4, 4])
   have f7 : Sat W _ ([(p, .cells #[.slice a n k, I t2] 85 (0, 0))] :: [(g0, .cells #[I (1 + c0), I a0, I (-1), .bool ((e0 : Int) == 3), I y0, I z0, I j0, I m0, .slice a1 b1 c1, .slice none 0 0, .slice none 0 0, I x0, I 0, .slice none 0 0, .slice none 0 0, I 0, .slice none 0 0, I d0] 38 (0, 0))] :: [(f0, .cells #[I 0, I 0, I 0, .bool false, I 0, I 0, I 0, I 0, .slice none 0 0, .slice none 0 0, .slice none 0 0, I 0, I 0, .slice none 0 0, .slice none 0 0, I 0, .slice none 0 0, I 0] 38 (0, 0))] :: (r2) :: (H :: F)) := Sat.perm (show Sat W _ ([(p, .cells #[.slice a n k, I t2] 85 (0, 0))] :: [(g0, .cells #[I (1 + c0), I a0, I (-1), .bool ((e0 : Int) == 3), I y0, I z0, I j0, I m0, .slice a1 b1 c1, .slice none 0 0, .slice none 0 0, I x0, I 0, .slice none 0 0, .slice none 0 0, I 0, .slice none 0 0, I d0] 38 (0, 0))] :: [(f0, .cells #[I 0, I 0, I 0, .bool false, I 0, I 0, I 0, I 0, .slice none 0 0, .slice none 0 0, .slice none 0 0, I 0, I 0, .slice none 0 0, .slice none 0 0, I 0, .slice none 0 0, I 0] 38 (0, 0))] :: r2 :: H :: F) from e7) (by simp [Value.cells])
   exact ⟨((⟨(1 + c0), a0, -1, ((e0 : Int) == 3), y0, z0, j0, m0, ⟨a1, b1, c1, a7⟩, ⟨none, 0, 0, []⟩, ⟨none, 0, 0, []⟩, x0, 0, ⟨none, 0, 0, []⟩, ⟨none, 0, 0, []⟩, 0, ⟨none, 0, 0, []⟩, d0⟩ : Stage), (r2), t2), alA, f7, om, ⟨s2.of_mem mS, RdT.nil (enc := encI) (sz := 1) fR _, RdT.nil (enc := encI) (sz := 1) fR _, RdT.nil (enc := encTap) (sz := 2) fR _, (fun z hz => by cases hz), RdT.nil (enc := encTap) (sz := 2) fR _, (fun z hz => by cases hz), RdT.nil (enc := encPOp) (sz := 2) fR _⟩, ⟨⟨nb, nb, nb, nb, nb, nb, nb, nb, nb, nb, nb⟩, ⟨by have h := h4.1; dsimp only; omega, h4.2⟩, ⟨by simp, fun z hz => by cases hz⟩, ⟨by simp, fun z hz => by cases hz⟩, ⟨by simp, fun z hz => by cases hz⟩, ⟨by simp, fun z hz => by cases hz⟩, ⟨by simp, fun z hz => by cases hz⟩⟩, ⟨rfl, by first | (left; rfl) | (right; exact ⟨rfl, om⟩)⟩⟩
  refine qO rfl ?_
  refine sBS p2 #[I 1, I 3, I 2] Tryz.runUnderlying22 Tryz.sizeOf3 Tryz.zeroValue3 ?_
  intro _ _ i4
  refine nilO ⟨⟨.inr (i4.cell 6 rfl rfl), trivial⟩, ?_⟩
  refine qO rfl ?_
  have g7 := (i4.pick 2 rfl)
  refine cX Tryz.call38 (tape_pick (RdT.flat (hR.up 6 (by rfl))) om (Sat.flat1 g7) (RdT.flat (RdT.blk (enc := encI) (sz := 1) (xs := [1, 3, 2, 5]) (fun _ => (by rfl)) 4 1 rfl rfl rfl om)) om om) ?_
  rintro _ _ ⟨k0, rfl, h7, _, _, i7⟩
  have j4 := Sat.unflat1 i7
  have ae : (k0 : Int) = 1 ∨ (k0 : Int) = 3 ∨ (k0 : Int) = 2 ∨ (k0 : Int) = 5 := by simpa using h7
  refine nilO ⟨⟨.inr (j4.cell 6 rfl rfl), trivial⟩, ?_⟩
  refine qU [13] ?_
  refine qO rfl ?_
  refine cX Tryz.call38 (tape_pick (RdT.flat (hR.up 6 (by rfl))) om (Sat.flat1 j4) (RdT.flat (RdT.blk (enc := encI) (sz := 1) (xs := [1, 3, 2]) (fun _ => (by rfl)) 3 0 rfl rfl rfl om)) om om) ?_
  rintro _ _ ⟨n0, rfl, j7, _, _, k7⟩
  have k4 := Sat.unflat1 k7
  have ee : (n0 : Int) = 1 ∨ (n0 : Int) = 3 ∨ (n0 : Int) = 2 := by simpa using j7
  refine nilO ⟨⟨.inr (k4.cell 6 rfl rfl), trivial⟩, ?_⟩
  refine qO rfl ?_
  refine cX Tryz.call13 (tape_next (RdT.flat (hR.up 6 (by rfl))) om (Sat.flat1 k4) 4 om) ?_
  rintro _ _ ⟨d1, rfl, _, _, _, l7⟩
  have l4 := Sat.unflat1 l7
  refine nilO ⟨⟨.inr (l4.cell 6 rfl rfl), trivial⟩, ?_⟩
  refine qO rfl ?_
  refine cX Tryz.call61 (tg_edge (RdT.flat (hR.up 6 (by rfl))) om (Sat.flat1 l4) s0.max_ om) ?_
  rintro _ _ ⟨e1, f1, rfl, m7, _, _, n7⟩
  have o7 := Sat.unflat1 n7
  unfold numB at m7
  refine nilO ⟨dA, ?_⟩
  refine qO rfl ?_
  refine tW o7 4 6 (I k0) Tryz.sizeOf3 ?_
  intro _ p7
  refine nilO ⟨dA, ?_⟩
  refine qU [15] ?_
  refine qO rfl ?_
  refine tW p7 4 7 (I n0) Tryz.sizeOf3 ?_
  intro _ q7
  refine nilO ⟨dA, ?_⟩
  refine qU [17] ?_
  refine qO rfl ?_
  refine tW q7 4 17 (I d0) Tryz.sizeOf3 ?_
  intro _ r7
  refine nilO ⟨dA, ?_⟩
  refine qU [19] ?_
  refine qO rfl ?_
  refine tW r7 4 11 (I d1) Tryz.sizeOf3 ?_
  intro _ s7
  refine nilO ⟨dA, ?_⟩
  refine qU [21] ?_
  refine qO rfl ?_
  refine tW s7 4 4 (.agg #[I e1, I f1]) Tryz.sizeOf34 ?_
  intro _ u2
  refine nilO ⟨dA, ?_⟩
  refine qN ?_
  refine thenK_n ?_
  have hkk := mul_bd (a := k0) (b := n0) (A := 5) (B := 3) om om
  refine regionE <| pu2 ?_
  refine sL u2 4 6 (I k0) (Tryz.isAgg3 _) ?_
  refine pu1 ?_
  refine sL u2 4 7 (I n0) (Tryz.isAgg3 _) ?_
  refine sMul k0 n0 ?_
  refine cX Tryz.call62 (tg_weights (RdT.flat (hR.up 6 (by rfl))) om (Sat.flat1 u2) (k0 * n0) om) ?_
  rintro _ _ ⟨g1, h1, i1, t7, v2, rfl, w2, m4, x2, _, u7⟩
  have v7 := Sat.unflat2 u7
  have hn_zs_156 := w2.len; have hl_zs_156 := w2.le
  refine pu1 ?_
  refine tW v7 5 8 (.slice g1 h1 i1) Tryz.sizeOf22 ?_
  intro _ w7
  refine nB ?_
  have x7 := ((w7.picks [6, 6, 2]).drops [4, 4, 4, 4])
  have y7 : Sat W _ ([(p, .cells #[.slice a n k, I x2] 85 (0, 0))] :: [(g0, .cells #[I (1 + c0), I a0, I (-1), .bool ((e0 : Int) == 3), I e1, I f1, I k0, I n0, .slice g1 h1 i1, .slice none 0 0, .slice none 0 0, I d1, I 0, .slice none 0 0, .slice none 0 0, I 0, .slice none 0 0, I d0] 38 (0, 0))] :: [(f0, .cells #[I 0, I 0, I 0, .bool false, I 0, I 0, I 0, I 0, .slice none 0 0, .slice none 0 0, .slice none 0 0, I 0, I 0, .slice none 0 0, .slice none 0 0, I 0, .slice none 0 0, I 0] 38 (0, 0))] :: (v2) :: (H :: F)) := Sat.perm (show Sat W _ ([(p, .cells #[.slice a n k, I x2] 85 (0, 0))] :: [(g0, .cells #[I (1 + c0), I a0, I (-1), .bool ((e0 : Int) == 3), I e1, I f1, I k0, I n0, .slice g1 h1 i1, .slice none 0 0, .slice none 0 0, I d1, I 0, .slice none 0 0, .slice none 0 0, I 0, .slice none 0 0, I d0] 38 (0, 0))] :: [(f0, .cells #[I 0, I 0, I 0, .bool false, I 0, I 0, I 0, I 0, .slice none 0 0, .slice none 0 0, .slice none 0 0, I 0, I 0, .slice none 0 0, .slice none 0 0, I 0, .slice none 0 0, I 0] 38 (0, 0))] :: v2 :: H :: F) from x7) (by simp [Value.cells])
  exact ⟨((⟨(1 + c0), a0, -1, ((e0 : Int) == 3), e1, f1, k0, n0, ⟨g1, h1, i1, t7⟩, ⟨none, 0, 0, []⟩, ⟨none, 0, 0, []⟩, d1, 0, ⟨none, 0, 0, []⟩, ⟨none, 0, 0, []⟩, 0, ⟨none, 0, 0, []⟩, d0⟩ : Stage), (v2), x2), alA, y7, om, ⟨w2.of_mem mS, RdT.nil (enc := encI) (sz := 1) fR _, RdT.nil (enc := encI) (sz := 1) fR _, RdT.nil (enc := encTap) (sz := 2) fR _, (fun z hz => by cases hz), RdT.nil (enc := encTap) (sz := 2) fR _, (fun z hz => by cases hz), RdT.nil (enc := encPOp) (sz := 2) fR _⟩, ⟨⟨nb, nb, nb, nb, nb, nb, nb, nb, nb, nb, nb⟩, ⟨by have h := m4.1; dsimp only; omega, m4.2⟩, ⟨by simp, fun z hz => by cases hz⟩, ⟨by simp, fun z hz => by cases hz⟩, ⟨by simp, fun z hz => by cases hz⟩, ⟨by simp, fun z hz => by cases hz⟩, ⟨by simp, fun z hz => by cases hz⟩⟩, ⟨rfl, by first | (left; rfl) | (right; exact ⟨rfl, om⟩)⟩⟩
 refine sR <| pu2 <| nT ?_
 refine cE (1 + c0) 2 (fun z7 => ?_) (fun z7 => ?_)
 ·refine drawE [2, 4, 7, 9, 12, 14, 18, 20, 22, 24, 26, 28, 30] [(17, ⟨p0, 2, none⟩, I s0.max_)] [(true, [0, 1, 5, 6, 10, 11, 13, 15, 16]), (true, [17]), (false, [2]), (true, [3]), (false, [4]), (true, [19]), (false, [7]), (true, [8]), (false, [9]), (false, [12]), (false, [14]), (false, [18]), (false, [20]), (true, [21]), (false, [22]), (true, [23]), (false, [24]), (true, [25]), (false, [26]), (true, [27]), (false, [28]), (true, [29]), (false, [30])] rfl kr ⟨.inr (h0.cell 4 rfl rfl), trivial⟩ ?_
  have a8 := h0.drew
  refine wU [0, 1, 5, 6, 10, 11, 13, 15, 16] ?_
  refine wLd (I s0.max_) 0 Tryz.isAgg3 ?_
  refine wO rfl ?_
  refine cX Tryz.call13 (tape_next (RdT.flat (hR.up 4 (by rfl))) om (Sat.flat1 a8) 4 om) ?_
  rintro _ _ ⟨n4, rfl, _, _, _, b8⟩
  have o4 := Sat.unflat1 b8
  refine nilO ⟨⟨.inr (o4.cell 4 rfl rfl), trivial⟩, ?_⟩
  refine wAdd 1 n4 ?_
  refine wO rfl ?_
  refine cX Tryz.call62 (tg_weights (RdT.flat (hR.up 4 (by rfl))) om (Sat.flat1 o4) (1 + n4) om) ?_
  rintro _ _ ⟨j1, k1, l1, c8, y2, rfl, z2, p4, _, _, d8⟩
  have q4 := Sat.unflat2 d8
  have hn_zs_245 := z2.len; have hl_zs_245 := z2.le
  refine nilO ⟨⟨.inr (q4.cell 5 rfl rfl), trivial⟩, ?_⟩
  refine wU [19] ?_
  refine wO rfl ?_
  refine cX Tryz.call13 (tape_next (RdT.flat (hR.up 5 (by rfl))) om (Sat.flat1 q4) 4 om) ?_
  rintro _ _ ⟨r4, rfl, _, _, _, e8⟩
  have s4 := Sat.unflat1 e8
  refine nilO ⟨⟨.inr (s4.cell 5 rfl rfl), trivial⟩, ?_⟩
  refine wAdd 1 r4 ?_
  refine wO rfl ?_
  refine cX Tryz.call62 (tg_weights (RdT.flat (hR.up 5 (by rfl))) om (Sat.flat1 s4) (1 + r4) om) ?_
  rintro _ _ ⟨m1, n1, o1, f8, a3, rfl, b3, t4, _, _, g8⟩
  have u4 := Sat.unflat2 g8
  have hn_zs_264 := b3.len; have hl_zs_264 := b3.le
  refine nilO ⟨⟨.inr (u4.cell 6 rfl rfl), trivial⟩, ?_⟩
  refine wO rfl ?_
  refine cX Tryz.call13 (tape_next (RdT.flat (hR.up 6 (by rfl))) om (Sat.flat1 u4) 3 om) ?_
  rintro _ _ ⟨p1, rfl, _, _, _, h8⟩
  have v4 := Sat.unflat1 h8
  refine nilO ⟨⟨.inr (v4.cell 6 rfl rfl), trivial⟩, ?_⟩
  refine wO rfl ?_
  refine cX Tryz.call13 (tape_next (RdT.flat (hR.up 6 (by rfl))) om (Sat.flat1 v4) 4 om) ?_
  rintro _ _ ⟨q1, rfl, _, _, _, i8⟩
  have w4 := Sat.unflat1 i8
  refine nilO ⟨⟨.inr (w4.cell 6 rfl rfl), trivial⟩, ?_⟩
  refine wO rfl ?_
  refine cX Tryz.call61 (tg_edge (RdT.flat (hR.up 6 (by rfl))) om (Sat.flat1 w4) s0.max_ om) ?_
  rintro _ _ ⟨r1, s1, rfl, j8, c3, _, k8⟩
  have l8 := Sat.unflat1 k8
  unfold numB at j8
  refine nilO ⟨dA, ?_⟩
  refine wO rfl ?_
  refine tW l8 4 9 (.slice j1 k1 l1) Tryz.sizeOf22 ?_
  intro _ m8
  refine nilO ⟨dA, ?_⟩
  refine wU [21] ?_
  refine wO rfl ?_
  refine tW m8 4 10 (.slice m1 n1 o1) Tryz.sizeOf22 ?_
  intro _ n8
  refine nilO ⟨dA, ?_⟩
  refine wU [23] ?_
  refine wO rfl ?_
  refine tW n8 4 17 (I d0) Tryz.sizeOf3 ?_
  intro _ o8
  refine nilO ⟨dA, ?_⟩
  refine wU [25] ?_
  refine wO rfl ?_
  refine tW o8 4 11 (I p1) Tryz.sizeOf3 ?_
  intro _ p8
  refine nilO ⟨dA, ?_⟩
  refine wU [27] ?_
  refine wO rfl ?_
  refine tW p8 4 12 (I q1) Tryz.sizeOf3 ?_
  intro _ q8
  refine nilO ⟨dA, ?_⟩
  refine wU [29] ?_
  refine wO rfl ?_
  refine tW q8 4 4 (.agg #[I r1, I s1]) Tryz.sizeOf34 ?_
  intro _ r8
  refine nilO ⟨dA, ?_⟩
  refine wN ?_
  refine blockK_n <| thenK_n ?_
  have s8 := ((r8.picks [2, 5, 5, 3]).drops [5, 5])
  have t8 : Sat W _ ([(p, .cells #[.slice a n k, I c3] 85 (0, 0))] :: [(g0, .cells #[I (1 + c0), I a0, I (-1), .bool ((e0 : Int) == 3), I r1, I s1, I 0, I 0, .slice none 0 0, .slice j1 k1 l1, .slice m1 n1 o1, I p1, I q1, .slice none 0 0, .slice none 0 0, I 0, .slice none 0 0, I d0] 38 (0, 0))] :: [(f0, .cells #[I 0, I 0, I 0, .bool false, I 0, I 0, I 0, I 0, .slice none 0 0, .slice none 0 0, .slice none 0 0, I 0, I 0, .slice none 0 0, .slice none 0 0, I 0, .slice none 0 0, I 0] 38 (0, 0))] :: (y2 ++ a3) :: (H :: F)) := Sat.perm (show Sat W _ ([(p, .cells #[.slice a n k, I c3] 85 (0, 0))] :: [(g0, .cells #[I (1 + c0), I a0, I (-1), .bool ((e0 : Int) == 3), I r1, I s1, I 0, I 0, .slice none 0 0, .slice j1 k1 l1, .slice m1 n1 o1, I p1, I q1, .slice none 0 0, .slice none 0 0, I 0, .slice none 0 0, I d0] 38 (0, 0))] :: [(f0, .cells #[I 0, I 0, I 0, .bool false, I 0, I 0, I 0, I 0, .slice none 0 0, .slice none 0 0, .slice none 0 0, I 0, I 0, .slice none 0 0, .slice none 0 0, I 0, .slice none 0 0, I 0] 38 (0, 0))] :: y2 :: a3 :: H :: F) from s8) (by simp [Value.cells])
  exact ⟨((⟨(1 + c0), a0, -1, ((e0 : Int) == 3), r1, s1, 0, 0, ⟨none, 0, 0, []⟩, ⟨j1, k1, l1, c8⟩, ⟨m1, n1, o1, f8⟩, p1, q1, ⟨none, 0, 0, []⟩, ⟨none, 0, 0, []⟩, 0, ⟨none, 0, 0, []⟩, d0⟩ : Stage), (y2 ++ a3), c3), alA, t8, om, ⟨RdT.nil (enc := encI) (sz := 1) fR _, z2.of_mem mS, b3.of_mem mS, RdT.nil (enc := encTap) (sz := 2) fR _, (fun z hz => by cases hz), RdT.nil (enc := encTap) (sz := 2) fR _, (fun z hz => by cases hz), RdT.nil (enc := encPOp) (sz := 2) fR _⟩, ⟨⟨nb, nb, nb, nb, nb, nb, nb, nb, nb, nb, nb⟩, ⟨by simp, fun z hz => by cases hz⟩, ⟨by have h := p4.1; dsimp only; omega, p4.2⟩, ⟨by have h := t4.1; dsimp only; omega, t4.2⟩, ⟨by simp, fun z hz => by cases hz⟩, ⟨by simp, fun z hz => by cases hz⟩, ⟨by simp, fun z hz => by cases hz⟩⟩, ⟨rfl, by first | (left; rfl) | (right; exact ⟨rfl, om⟩)⟩⟩
 refine sR <| pu2 <| nT ?_
 refine cE (1 + c0) 3 (fun u8 => ?_) (fun u8 => ?_)
 ·refine drawE [3, 7, 12, 14, 16, 18, 20, 22, 24] [(2, ⟨p0, 0, none⟩, I s0.w), (6, ⟨p0, 1, none⟩, I s0.h), (11, ⟨p0, 2, none⟩, I s0.max_)] [(true, [0, 1, 4, 5, 8, 9, 10]), (true, [2]), (true, [6]), (true, [11]), (false, [3]), (true, [13]), (false, [7]), (false, [12]), (false, [14]), (true, [15]), (false, [16]), (true, [17]), (false, [18]), (true, [19]), (false, [20]), (true, [21]), (false, [22]), (true, [23]), (false, [24])] rfl kr ⟨.inr (h0.cell 4 rfl rfl), .inr (h0.cell 4 rfl rfl), .inr (h0.cell 4 rfl rfl), trivial⟩ ?_
  have v8 := h0.drew
  refine wU [0, 1, 4, 5, 8, 9, 10] ?_
  refine wLd (I s0.w) 0 Tryz.isAgg3 ?_
  refine wLd (I s0.h) 1 Tryz.isAgg3 ?_
  refine wLd (I s0.max_) 2 Tryz.isAgg3 ?_
  refine wO rfl ?_
  refine cX Tryz.call63 (tg_table (RdT.flat (hR.up 4 (by rfl))) om (Sat.flat1 v8) s0.w om) ?_
  rintro _ _ ⟨t1, u1, v1, w8, d3, rfl, e3, x8, x4, _, _, y8⟩
  have f3 := Sat.unflat2 y8
  have hn_zs_314 := e3.len; have hl_zs_314 := e3.le
  refine nilO ⟨⟨dI, .inr (f3.cell 5 rfl rfl), .inr (f3.cell 5 rfl rfl), trivial⟩, ?_⟩
  refine wU [13] ?_
  refine wO rfl ?_
  refine cX Tryz.call63 (tg_table (RdT.flat (hR.up 5 (by rfl))) om (Sat.flat1 f3) s0.h om) ?_
  rintro _ _ ⟨w1, x1, y1, z8, g3, rfl, h3, a9, y4, _, _, b9⟩
  have z4 := Sat.unflat2 b9
  have hn_zs_327 := h3.len; have hl_zs_327 := h3.le
  refine nilO ⟨⟨dI, dI, .inr (z4.cell 6 rfl rfl), trivial⟩, ?_⟩
  refine wO rfl ?_
  refine cX Tryz.call61 (tg_edge (RdT.flat (hR.up 6 (by rfl))) om (Sat.flat1 z4) s0.max_ om) ?_
  rintro _ _ ⟨z1, a2, rfl, c9, i3, _, d9⟩
  have e9 := Sat.unflat1 d9
  unfold numB at c9
  refine nilO ⟨dA, ?_⟩
  refine wO rfl ?_
  refine tW e9 4 13 (.slice t1 u1 v1) Tryz.sizeOf35 ?_
  intro _ f9
  refine nilO ⟨dA, ?_⟩
  refine wU [15] ?_
  refine wO rfl ?_
  refine tW f9 4 14 (.slice w1 x1 y1) Tryz.sizeOf35 ?_
  intro _ g9
  refine nilO ⟨dA, ?_⟩
  refine wU [17] ?_
  refine wO rfl ?_
  refine tW g9 4 17 (I d0) Tryz.sizeOf3 ?_
  intro _ h9
  refine nilO ⟨dA, ?_⟩
  refine wU [19] ?_
  refine wO rfl ?_
  refine tW h9 4 11 (I 8) Tryz.sizeOf3 ?_
  intro _ i9
  refine nilO ⟨dA, ?_⟩
  refine wU [21] ?_
  refine wO rfl ?_
  refine tW i9 4 12 (I 8) Tryz.sizeOf3 ?_
  intro _ j9
  refine nilO ⟨dA, ?_⟩
  refine wU [23] ?_
  refine wO rfl ?_
  refine tW j9 4 4 (.agg #[I z1, I a2]) Tryz.sizeOf34 ?_
  intro _ k9
  refine nilO ⟨dA, ?_⟩
  refine wN ?_
  refine blockK_n <| thenK_n ?_
  have l9 := ((k9.picks [2, 5, 5, 3]).drops [5, 5])
  have m9 : Sat W _ ([(p, .cells #[.slice a n k, I i3] 85 (0, 0))] :: [(g0, .cells #[I (1 + c0), I a0, I (-1), .bool ((e0 : Int) == 3), I z1, I a2, I 0, I 0, .slice none 0 0, .slice none 0 0, .slice none 0 0, I 8, I 8, .slice t1 u1 v1, .slice w1 x1 y1, I 0, .slice none 0 0, I d0] 38 (0, 0))] :: [(f0, .cells #[I 0, I 0, I 0, .bool false, I 0, I 0, I 0, I 0, .slice none 0 0, .slice none 0 0, .slice none 0 0, I 0, I 0, .slice none 0 0, .slice none 0 0, I 0, .slice none 0 0, I 0] 38 (0, 0))] :: (d3 ++ g3) :: (H :: F)) := Sat.perm (show Sat W _ ([(p, .cells #[.slice a n k, I i3] 85 (0, 0))] :: [(g0, .cells #[I (1 + c0), I a0, I (-1), .bool ((e0 : Int) == 3), I z1, I a2, I 0, I 0, .slice none 0 0, .slice none 0 0, .slice none 0 0, I 8, I 8, .slice t1 u1 v1, .slice w1 x1 y1, I 0, .slice none 0 0, I d0] 38 (0, 0))] :: [(f0, .cells #[I 0, I 0, I 0, .bool false, I 0, I 0, I 0, I 0, .slice none 0 0, .slice none 0 0, .slice none 0 0, I 0, I 0, .slice none 0 0, .slice none 0 0, I 0, .slice none 0 0, I 0] 38 (0, 0))] :: d3 :: g3 :: H :: F) from l9) (by simp [Value.cells])
  exact ⟨((⟨(1 + c0), a0, -1, ((e0 : Int) == 3), z1, a2, 0, 0, ⟨none, 0, 0, []⟩, ⟨none, 0, 0, []⟩, ⟨none, 0, 0, []⟩, 8, 8, ⟨t1, u1, v1, w8⟩, ⟨w1, x1, y1, z8⟩, 0, ⟨none, 0, 0, []⟩, d0⟩ : Stage), (d3 ++ g3), i3), alA, m9, om, ⟨RdT.nil (enc := encI) (sz := 1) fR _, RdT.nil (enc := encI) (sz := 1) fR _, RdT.nil (enc := encI) (sz := 1) fR _, e3.of_mem mS, (fun z hz => (x8 z hz).of_mem mS), h3.of_mem mS, (fun z hz => (a9 z hz).of_mem mS), RdT.nil (enc := encPOp) (sz := 2) fR _⟩, ⟨⟨nb, nb, nb, nb, nb, nb, nb, nb, nb, nb, nb⟩, ⟨by simp, fun z hz => by cases hz⟩, ⟨by simp, fun z hz => by cases hz⟩, ⟨by simp, fun z hz => by cases hz⟩, ⟨by have h := x4.1; dsimp only; omega, x4.2⟩, ⟨by have h := y4.1; dsimp only; omega, y4.2⟩, ⟨by simp, fun z hz => by cases hz⟩⟩, ⟨rfl, by first | (left; rfl) | (right; exact ⟨rfl, om⟩)⟩⟩
 refine sR <| pu2 <| nT ?_
 refine cE (1 + c0) 4 (fun n9 => ?_) (fun n9 => ?_)
 ·refine regionE <| pu1 ?_
  refine sBS h0 #[I 4, I 1, I 7] Tryz.runUnderlying22 Tryz.sizeOf3 Tryz.zeroValue3 ?_
  intro _ _ o9
  have p9 := (o9.pick 1 rfl)
  refine cX Tryz.call38 (tape_pick (RdT.flat (hR.up 5 (by rfl))) om (Sat.flat1 p9) (RdT.flat (RdT.blk (enc := encI) (sz := 1) (xs := [4, 1, 7]) (fun _ => (by rfl)) 3 0 rfl rfl rfl om)) om om) ?_
  rintro _ _ ⟨o0, rfl, q9, j3, _, r9⟩
  have s9 := Sat.unflat1 r9
  have ug : (o0 : Int) = 4 ∨ (o0 : Int) = 1 ∨ (o0 : Int) = 7 := by simpa using q9
  refine pu1 ?_
  refine tW s9 3 15 (I o0) Tryz.sizeOf3 ?_
  intro _ t9
  refine nB ?_
  have u9 := (t9.drops [1, 1, 3])
  have v9 : Sat W _ ([(p, .cells #[.slice a n k, I j3] 85 (0, 0))] :: [(g0, .cells #[I (1 + c0), I a0, I (-1), .bool ((e0 : Int) == 3), I 0, I 0, I 0, I 0, .slice none 0 0, .slice none 0 0, .slice none 0 0, I 0, I 0, .slice none 0 0, .slice none 0 0, I o0, .slice none 0 0, I 0] 38 (0, 0))] :: [(f0, .cells #[I 0, I 0, I 0, .bool false, I 0, I 0, I 0, I 0, .slice none 0 0, .slice none 0 0, .slice none 0 0, I 0, I 0, .slice none 0 0, .slice none 0 0, I 0, .slice none 0 0, I 0] 38 (0, 0))] :: [] :: (H :: F)) := Sat.perm (show Sat W _ ([(p, .cells #[.slice a n k, I j3] 85 (0, 0))] :: [(g0, .cells #[I (1 + c0), I a0, I (-1), .bool ((e0 : Int) == 3), I 0, I 0, I 0, I 0, .slice none 0 0, .slice none 0 0, .slice none 0 0, I 0, I 0, .slice none 0 0, .slice none 0 0, I o0, .slice none 0 0, I 0] 38 (0, 0))] :: [(f0, .cells #[I 0, I 0, I 0, .bool false, I 0, I 0, I 0, I 0, .slice none 0 0, .slice none 0 0, .slice none 0 0, I 0, I 0, .slice none 0 0, .slice none 0 0, I 0, .slice none 0 0, I 0] 38 (0, 0))] :: H :: F) from u9) (by simp [Value.cells])
  exact ⟨((⟨(1 + c0), a0, -1, ((e0 : Int) == 3), 0, 0, 0, 0, ⟨none, 0, 0, []⟩, ⟨none, 0, 0, []⟩, ⟨none, 0, 0, []⟩, 0, 0, ⟨none, 0, 0, []⟩, ⟨none, 0, 0, []⟩, o0, ⟨none, 0, 0, []⟩, 0⟩ : Stage), [], j3), alA, v9, om, ⟨RdT.nil (enc := encI) (sz := 1) fR _, RdT.nil (enc := encI) (sz := 1) fR _, RdT.nil (enc := encI) (sz := 1) fR _, RdT.nil (enc := encTap) (sz := 2) fR _, (fun z hz => by cases hz), RdT.nil (enc := encTap) (sz := 2) fR _, (fun z hz => by cases hz), RdT.nil (enc := encPOp) (sz := 2) fR _⟩, ⟨⟨nb, nb, nb, nb, nb, nb, nb, nb, nb, nb, nb⟩, ⟨by simp, fun z hz => by cases hz⟩, ⟨by simp, fun z hz => by cases hz⟩, ⟨by simp, fun z hz => by cases hz⟩, ⟨by simp, fun z hz => by cases hz⟩, ⟨by simp, fun z hz => by cases hz⟩, ⟨by simp, fun z hz => by cases hz⟩⟩, ⟨rfl, by first | (left; rfl) | (right; exact ⟨rfl, om⟩)⟩⟩
 refine sR <| pu2 <| nT ?_
 refine cE (1 + c0) 6 (fun w9 => ?_) (fun w9 => ?_)
 rotate_left
 ·refine skipE <| blockK_n <| thenK_n ?_
  have x9 := (h0.drops [1, 3])
  have y9 : Sat W _ ([(p, .cells #[.slice a n k, I k2] 85 (0, 0))] :: [(g0, .cells #[I (1 + c0), I a0, I (-1), .bool ((e0 : Int) == 3), I 0, I 0, I 0, I 0, .slice none 0 0, .slice none 0 0, .slice none 0 0, I 0, I 0, .slice none 0 0, .slice none 0 0, I 0, .slice none 0 0, I 0] 38 (0, 0))] :: [(f0, .cells #[I 0, I 0, I 0, .bool false, I 0, I 0, I 0, I 0, .slice none 0 0, .slice none 0 0, .slice none 0 0, I 0, I 0, .slice none 0 0, .slice none 0 0, I 0, .slice none 0 0, I 0] 38 (0, 0))] :: [] :: (H :: F)) := Sat.perm (show Sat W _ ([(p, .cells #[.slice a n k, I k2] 85 (0, 0))] :: [(g0, .cells #[I (1 + c0), I a0, I (-1), .bool ((e0 : Int) == 3), I 0, I 0, I 0, I 0, .slice none 0 0, .slice none 0 0, .slice none 0 0, I 0, I 0, .slice none 0 0, .slice none 0 0, I 0, .slice none 0 0, I 0] 38 (0, 0))] :: [(f0, .cells #[I 0, I 0, I 0, .bool false, I 0, I 0, I 0, I 0, .slice none 0 0, .slice none 0 0, .slice none 0 0, I 0, I 0, .slice none 0 0, .slice none 0 0, I 0, .slice none 0 0, I 0] 38 (0, 0))] :: H :: F) from x9) (by simp [Value.cells])
  exact ⟨((⟨(1 + c0), a0, -1, ((e0 : Int) == 3), 0, 0, 0, 0, ⟨none, 0, 0, []⟩, ⟨none, 0, 0, []⟩, ⟨none, 0, 0, []⟩, 0, 0, ⟨none, 0, 0, []⟩, ⟨none, 0, 0, []⟩, 0, ⟨none, 0, 0, []⟩, 0⟩ : Stage), [], k2), alA, y9, om, ⟨RdT.nil (enc := encI) (sz := 1) fR _, RdT.nil (enc := encI) (sz := 1) fR _, RdT.nil (enc := encI) (sz := 1) fR _, RdT.nil (enc := encTap) (sz := 2) fR _, (fun z hz => by cases hz), RdT.nil (enc := encTap) (sz := 2) fR _, (fun z hz => by cases hz), RdT.nil (enc := encPOp) (sz := 2) fR _⟩, ⟨⟨nb, nb, nb, nb, nb, nb, nb, nb, nb, nb, nb⟩, ⟨by simp, fun z hz => by cases hz⟩, ⟨by simp, fun z hz => by cases hz⟩, ⟨by simp, fun z hz => by cases hz⟩, ⟨by simp, fun z hz => by cases hz⟩, ⟨by simp, fun z hz => by cases hz⟩, ⟨by simp, fun z hz => by cases hz⟩⟩, ⟨rfl, by first | (left; rfl) | (right; exact ⟨rfl, om⟩)⟩⟩
 refine seqE <| sR <| pu3 ?_
 refine sD 110 (b0 ≥ 0) (fun z9 => ?_) (fun z9 => ?_)
 rotate_left
 ·refine pu4 <| nT <| cFf <| kT <| regionE <| pu2 ?_
  refine sL h0 2 2 (I (-1)) (Tryz.isAgg3 _) ?_
  refine pu1 ?_
  refine cX Tryz.call64 (tg_ops (RdT.flat (hR.up 4 (by rfl))) om (Sat.flat1 h0) false) ?_
  rintro _ _ ⟨b2, c2, d2, aa, k3, rfl, l3, a5, m3, _, ba⟩
  have ca := Sat.unflat2 ba
  have hn_zs_427 := l3.len; have hl_zs_427 := l3.le
  refine pu2 ?_
  refine tW ca 3 16 (.slice b2 c2 d2) Tryz.sizeOf36 ?_
  intro _ da
  refine pu1 ?_
  refine tW da 3 17 (I d0) Tryz.sizeOf3 ?_
  intro _ ea
  refine nB ?_
  have fa := ((ea.picks [4, 4, 2]).drops [4, 4])
  have ga : Sat W _ ([(p, .cells #[.slice a n k, I m3] 85 (0, 0))] :: [(g0, .cells #[I (1 + c0), I a0, I (-1), .bool ((e0 : Int) == 3), I 0, I 0, I 0, I 0, .slice none 0 0, .slice none 0 0, .slice none 0 0, I 0, I 0, .slice none 0 0, .slice none 0 0, I 0, .slice b2 c2 d2, I d0] 38 (0, 0))] :: [(f0, .cells #[I 0, I 0, I 0, .bool false, I 0, I 0, I 0, I 0, .slice none 0 0, .slice none 0 0, .slice none 0 0, I 0, I 0, .slice none 0 0, .slice none 0 0, I 0, .slice none 0 0, I 0] 38 (0, 0))] :: (k3) :: (H :: F)) := Sat.perm (show Sat W _ ([(p, .cells #[.slice a n k, I m3] 85 (0, 0))] :: [(g0, .cells #[I (1 + c0), I a0, I (-1), .bool ((e0 : Int) == 3), I 0, I 0, I 0, I 0, .slice none 0 0, .slice none 0 0, .slice none 0 0, I 0, I 0, .slice none 0 0, .slice none 0 0, I 0, .slice b2 c2 d2, I d0] 38 (0, 0))] :: [(f0, .cells #[I 0, I 0, I 0, .bool false, I 0, I 0, I 0, I 0, .slice none 0 0, .slice none 0 0, .slice none 0 0, I 0, I 0, .slice none 0 0, .slice none 0 0, I 0, .slice none 0 0, I 0] 38 (0, 0))] :: k3 :: H :: F) from fa) (by simp [Value.cells])
  exact ⟨((⟨(1 + c0), a0, -1, ((e0 : Int) == 3), 0, 0, 0, 0, ⟨none, 0, 0, []⟩, ⟨none, 0, 0, []⟩, ⟨none, 0, 0, []⟩, 0, 0, ⟨none, 0, 0, []⟩, ⟨none, 0, 0, []⟩, 0, ⟨b2, c2, d2, aa⟩, d0⟩ : Stage), (k3), m3), alA, ga, om, ⟨RdT.nil (enc := encI) (sz := 1) fR _, RdT.nil (enc := encI) (sz := 1) fR _, RdT.nil (enc := encI) (sz := 1) fR _, RdT.nil (enc := encTap) (sz := 2) fR _, (fun z hz => by cases hz), RdT.nil (enc := encTap) (sz := 2) fR _, (fun z hz => by cases hz), l3.of_mem mS⟩, ⟨⟨nb, nb, nb, nb, nb, nb, nb, nb, nb, nb, nb⟩, ⟨by simp, fun z hz => by cases hz⟩, ⟨by simp, fun z hz => by cases hz⟩, ⟨by simp, fun z hz => by cases hz⟩, ⟨by simp, fun z hz => by cases hz⟩, ⟨by simp, fun z hz => by cases hz⟩, ⟨by have h := a5.1; dsimp only; omega, a5.2⟩⟩, ⟨rfl, by first | (left; rfl) | (right; exact ⟨rfl, om⟩)⟩⟩
 refine pu1 <| gY ?_
 refine cX Tryz.call13 (tape_next (RdT.flat (hR.up 4 (by rfl))) om (Sat.flat1 h0) 2 om) ?_
 rintro _ _ ⟨ha, rfl, _, _, _, ia⟩
 have n3 := Sat.unflat1 ia
 refine pu2 <| nT ?_
 refine cE ha 0 (fun ja => ?_) (fun ja => ?_)
 rotate_left
 ·refine kT <| regionE <| pu2 ?_
  refine sL n3 2 2 (I (-1)) (Tryz.isAgg3 _) ?_
  refine pu1 ?_
  refine cX Tryz.call64 (tg_ops (RdT.flat (hR.up 4 (by rfl))) om (Sat.flat1 n3) false) ?_
  rintro _ _ ⟨e2, f2, g2, ka, o3, rfl, p3, b5, q3, _, la⟩
  have ma := Sat.unflat2 la
  have hn_zs_409 := p3.len; have hl_zs_409 := p3.le
  refine pu2 ?_
  refine tW ma 3 16 (.slice e2 f2 g2) Tryz.sizeOf36 ?_
  intro _ na
  refine pu1 ?_
  refine tW na 3 17 (I d0) Tryz.sizeOf3 ?_
  intro _ oa
  refine nB ?_
  have pa := ((oa.picks [4, 4, 2]).drops [4, 4])
  have qa : Sat W _ ([(p, .cells #[.slice a n k, I q3] 85 (0, 0))] :: [(g0, .cells #[I (1 + c0), I a0, I (-1), .bool ((e0 : Int) == 3), I 0, I 0, I 0, I 0, .slice none 0 0, .slice none 0 0, .slice none 0 0, I 0, I 0, .slice none 0 0, .slice none 0 0, I 0, .slice e2 f2 g2, I d0] 38 (0, 0))] :: [(f0, .cells #[I 0, I 0, I 0, .bool false, I 0, I 0, I 0, I 0, .slice none 0 0, .slice none 0 0, .slice none 0 0, I 0, I 0, .slice none 0 0, .slice none 0 0, I 0, .slice none 0 0, I 0] 38 (0, 0))] :: (o3) :: (H :: F)) := Sat.perm (show Sat W _ ([(p, .cells #[.slice a n k, I q3] 85 (0, 0))] :: [(g0, .cells #[I (1 + c0), I a0, I (-1), .bool ((e0 : Int) == 3), I 0, I 0, I 0, I 0, .slice none 0 0, .slice none 0 0, .slice none 0 0, I 0, I 0, .slice none 0 0, .slice none 0 0, I 0, .slice e2 f2 g2, I d0] 38 (0, 0))] :: [(f0, .cells #[I 0, I 0, I 0, .bool false, I 0, I 0, I 0, I 0, .slice none 0 0, .slice none 0 0, .slice none 0 0, I 0, I 0, .slice none 0 0, .slice none 0 0, I 0, .slice none 0 0, I 0] 38 (0, 0))] :: o3 :: H :: F) from pa) (by simp [Value.cells])
  exact ⟨((⟨(1 + c0), a0, -1, ((e0 : Int) == 3), 0, 0, 0, 0, ⟨none, 0, 0, []⟩, ⟨none, 0, 0, []⟩, ⟨none, 0, 0, []⟩, 0, 0, ⟨none, 0, 0, []⟩, ⟨none, 0, 0, []⟩, 0, ⟨e2, f2, g2, ka⟩, d0⟩ : Stage), (o3), q3), alA, qa, om, ⟨RdT.nil (enc := encI) (sz := 1) fR _, RdT.nil (enc := encI) (sz := 1) fR _, RdT.nil (enc := encI) (sz := 1) fR _, RdT.nil (enc := encTap) (sz := 2) fR _, (fun z hz => by cases hz), RdT.nil (enc := encTap) (sz := 2) fR _, (fun z hz => by cases hz), p3.of_mem mS⟩, ⟨⟨nb, nb, nb, nb, nb, nb, nb, nb, nb, nb, nb⟩, ⟨by simp, fun z hz => by cases hz⟩, ⟨by simp, fun z hz => by cases hz⟩, ⟨by simp, fun z hz => by cases hz⟩, ⟨by simp, fun z hz => by cases hz⟩, ⟨by simp, fun z hz => by cases hz⟩, ⟨by have h := b5.1; dsimp only; omega, b5.2⟩⟩, ⟨rfl, by first | (left; rfl) | (right; exact ⟨rfl, om⟩)⟩⟩
 refine regionE <| pu2 ?_
 refine tW n3 2 2 (I b0) Tryz.sizeOf3 ?_
 intro _ c5
 refine nT <| regionE <| pu2 ?_
 refine sL c5 2 2 (I b0) (Tryz.isAgg3 _) ?_
 refine pu1 ?_
 refine cX Tryz.call64 (tg_ops (RdT.flat (hR.up 4 (by rfl))) om (Sat.flat1 c5) (decide ((b0 : Int) ≥ 0))) ?_
 rintro _ _ ⟨h2, i2, j2, ra, r3, rfl, s3, d5, t3, _, sa⟩
 have ta := Sat.unflat2 sa
 have hn_zs_391 := s3.len; have hl_zs_391 := s3.le
 refine pu2 ?_
 refine tW ta 3 16 (.slice h2 i2 j2) Tryz.sizeOf36 ?_
 intro _ ua
 refine pu1 ?_
 refine tW ua 3 17 (I d0) Tryz.sizeOf3 ?_
 intro _ va
 refine nB ?_
 have wa := ((va.picks [4, 4, 2]).drops [4, 4])
 have xa : Sat W _ ([(p, .cells #[.slice a n k, I t3] 85 (0, 0))] :: [(g0, .cells #[I (1 + c0), I a0, I b0, .bool ((e0 : Int) == 3), I 0, I 0, I 0, I 0, .slice none 0 0, .slice none 0 0, .slice none 0 0, I 0, I 0, .slice none 0 0, .slice none 0 0, I 0, .slice h2 i2 j2, I d0] 38 (0, 0))] :: [(f0, .cells #[I 0, I 0, I 0, .bool false, I 0, I 0, I 0, I 0, .slice none 0 0, .slice none 0 0, .slice none 0 0, I 0, I 0, .slice none 0 0, .slice none 0 0, I 0, .slice none 0 0, I 0] 38 (0, 0))] :: (r3) :: (H :: F)) := Sat.perm (show Sat W _ ([(p, .cells #[.slice a n k, I t3] 85 (0, 0))] :: [(g0, .cells #[I (1 + c0), I a0, I b0, .bool ((e0 : Int) == 3), I 0, I 0, I 0, I 0, .slice none 0 0, .slice none 0 0, .slice none 0 0, I 0, I 0, .slice none 0 0, .slice none 0 0, I 0, .slice h2 i2 j2, I d0] 38 (0, 0))] :: [(f0, .cells #[I 0, I 0, I 0, .bool false, I 0, I 0, I 0, I 0, .slice none 0 0, .slice none 0 0, .slice none 0 0, I 0, I 0, .slice none 0 0, .slice none 0 0, I 0, .slice none 0 0, I 0] 38 (0, 0))] :: r3 :: H :: F) from wa) (by simp [Value.cells])
 exact ⟨((⟨(1 + c0), a0, b0, ((e0 : Int) == 3), 0, 0, 0, 0, ⟨none, 0, 0, []⟩, ⟨none, 0, 0, []⟩, ⟨none, 0, 0, []⟩, 0, 0, ⟨none, 0, 0, []⟩, ⟨none, 0, 0, []⟩, 0, ⟨h2, i2, j2, ra⟩, d0⟩ : Stage), (r3), t3), alA, xa, om, ⟨RdT.nil (enc := encI) (sz := 1) fR _, RdT.nil (enc := encI) (sz := 1) fR _, RdT.nil (enc := encI) (sz := 1) fR _, RdT.nil (enc := encTap) (sz := 2) fR _, (fun z hz => by cases hz), RdT.nil (enc := encTap) (sz := 2) fR _, (fun z hz => by cases hz), s3.of_mem mS⟩, ⟨⟨nb, nb, nb, nb, nb, nb, nb, nb, nb, nb, nb⟩, ⟨by simp, fun z hz => by cases hz⟩, ⟨by simp, fun z hz => by cases hz⟩, ⟨by simp, fun z hz => by cases hz⟩, ⟨by simp, fun z hz => by cases hz⟩, ⟨by simp, fun z hz => by cases hz⟩, ⟨by have h := d5.1; dsimp only; omega, d5.2⟩⟩, ⟨rfl, by first | (left; rfl) | (right; exact ⟨rfl, om⟩)⟩⟩
end Go.Proofs.YtdingplbadblpaaGreat
