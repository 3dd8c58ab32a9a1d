import Derived.Test.YtegmennaekipaaaGreatP2Ld
namespace Go.Proofs.YtegmennaekipaaaGreat
open Go Go.E
set_option linter.unusedVariables false
set_option linter.unusedSimpArgs false
set_option linter.unnecessarySimpa false
set_option maxRecDepth 100000
set_option maxHeartbeats 2000000
variable {W w : World} {H : Chunk} {F : List Chunk}
set_option maxHeartbeats 6000000
-- squeezed
theorem l29_ends (W w : World) (H : Chunk) (F : List Chunk) (t : Option Addr) (nt kt : Nat) (xt : List Int) (who : Int) (ht : RdT encI 1 [H] t nt kt xt) (_hwho : -9223372036854775808 ≤ who ∧ who ≤ 9223372036854775807) (hS : Sat W w (H :: F)) :
  Calls Tryz.prog 6 #[.slice t nt kt, I who] w fun e w' => e = .returned (.bool true) ∧ Sat W w' (H :: F) := by
 have hlt := ht.le
 refine callsA 68 Tryz.func6 rfl ?_
 refine sR <| pu1 <| nT <| sR <| pu1 ?_
 refine cX Tryz.call8 (tape_new t nt kt hS) ?_
 rintro _ _ ⟨g0, rfl, s0⟩
 have g3 := ht.le
 refine pu1 <| nT <| sR <| pu1 ?_
 refine cX Tryz.call33 (l29_pair (RdT.flat (ht.up 0 (by rfl))) om (Sat.flat1 s0) 40 om) ?_
 rintro _ _ ⟨h0, _, b0, F1_10, M1_11, N1_12, rfl, t0, u0, v0, _, d0, w0, hR3_19, x0, _, y0⟩
 have z0 := Sat.unflat3 y0
 refine pu4 ?_
 refine sAlloc z0 Tryz.zeroValue26 ?_
 intro i0 _ a1
 refine pu2 ?_
 refine sT a1 0 0 (.agg (encCfg b0).toArray) (encCfg b0) (encCfg b0).toArray Tryz.sizeOf26 ?_
 intro _ l0
 refine nilO ?_
 have hvc0 := validCfg_zero t0; have hpc := u0; have hFI := d0.j.i; have hpw := d0.ws; have hpn := trivial
 refine thenK_n <| seqE <| sR <| pu2 <| nT <| cFf <| kT <| sR <| pu2 ?_
 refine sL l0 0 0 (I b0.workers) (Tryz.isAgg3 _) ?_
 refine cX Tryz.call38 (mod_ok who b0.workers om om l0) ?_
 rintro _ _ ⟨a0, rfl, _, b1⟩
 refine pu1 <| nT <| sR <| pu2 ?_
 have c1 := (b1.pick 2 rfl)
 refine cX Tryz.call21 (pf_restart v0 d0.j.i a0  (Sat.flat1 c1)) ?_
 rintro _ _ ⟨_, _, _, _, d1, rfl, m0, n0, e1⟩
 have f1 := Sat.unflat2 e1; have hn_az_36 := m0.len; have hl_az_36 := m0.le
 have g1 := FJ.restart (x := a0) d0.j om
 have h1 := f1.dropAt 0 rfl
 have i1 := LI.restart (x := a0) w0 d0.j.i
 have hR3_46 := R3.restart (x := a0) hR3_19
 have j0 := PJ.restart a0 d0 om
 refine nilO ?_
 have hlv := live_restart (F := F1_10) (x := a0) om; have hu6 := left_u3 j0 hR3_46 hpc.1; have hn6 := left_nn j0.j.i
 refine thenK_n <| seqE <| sR <| pu1 ?_
 refine cX Tryz.call34 (bo_left n0 g1 om h1) ?_
 rintro _ _ ⟨rfl, j1⟩
 refine pu1 <| nT <| blockE ?_
 have k1 := ((j1.picks [1, 2]).dropAt 3 rfl)
 refine loopA (γ := Int × Int × FS × Chunk) (fun ⟨nn, it3, F3, M3⟩ => [(5, Pt g0 0), (6, Pt h0 0), (8, Pt i0 0), (9, I a0), (10, I nn)]) (fun ⟨nn, it3, F3, M3⟩ w => Sat W w ([(g0, .cells #[.slice t nt kt, I it3] 73 (0, 0))] :: [(i0, .cells (encCfg b0).toArray 26 (0, 0))] :: M3 :: H :: F) ∧ (0 ≤ nn ∧ nn ≤ 664) ∧ (0 ≤ it3 ∧ it3 ≤ nt) ∧ FarmP h0 F3 M3 ∧ PJ b0 F3 (42 + 3 * (664 - nn)) 3 ∧ LI F3 ∧ EI F3 a0 nn) (fun ⟨nn, it3, F3, M3⟩ => nn.toNat) ((leftF (restartF F1_10 a0).1), x0, (restartF F1_10 a0).1, d1) ⟨k1, om, om, n0, (j0.mono om om), i1, ⟨hlv, .inr (Int.le_refl _)⟩⟩ ?_
 rintro ⟨nn, it3, F3, M3⟩ ρ _ ⟨o0, hi3, hit3, hFR3, hPJ3, hLI3, hEI3⟩
 have hws3 := hPJ3.ws; have hFI3 := hPJ3.j.i
 refine seqE <| sR <| pu2 <| nT ?_
 refine cD (nn > 0) (fun l1 => ?_) (fun l1 => ?_)
 rotate_left
 ·refine exitE <| xB <| thenK_n <| seqE ?_
  have hrl : (runK F3.jobs).length = 0 := by rw [show runK F3.jobs = [] from hEI3.d.elim id fun h => left_zero (x := a0) hFI3 hLI3 om om hEI3.l om]; rfl
  refine regionE <| pu1 ?_
  have m1 := (o0.pick 2 rfl)
  refine cX Tryz.call37 (pf_jobs hFR3 hPJ3.j.i  (hPJ3.j.r12 om) (Sat.flat1 m1)) ?_
  rintro _ _ ⟨_, n1, _, _, rfl, p0, o1⟩
  have p1 := Sat.unflat2 o1; have hn_az_124 := p0.len; have hl_az_124 := p0.le
  refine pu3 ?_
  refine sE 65 ((n1 : Nat) : Int) 0 (fun q1 => ?_) (fun q1 => ?_)
  rotate_left
  ·refine pu3 <| nT <| retE <| retT [.bool false] ?_
   first | omega
  refine gY ?_
  refine cX Tryz.call36 (l29_sane p1) ?_
  rintro _ _ ⟨rfl, r1⟩
  refine pu2 <| nT <| retE <| retT [.bool true] ?_
  have s1 := (r1.pick 4 rfl)
  have t1 := s1.dropAt 1 rfl
  have u1 := t1.dropAt 1 rfl
  have v1 := u1.dropAt 1 rfl
  have w1 := v1.dropAt 1 rfl
  exact ⟨rfl, w1⟩
 refine kT <| seqE <| blockE <| seqE <| sR <| pu1 ?_
 refine cX Tryz.call10 (tape_next (RdT.flat (ht.up 2 (by rfl))) om (Sat.flat1 o0) 3 om) ?_
 rintro _ _ ⟨x1, rfl, _, y1, _, z1⟩
 have a2 := Sat.unflat1 z1
 refine pu1 <| nT <| blockE ?_
 refine loopA (γ := Int × Int × FS × Chunk) (fun ⟨jj, it4, F4, M4⟩ => [(5, Pt g0 0), (6, Pt h0 0), (8, Pt i0 0), (9, I a0), (10, I nn), (11, I jj)]) (fun ⟨jj, it4, F4, M4⟩ w => Sat W w ([(g0, .cells #[.slice t nt kt, I it4] 73 (0, 0))] :: [(i0, .cells (encCfg b0).toArray 26 (0, 0))] :: M4 :: H :: F) ∧ (0 ≤ jj ∧ jj ≤ 2) ∧ (0 ≤ it4 ∧ it4 ≤ nt) ∧ FarmP h0 F4 M4 ∧ PJ b0 F4 (42 + 3 * (664 - nn) + (2 - jj)) 3 ∧ LI F4 ∧ EI F4 a0 nn) (fun ⟨jj, it4, F4, M4⟩ => jj.toNat) (x1, y1, F3, M3) ⟨a2, om, om, hFR3, (hPJ3.mono om om), hLI3, hEI3⟩ ?_
 rintro ⟨jj, it4, F4, M4⟩ ρ _ ⟨k0, hi4, hit4, hFR4, hPJ4, hLI4, hEI4⟩
 have hws4 := hPJ4.ws; have hFI4 := hPJ4.j.i
 refine seqE <| sR <| pu2 <| nT ?_
 refine cD (jj > 0) (fun b2 => ?_) (fun b2 => ?_)
 ·refine kT <| seqE <| blockE <| regionE <| pu3 ?_
  refine sL k0 1 0 (I b0.workers) (Tryz.isAgg3 _) ?_
  refine cX Tryz.call10 (tape_next (RdT.flat (ht.up 2 (by rfl))) om (Sat.flat1 k0) b0.workers om) ?_
  rintro _ _ ⟨e0, rfl, _, _, _, c2⟩
  have d2 := Sat.unflat1 c2
  refine pu1 ?_
  refine cX Tryz.call10 (tape_next (RdT.flat (ht.up 2 (by rfl))) om (Sat.flat1 d2) 9 om) ?_
  rintro _ _ ⟨f0, rfl, _, e2, _, f2⟩
  have g2 := Sat.unflat1 f2
  have h2 := (g2.pick 2 rfl)
  refine cX Tryz.call25 (pf_step hFR4 hPJ4.j.i e0 f0 hPJ4.j.t om (Sat.flat1 h2)) ?_
  rintro _ _ ⟨_, _, _, _, i2, rfl, q0, j2, k2⟩
  have l2 := Sat.unflat2 k2; have hn_az_82 := q0.len; have hl_az_82 := q0.le
  have r4 := FJ.step (x := e0) (c := f0) hPJ4.j om
  have m2 := l2.dropAt 0 rfl
  have n2 := hEI4.other (x := e0) (c := f0) hFI4 hLI4 om om
  have o2 := LI.step (x := e0) (c := f0) hLI4 hPJ4.j.i
  have p2 := PJ.step e0 f0 hPJ4 om
  refine nB <| regionE <| pu1 ?_
  refine sSub jj 1 ?_
  refine pu1 <| nT ?_
  have q2 := (m2.picks [2, 2])
  exact ⟨((jj - 1), e2, (stepF F4 e0 f0).1, i2), od, alA, q2, om, om, j2, (p2.mono om om), o2, n2⟩
 refine exitE <| xB <| thenK_n <| sR <| pu3 ?_
 refine cX Tryz.call10 (tape_next (RdT.flat (ht.up 2 (by rfl))) om (Sat.flat1 k0) 9 om) ?_
 rintro _ _ ⟨c0, rfl, _, r2, _, s2⟩
 have t2 := Sat.unflat1 s2
 have u2 := (t2.pick 2 rfl)
 refine cX Tryz.call25 (pf_step hFR4 hPJ4.j.i a0 c0 hPJ4.j.t om (Sat.flat1 u2)) ?_
 rintro _ _ ⟨_, _, _, _, v2, rfl, r0, w2, x2⟩
 have y2 := Sat.unflat2 x2; have hn_az_106 := r0.len; have hl_az_106 := r0.le
 have a5 := FJ.step (x := a0) (c := c0) hPJ4.j om
 have z2 := y2.dropAt 0 rfl
 have hEI_115x := hEI4.own (c := c0) hFI4 hLI4 om om; have a3 := hEI_115x.1; have hEI_115y := hEI_115x.2
 have b3 := LI.step (x := a0) (c := c0) hLI4 hPJ4.j.i
 have c3 := PJ.step a0 c0 hPJ4 om
 refine pu5 <| nT <| sR <| pu2 <| nT ?_
 refine cN ((stepF F4 a0 c0).2.2) 0 (fun d3 => ?_) (fun d3 => ?_)
 rotate_left
 ·refine sR <| pu1 <| nT <| retE <| blockK_r <| thenK_r <| tR <| thenK_r <| retT [.bool false] ?_
  first | omega
 refine skipE <| blockK_n <| thenK_n <| regionE <| pu1 ?_
 refine sSub nn 1 ?_
 refine pu1 <| nT ?_
 have e3 := (z2.picks [2, 2])
 exact ⟨((nn - 1), r2, (stepF F4 a0 c0).1, v2), od, alA, e3, om, om, w2, (c3.mono om om), b3, a3⟩
end Go.Proofs.YtegmennaekipaaaGreat
