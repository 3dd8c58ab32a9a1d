import Derived.Test.YtegmennaekipaaaGreatP2Ld
namespace Go.Proofs.YtegmennaekipaaaGreat
open Go Go.E
set_option linter.unusedVariables false
set_option linter.unusedSimpArgs false
set_option linter.unnecessarySimpa false
set_option maxRecDepth 100000
set_option maxHeartbeats 2000000
variable {W w : World} {H : Chunk} {F : List Chunk}
-- squeezed
theorem restart_live {F : FS} {x : Int} (hx : 0 ≤ x ∧ x < ((F.ws.length : Nat) : Int)) : (wAt (restartF F x).1 x).phase ≠ 4 := by
  unfold restartF
  rw [if_neg (fun k => k hx)]
  split
  · show ((F.ws.set x.toNat _).getD x.toNat default).phase ≠ 4
    rw [List.getD_eq_getElem?_getD, List.getElem?_set, if_pos rfl, if_pos (by omega)]; show (0 : Int) ≠ 4; decide
  · rename_i h; exact h
theorem totR_bd : ∀ l : List Int, 0 ≤ totR l ∧ totR l ≤ 131 * ((l.length : Nat) : Int)
  | [] => by decide
  | r :: l => by
    have h1 := totR_bd l
    have h2 := stpR_bd r
    have e : totR (r :: l) = stpR r + totR l := by unfold totR; rw [List.map_cons, List.sum_cons]
    rw [e, List.length_cons]; omega
theorem PJ.fresh5 {c : Cfg} {F : FS} {K : Int} (h : PJ c F K 3) (_ : True) : ∃ j, F.jobs[(5 : Int).toNat]? = some j ∧ j.added = false := by
  obtain ⟨m, hm⟩ := h.s1 5 (by decide) (by decide)
  unfold shapeF at hm; rw [List.getElem?_map] at hm
  show ∃ j, F.jobs[5]? = some j ∧ _
  cases hj : F.jobs[5]? with
  | none => rw [hj] at hm; cases hm
  | some j => rw [hj] at hm; exact ⟨j, rfl, (Prod.mk.inj (Option.some.inj hm)).1⟩
set_option maxHeartbeats 6000000
theorem l29_raises (W w : World) (H : Chunk) (F : List Chunk) (t : Option Addr) (nt kt : Nat) (xt : List Int) (ht : RdT encI 1 [H] t nt kt xt) (hS : Sat W w (H :: F)) :
  Calls Tryz.prog 7 #[.slice t nt kt] w fun e w' => e = .returned (.bool true) ∧ Sat W w' (H :: F) := by
 have hlt := ht.le
 refine callsA 124 Tryz.func7 rfl ?_
 refine sR <| pu1 <| nT <| sR <| pu1 ?_
 refine cX Tryz.call8 (tape_new t nt kt hS) ?_
 rintro _ _ ⟨_, rfl, d3⟩
 have v8 := ht.le
 refine pu1 <| nT <| sR <| pu1 ?_
 refine cX Tryz.call33 (l29_pair (RdT.flat (ht.up 0 (by rfl))) om (Sat.flat1 d3) 30 om) ?_
 rintro _ _ ⟨_, _, i0, F1_10, M1_11, N1_12, rfl, e3, f3, g3, _, k0, h3, hR3_19, _, _, i3⟩
 have j3 := Sat.unflat3 i3
 refine pu4 ?_
 refine sAlloc j3 Tryz.zeroValue26 ?_
 intro _ _ k3
 refine pu2 ?_
 refine sT k3 0 0 (.agg (encCfg i0).toArray) (encCfg i0) (encCfg i0).toArray Tryz.sizeOf26 ?_
 intro _ f1
 refine nilO ?_
 have hvc0 := validCfg_zero e3; have hpc := f3; have hFI := k0.j.i; have hpw := k0.ws; have hpn := trivial
 have hc4 := hpc.2.1; have hc5 := hpc.2.2
 refine thenK_n <| seqE <| sR <| pu2 <| nT <| cFf <| kT <| sR <| pu2 ?_
 refine sL f1 0 0 (I i0.workers) (Tryz.isAgg3 _) ?_
 have l3 := (f1.pick 1 rfl)
 refine cX Tryz.call10 (tape_next (RdT.flat (ht.up 3 (by rfl))) om (Sat.flat1 l3) i0.workers om) ?_
 rintro _ _ ⟨a0, rfl, _, _, _, m3⟩
 have n3 := Sat.unflat1 m3
 refine pu1 <| nT <| sR <| pu2 ?_
 have o3 := (n3.pick 2 rfl)
 refine cX Tryz.call21 (pf_restart g3 k0.j.i a0  (Sat.flat1 o3)) ?_
 rintro _ _ ⟨_, _, _, _, _, rfl, g1, l0, p3⟩
 have q3 := Sat.unflat2 p3; have hn_az_40 := g1.len; have hl_az_40 := g1.le
 have f0 := FJ.restart (x := a0) k0.j om
 have r3 := q3.dropAt 0 rfl
 have a1 := LI.restart (x := a0) h3 k0.j.i
 have hR3_50 := R3.restart (x := a0) hR3_19
 have h0 := PJ.restart a0 k0 om
 refine nilO ?_
 have hws6 := h0.ws; have hFI6 := h0.j.i; have hlv6 := restart_live (F := F1_10) (x := a0) om; have hn6 := left_nn hFI6; have hu6 := left_ub hFI6
 refine thenK_n <| sR <| pu1 ?_
 refine cX Tryz.call34 (bo_left l0 f0 om r3) ?_
 rintro _ _ ⟨rfl, s3⟩
 refine pu1 <| nT <| sR <| pu1 ?_
 refine cX Tryz.call39 (pf_workers l0 f0.i   (Sat.flat1 s3)) ?_
 rintro _ _ ⟨_, t3, _, _, rfl, m0, u3⟩
 have b1 := Sat.unflat2 u3; have hn_az_57 := m0.len; have hl_az_57 := m0.le
 refine pu1 <| nT <| seqE <| sR <| pu3 ?_
 refine sL b1 3 0 (I i0.workers) (Tryz.isAgg3 _) ?_
 refine pu1 <| nT ?_
 refine cN ((t3 : Nat) : Int) i0.workers (fun v3 => ?_) (fun v3 => ?_)
 rotate_left
 ·refine sR <| pu1 <| nT <| retE <| thenK_r <| retT [.bool false] ?_
  first | omega
 refine kT <| sR <| pu3 ?_
 refine sIdxO m0 a0 (a0).toNat Tryz.runUnderlying66 Tryz.sizeOf69 ?_
 intro b0 _ _ n0 w3 _
 have hwv := show wAt (restartF F1_10 a0).1 a0 = b0 from getD_some n0; have hWF6 := wk_ok hFI6 n0; have hj6 := wk_job hFI6 n0
 refine pu2 ?_
 refine sLp b1 (w3.up 0 rfl) 1 (I b0.heldJob) (Tryz.isAgg3 _) ?_
 have x3 := (b1.pick 1 rfl)
 refine cX Tryz.call30 (pf_tasks l0 f0.i b0.heldJob (Sat.flat1 x3)) ?_
 rintro _ _ ⟨_, y3, _, z3, _, _, rfl, c1, a4, d1, b4⟩
 have j0 := Sat.unflat3 b4; have hn_az_73 := c1.len; have hl_az_73 := c1.le
 refine pu1 <| nilO ?_
 have htl_ : z3.length = (tasksF (restartF F1_10 a0).1 b0.heldJob).length := (by rw [← d1, List.length_map]); have hW1 : 0 ≤ b0.heldTask := (by by_cases h : b0.phase = 0 ∨ b0.phase = 4; have := hWF6.z h; omega; exact (hWF6.h h).2.1)
 refine thenK_n <| sR <| pu1 <| nT <| seqE <| sR <| pu2 ?_
 refine sIdxO m0 a0 (a0).toNat Tryz.runUnderlying66 Tryz.sizeOf69 ?_
 intro c4 _ _ d4 e4 _
 obtain rfl : b0 = c4 := Option.some.inj (n0.symm.trans d4)
 refine pu1 ?_
 refine sLp j0 (e4.up 3 rfl) 0 (I b0.phase) (Tryz.isAgg3 _) ?_
 refine pu1 <| nT <| sR <| pu3 ?_
 refine sN 59 b0.phase 0 (fun f4 => ?_) (fun f4 => ?_)
 ·refine pu10 <| nT <| cFf <| kT <| seqE <| sR <| pu2 ?_
  have g4 := (j0.pick 2 rfl)
  refine cX Tryz.call19 (pf_crash l0 f0.i a0  (Sat.flat1 g4)) ?_
  rintro _ _ ⟨_, _, _, _, _, rfl, h1, r0, h4⟩
  have i4 := Sat.unflat2 h4; have hn_az_93 := h1.len; have hl_az_93 := h1.le
  have o0 := FJ.crash (x := a0) f0 om
  have j4 := i4.dropAt 0 rfl
  have la := LI.crash (x := a0) a1 h0.j.i
  have hR3_103 := R3.crash (x := a0) hR3_50
  have s0 := PJ.crash a0 h0 om
  refine pu5 <| nilO ?_
  have hFI16 := s0.j.i; have hn16 := left_nn hFI16; have hu16 := left_ub hFI16; have hcr := left_crash (x := a0) hFI6 om om hlv6; rw [hwv] at hcr
  rw [if_neg om] at hcr
  refine thenK_n <| sR <| pu3 ?_
  refine sN 88 ((crashF (restartF F1_10 a0).1 a0).2.2) 0 (fun k4 => ?_) (fun k4 => ?_)
  rotate_left
  ·refine pu14 <| nT <| cTt <| sR <| pu1 <| nT <| retE <| thenK_r <| retT [.bool false] ?_
   first | omega
  refine pu1 <| gY ?_
  refine cX Tryz.call34 (bo_left r0 o0 om j4) ?_
  rintro _ _ ⟨rfl, l4⟩
  refine pu2 <| gY ?_
  refine sAdd (leftF (restartF F1_10 a0).1) 0 ?_
  refine pu3 ?_
  refine sD 96 ((leftF (crashF (restartF F1_10 a0).1 a0).1) > ((leftF (restartF F1_10 a0).1) + 0)) (fun m4 => ?_) (fun m4 => ?_)
  ·refine pu6 <| nT <| cTt <| sR <| pu1 <| nT <| retE <| thenK_r <| retT [.bool false] ?_
   first | omega
  refine pu1 <| gY ?_
  refine cX Tryz.call34 (bo_left r0 o0 om l4) ?_
  rintro _ _ ⟨rfl, n4⟩
  refine pu1 <| gY ?_
  refine sSub (leftF (restartF F1_10 a0).1) 1 ?_
  refine pu2 <| nT ?_
  refine cD ((leftF (crashF (restartF F1_10 a0).1 a0).1) < ((leftF (restartF F1_10 a0).1) - 1)) (fun o4 => ?_) (fun o4 => ?_)
  ·refine sR <| pu1 <| nT <| retE <| thenK_r <| retT [.bool false] ?_
   first | omega
  refine kT <| sR <| pu1 ?_
  refine cX Tryz.call34 (bo_left r0 o0 om n4) ?_
  rintro _ _ ⟨rfl, p4⟩
  refine pu1 ?_
  have q4 := (p4.pick 4 rfl)
  refine cX Tryz.call15 (tg_tasks (RdT.flat (ht.up 6 (by rfl))) om (Sat.flat1 q4) 5 om) ?_
  rintro _ _ ⟨i1, j1, k1, c0, _, _, rfl, t0, l1, r4, s4, _, _, _, t4⟩
  have u4 := Sat.unflat3 t4
  have hn_zs_120 := t0.len; have hl_zs_120 := t0.le
  refine pu2 <| nT <| sR <| pu2 ?_
  have v4 := (u4.pick 3 rfl)
  obtain ⟨m1, n1, o1⟩ : ∃ j, (crashF (restartF F1_10 a0).1 a0).1.jobs[(5 : Int).toNat]? = some j ∧ j.added = false := s0.fresh5 trivial
  have w4 : validC c0 = 0 := validC_ok om om r4.2.2
  have hld := s0.load; have hcf := s0.cf
  have p1 : 0 ≤ (5 : Int) ∧ (5 : Int) < 64 := by decide
  have q1 : 0 ≤ (0 : Int) ∧ (0 : Int) < 4 := by decide
  have r1 : validC c0 = 0 := w4
  have s1 : ∀ z ∈ c0, z.scratch ≤ (crashF (restartF F1_10 a0).1 a0).1.cfg.arena := (fun z hz => by rw [hcf, hc4]; have := s4 z hz; omega)
  have x4 : 0 ≤ (crashF (restartF F1_10 a0).1 a0).1.cfg.tasks ∧ (crashF (restartF F1_10 a0).1 a0).1.cfg.tasks ≤ 4096 := by rw [hcf, hc5]; omega
  have t1 : ((c0.length : Nat) : Int) ≤ (crashF (restartF F1_10 a0).1 a0).1.cfg.tasks - loadL (crashF (restartF F1_10 a0).1 a0).1.jobs := by rw [hcf, hc5]; omega
  have y4 : c0.length ≤ 12 := by omega
  have u1 : (crashF (restartF F1_10 a0).1 a0).1.jobs[((5 : Int)).toNat]? = some m1 := n1
  have v1 : JS.added m1 = false := o1
  refine cX Tryz.call17 (pf_add r0 o0.i 5 i1 j1 k1 c0 0 (RdT.flat (t0.rdAt 1 (by rfl))) (fun z hz => (l1 z hz).of_mem (mem_flat1 2 (by rfl))) p1 u1 v1 q1 r1 s1 x4 t1  (Sat.flat1 v4)) ?_
  rintro _ _ ⟨_, rfl, z4, a5⟩
  have b5 := Sat.unflat1 a5
  have w1 := o0.add p1 u1 v1 q1 r1 s1 t1 y4
  have hla := left_add hFI16 (by decide) n1 o1 w1.i.fw; have htb := totR_bd (c0.map (·.rows)); rw [List.length_map] at htb
  refine pu1 <| nT <| sR <| pu4 <| gY ?_
  refine cX Tryz.call34 (bo_left z4 w1 om b5) ?_
  rintro _ _ ⟨rfl, c5⟩
  refine pu2 <| gY ?_
  refine cR Tryz.call41 (bo_total i1 j1 k1 c0 (RdT.flat (t0.rdAt 2 (by rfl))) (fun z hz => (l1 z hz).of_mem (mem_flat1 3 (by rfl))) (od) (Sat.flat c5)) ?_
  intro _ d5
  refine gY ?_
  refine sAdd (leftF (crashF (restartF F1_10 a0).1 a0).1) (totR (c0.map (·.rows))) ?_
  refine pu3 ?_
  refine sE 121 (leftF (addF (crashF (restartF F1_10 a0).1 a0).1 5 c0 0)) ((leftF (crashF (restartF F1_10 a0).1 a0).1) + (totR (c0.map (·.rows)))) (fun e5 => ?_) (fun e5 => ?_)
  rotate_left
  ·refine pu3 <| nT <| retE <| retT [.bool false] ?_
   first | omega
  refine gY ?_
  refine cX Tryz.call36 (l29_sane d5) ?_
  rintro _ _ ⟨rfl, f5⟩
  refine pu2 <| nT <| retE <| retT [.bool true] ?_
  have g5 := (f5.pick 9 rfl)
  have h5 := g5.dropAt 1 rfl
  have i5 := h5.dropAt 1 rfl
  have j5 := i5.dropAt 1 rfl
  have k5 := j5.dropAt 1 rfl
  have l5 := k5.dropAt 1 rfl
  have m5 := l5.dropAt 1 rfl
  have n5 := m5.dropAt 1 rfl
  have o5 := n5.dropAt 1 rfl
  have p5 := o5.dropAt 1 rfl
  exact ⟨rfl, p5⟩
 refine pu2 <| gY ?_
 refine sIdxO m0 a0 (a0).toNat Tryz.runUnderlying66 Tryz.sizeOf69 ?_
 intro q5 _ _ r5 s5 _
 obtain rfl : b0 = q5 := Option.some.inj (n0.symm.trans r5)
 refine pu2 <| gY ?_
 refine sLp j0 (s5.up 3 rfl) 2 (I b0.heldTask) (Tryz.isAgg3 _) ?_
 refine pu4 <| nT ?_
 refine cD (b0.heldTask < ((y3 : Nat) : Int)) (fun t5 => ?_) (fun t5 => ?_)
 rotate_left
 ·refine kT <| seqE <| sR <| pu2 ?_
  have u5 := (j0.pick 2 rfl)
  refine cX Tryz.call19 (pf_crash l0 f0.i a0  (Sat.flat1 u5)) ?_
  rintro _ _ ⟨_, _, _, _, _, rfl, x1, u0, v5⟩
  have w5 := Sat.unflat2 v5; have hn_az_276 := x1.len; have hl_az_276 := x1.le
  have p0 := FJ.crash (x := a0) f0 om
  have x5 := w5.dropAt 0 rfl
  have jb := LI.crash (x := a0) a1 h0.j.i
  have hR3_286 := R3.crash (x := a0) hR3_50
  have v0 := PJ.crash a0 h0 om
  refine pu5 <| nilO ?_
  have hFI16 := v0.j.i; have hn16 := left_nn hFI16; have hu16 := left_ub hFI16; have hcr := left_crash (x := a0) hFI6 om om hlv6; rw [hwv] at hcr
  rw [if_neg om] at hcr
  refine thenK_n <| sR <| pu3 ?_
  refine sN 88 ((crashF (restartF F1_10 a0).1 a0).2.2) 0 (fun y5 => ?_) (fun y5 => ?_)
  rotate_left
  ·refine pu14 <| nT <| cTt <| sR <| pu1 <| nT <| retE <| thenK_r <| retT [.bool false] ?_
   first | omega
  refine pu1 <| gY ?_
  refine cX Tryz.call34 (bo_left u0 p0 om x5) ?_
  rintro _ _ ⟨rfl, z5⟩
  refine pu2 <| gY ?_
  refine sAdd (leftF (restartF F1_10 a0).1) 0 ?_
  refine pu3 ?_
  refine sD 96 ((leftF (crashF (restartF F1_10 a0).1 a0).1) > ((leftF (restartF F1_10 a0).1) + 0)) (fun a6 => ?_) (fun a6 => ?_)
  ·refine pu6 <| nT <| cTt <| sR <| pu1 <| nT <| retE <| thenK_r <| retT [.bool false] ?_
   first | omega
  refine pu1 <| gY ?_
  refine cX Tryz.call34 (bo_left u0 p0 om z5) ?_
  rintro _ _ ⟨rfl, b6⟩
  refine pu1 <| gY ?_
  refine sSub (leftF (restartF F1_10 a0).1) 1 ?_
  refine pu2 <| nT ?_
  refine cD ((leftF (crashF (restartF F1_10 a0).1 a0).1) < ((leftF (restartF F1_10 a0).1) - 1)) (fun c6 => ?_) (fun c6 => ?_)
  ·refine sR <| pu1 <| nT <| retE <| thenK_r <| retT [.bool false] ?_
   first | omega
  refine kT <| sR <| pu1 ?_
  refine cX Tryz.call34 (bo_left u0 p0 om b6) ?_
  rintro _ _ ⟨rfl, d6⟩
  refine pu1 ?_
  have e6 := (d6.pick 4 rfl)
  refine cX Tryz.call15 (tg_tasks (RdT.flat (ht.up 6 (by rfl))) om (Sat.flat1 e6) 5 om) ?_
  rintro _ _ ⟨y1, z1, a2, d0, _, _, rfl, w0, b2, f6, g6, _, _, _, h6⟩
  have i6 := Sat.unflat3 h6
  have hn_zs_303 := w0.len; have hl_zs_303 := w0.le
  refine pu2 <| nT <| sR <| pu2 ?_
  have j6 := (i6.pick 3 rfl)
  obtain ⟨c2, d2, e2⟩ : ∃ j, (crashF (restartF F1_10 a0).1 a0).1.jobs[(5 : Int).toNat]? = some j ∧ j.added = false := v0.fresh5 trivial
  have k6 : validC d0 = 0 := validC_ok om om f6.2.2
  have hld := v0.load; have hcf := v0.cf
  have f2 : 0 ≤ (5 : Int) ∧ (5 : Int) < 64 := by decide
  have g2 : 0 ≤ (0 : Int) ∧ (0 : Int) < 4 := by decide
  have h2 : validC d0 = 0 := k6
  have i2 : ∀ z ∈ d0, z.scratch ≤ (crashF (restartF F1_10 a0).1 a0).1.cfg.arena := (fun z hz => by rw [hcf, hc4]; have := g6 z hz; omega)
  have l6 : 0 ≤ (crashF (restartF F1_10 a0).1 a0).1.cfg.tasks ∧ (crashF (restartF F1_10 a0).1 a0).1.cfg.tasks ≤ 4096 := by rw [hcf, hc5]; omega
  have j2 : ((d0.length : Nat) : Int) ≤ (crashF (restartF F1_10 a0).1 a0).1.cfg.tasks - loadL (crashF (restartF F1_10 a0).1 a0).1.jobs := by rw [hcf, hc5]; omega
  have m6 : d0.length ≤ 12 := by omega
  have k2 : (crashF (restartF F1_10 a0).1 a0).1.jobs[((5 : Int)).toNat]? = some c2 := d2
  have l2 : JS.added c2 = false := e2
  refine cX Tryz.call17 (pf_add u0 p0.i 5 y1 z1 a2 d0 0 (RdT.flat (w0.rdAt 1 (by rfl))) (fun z hz => (b2 z hz).of_mem (mem_flat1 2 (by rfl))) f2 k2 l2 g2 h2 i2 l6 j2  (Sat.flat1 j6)) ?_
  rintro _ _ ⟨_, rfl, n6, o6⟩
  have p6 := Sat.unflat1 o6
  have m2 := p0.add f2 k2 l2 g2 h2 i2 j2 m6
  have hla := left_add hFI16 (by decide) d2 e2 m2.i.fw; have htb := totR_bd (d0.map (·.rows)); rw [List.length_map] at htb
  refine pu1 <| nT <| sR <| pu4 <| gY ?_
  refine cX Tryz.call34 (bo_left n6 m2 om p6) ?_
  rintro _ _ ⟨rfl, q6⟩
  refine pu2 <| gY ?_
  refine cR Tryz.call41 (bo_total y1 z1 a2 d0 (RdT.flat (w0.rdAt 2 (by rfl))) (fun z hz => (b2 z hz).of_mem (mem_flat1 3 (by rfl))) (od) (Sat.flat q6)) ?_
  intro _ r6
  refine gY ?_
  refine sAdd (leftF (crashF (restartF F1_10 a0).1 a0).1) (totR (d0.map (·.rows))) ?_
  refine pu3 ?_
  refine sE 121 (leftF (addF (crashF (restartF F1_10 a0).1 a0).1 5 d0 0)) ((leftF (crashF (restartF F1_10 a0).1 a0).1) + (totR (d0.map (·.rows)))) (fun s6 => ?_) (fun s6 => ?_)
  rotate_left
  ·refine pu3 <| nT <| retE <| retT [.bool false] ?_
   first | omega
  refine gY ?_
  refine cX Tryz.call36 (l29_sane r6) ?_
  rintro _ _ ⟨rfl, t6⟩
  refine pu2 <| nT <| retE <| retT [.bool true] ?_
  have u6 := (t6.pick 9 rfl)
  have v6 := u6.dropAt 1 rfl
  have w6 := v6.dropAt 1 rfl
  have x6 := w6.dropAt 1 rfl
  have y6 := x6.dropAt 1 rfl
  have z6 := y6.dropAt 1 rfl
  have a7 := z6.dropAt 1 rfl
  have b7 := a7.dropAt 1 rfl
  have c7 := b7.dropAt 1 rfl
  have d7 := c7.dropAt 1 rfl
  exact ⟨rfl, d7⟩
 refine regionE <| pu3 ?_
 refine sIdxO m0 a0 (a0).toNat Tryz.runUnderlying66 Tryz.sizeOf69 ?_
 intro e7 _ _ f7 g7 _
 obtain rfl : b0 = e7 := Option.some.inj (n0.symm.trans f7)
 refine pu2 ?_
 refine sLp j0 (g7.up 3 rfl) 2 (I b0.heldTask) (Tryz.isAgg3 _) ?_
 refine sIdxO c1 b0.heldTask (b0.heldTask).toNat Tryz.runUnderlying39 Tryz.sizeOf45 ?_
 intro g0 _ _ e1 h7 _
 have htr_x_182 := task_rows hFI6 d1 e1
 refine sLpA j0 (h7.up 0 rfl) 0 (encTask g0) (Tryz.isAgg45 _) (Tryz.sizeOf45 _) ?_
 refine cR Tryz.call40 (r29_steps g0 ⟨(RdT.flat ((a4 g0 (List.mem_of_getElem? e1)).deps.up 1 (by rfl)))⟩ (Sat.flat j0)) ?_
 intro _ i7
 have fc : 0 ≤ (stpR g0.rows) ∧ (stpR g0.rows) ≤ 131 := stpR_bd _
 refine pu1 <| nT <| seqE <| sR <| pu2 ?_
 have j7 := (i7.pick 2 rfl)
 refine cX Tryz.call19 (pf_crash l0 f0.i a0  (Sat.flat1 j7)) ?_
 rintro _ _ ⟨_, _, _, _, _, rfl, n2, x0, k7⟩
 have l7 := Sat.unflat2 k7; have hn_az_196 := n2.len; have hl_az_196 := n2.le
 have q0 := FJ.crash (x := a0) f0 om
 have m7 := l7.dropAt 0 rfl
 have mc := LI.crash (x := a0) a1 h0.j.i
 have hR3_206 := R3.crash (x := a0) hR3_50
 have y0 := PJ.crash a0 h0 om
 refine pu5 <| nilO ?_
 have hFI16 := y0.j.i; have hn16 := left_nn hFI16; have hu16 := left_ub hFI16; have hcr := left_crash (x := a0) hFI6 om om hlv6; rw [hwv] at hcr
 rw [if_pos om, show (tasksF (restartF F1_10 a0).1 b0.heldJob).getD b0.heldTask.toNat default = g0.v from by rw [← d1, List.getD_eq_getElem?_getD, List.getElem?_map, e1]; rfl] at hcr; have hcr2 : leftF (crashF (restartF F1_10 a0).1 a0).1 ≤ leftF (restartF F1_10 a0).1 + stpR g0.rows := hcr.2.2
 refine thenK_n <| sR <| pu3 ?_
 refine sN 88 ((crashF (restartF F1_10 a0).1 a0).2.2) 0 (fun n7 => ?_) (fun n7 => ?_)
 rotate_left
 ·refine pu14 <| nT <| cTt <| sR <| pu1 <| nT <| retE <| thenK_r <| retT [.bool false] ?_
  first | omega
 refine pu1 <| gY ?_
 refine cX Tryz.call34 (bo_left x0 q0 om m7) ?_
 rintro _ _ ⟨rfl, o7⟩
 refine pu2 <| gY ?_
 refine sAdd (leftF (restartF F1_10 a0).1) (stpR g0.rows) ?_
 refine pu3 ?_
 refine sD 96 ((leftF (crashF (restartF F1_10 a0).1 a0).1) > ((leftF (restartF F1_10 a0).1) + (stpR g0.rows))) (fun p7 => ?_) (fun p7 => ?_)
 ·refine pu6 <| nT <| cTt <| sR <| pu1 <| nT <| retE <| thenK_r <| retT [.bool false] ?_
  first | omega
 refine pu1 <| gY ?_
 refine cX Tryz.call34 (bo_left x0 q0 om o7) ?_
 rintro _ _ ⟨rfl, q7⟩
 refine pu1 <| gY ?_
 refine sSub (leftF (restartF F1_10 a0).1) 1 ?_
 refine pu2 <| nT ?_
 refine cD ((leftF (crashF (restartF F1_10 a0).1 a0).1) < ((leftF (restartF F1_10 a0).1) - 1)) (fun r7 => ?_) (fun r7 => ?_)
 ·refine sR <| pu1 <| nT <| retE <| thenK_r <| retT [.bool false] ?_
  first | omega
 refine kT <| sR <| pu1 ?_
 refine cX Tryz.call34 (bo_left x0 q0 om q7) ?_
 rintro _ _ ⟨rfl, s7⟩
 refine pu1 ?_
 have t7 := (s7.pick 4 rfl)
 refine cX Tryz.call15 (tg_tasks (RdT.flat (ht.up 6 (by rfl))) om (Sat.flat1 t7) 5 om) ?_
 rintro _ _ ⟨o2, p2, q2, e0, _, _, rfl, z0, r2, u7, v7, _, _, _, w7⟩
 have x7 := Sat.unflat3 w7
 have hn_zs_223 := z0.len; have hl_zs_223 := z0.le
 refine pu2 <| nT <| sR <| pu2 ?_
 have y7 := (x7.pick 3 rfl)
 obtain ⟨s2, t2, u2⟩ : ∃ j, (crashF (restartF F1_10 a0).1 a0).1.jobs[(5 : Int).toNat]? = some j ∧ j.added = false := y0.fresh5 trivial
 have z7 : validC e0 = 0 := validC_ok om om u7.2.2
 have hld := y0.load; have hcf := y0.cf
 have v2 : 0 ≤ (5 : Int) ∧ (5 : Int) < 64 := by decide
 have w2 : 0 ≤ (0 : Int) ∧ (0 : Int) < 4 := by decide
 have x2 : validC e0 = 0 := z7
 have y2 : ∀ z ∈ e0, z.scratch ≤ (crashF (restartF F1_10 a0).1 a0).1.cfg.arena := (fun z hz => by rw [hcf, hc4]; have := v7 z hz; omega)
 have a8 : 0 ≤ (crashF (restartF F1_10 a0).1 a0).1.cfg.tasks ∧ (crashF (restartF F1_10 a0).1 a0).1.cfg.tasks ≤ 4096 := by rw [hcf, hc5]; omega
 have z2 : ((e0.length : Nat) : Int) ≤ (crashF (restartF F1_10 a0).1 a0).1.cfg.tasks - loadL (crashF (restartF F1_10 a0).1 a0).1.jobs := by rw [hcf, hc5]; omega
 have b8 : e0.length ≤ 12 := by omega
 have a3 : (crashF (restartF F1_10 a0).1 a0).1.jobs[((5 : Int)).toNat]? = some s2 := t2
 have b3 : JS.added s2 = false := u2
 refine cX Tryz.call17 (pf_add x0 q0.i 5 o2 p2 q2 e0 0 (RdT.flat (z0.rdAt 1 (by rfl))) (fun z hz => (r2 z hz).of_mem (mem_flat1 2 (by rfl))) v2 a3 b3 w2 x2 y2 a8 z2  (Sat.flat1 y7)) ?_
 rintro _ _ ⟨_, rfl, c8, d8⟩
 have e8 := Sat.unflat1 d8
 have c3 := q0.add v2 a3 b3 w2 x2 y2 z2 b8
 have hla := left_add hFI16 (by decide) t2 u2 c3.i.fw; have htb := totR_bd (e0.map (·.rows)); rw [List.length_map] at htb
 refine pu1 <| nT <| sR <| pu4 <| gY ?_
 refine cX Tryz.call34 (bo_left c8 c3 om e8) ?_
 rintro _ _ ⟨rfl, f8⟩
 refine pu2 <| gY ?_
 refine cR Tryz.call41 (bo_total o2 p2 q2 e0 (RdT.flat (z0.rdAt 2 (by rfl))) (fun z hz => (r2 z hz).of_mem (mem_flat1 3 (by rfl))) (od) (Sat.flat f8)) ?_
 intro _ g8
 refine gY ?_
 refine sAdd (leftF (crashF (restartF F1_10 a0).1 a0).1) (totR (e0.map (·.rows))) ?_
 refine pu3 ?_
 refine sE 121 (leftF (addF (crashF (restartF F1_10 a0).1 a0).1 5 e0 0)) ((leftF (crashF (restartF F1_10 a0).1 a0).1) + (totR (e0.map (·.rows)))) (fun h8 => ?_) (fun h8 => ?_)
 rotate_left
 ·refine pu3 <| nT <| retE <| retT [.bool false] ?_
  first | omega
 refine gY ?_
 refine cX Tryz.call36 (l29_sane g8) ?_
 rintro _ _ ⟨rfl, i8⟩
 refine pu2 <| nT <| retE <| retT [.bool true] ?_
 have j8 := (i8.pick 9 rfl)
 have k8 := j8.dropAt 1 rfl
 have l8 := k8.dropAt 1 rfl
 have m8 := l8.dropAt 1 rfl
 have n8 := m8.dropAt 1 rfl
 have o8 := n8.dropAt 1 rfl
 have p8 := o8.dropAt 1 rfl
 have q8 := p8.dropAt 1 rfl
 have r8 := q8.dropAt 1 rfl
 have s8 := r8.dropAt 1 rfl
 exact ⟨rfl, s8⟩
end Go.Proofs.YtegmennaekipaaaGreat
