import Derived.Test.YtimkhljglpookaaBd1
namespace Go.Proofs.Ytimkhljglpookaa
open Go Go.E
set_option linter.unusedVariables false
set_option linter.unusedSimpArgs false
set_option linter.unnecessarySimpa false
set_option maxRecDepth 100000
set_option maxHeartbeats 2000000
variable {W w : World} {H : Chunk} {F : List Chunk}

-- squeezed
theorem asc_grow {i j a : Int} (hij : i ≤ j) : ∀ {l : List Int} {a : Int}, ascFrom i a l = true → ascFrom j a l = true
  | [], _, _ => rfl
  | x :: l, a, h => by
    simp only [ascFrom, Bool.and_eq_true, decide_eq_true_eq] at h ⊢
    exact ⟨⟨h.1.1, by omega⟩, asc_grow (a := a) hij h.2⟩
theorem asc_lt {i : Int} : ∀ {l : List Int} {a : Int}, a < i → ascFrom i a l = true → lastD a l < i
  | [], _, h0, _ => h0
  | y :: l, _, _, h => by
    simp only [ascFrom, Bool.and_eq_true, decide_eq_true_eq] at h
    exact asc_lt (l := l) h.1.2 h.2
theorem asc_add {j : Nat} {l : List Int} (h : ascFrom j (-1) l = true) : ascFrom ((j + 1 : Nat) : Int) (-1) (l ++ [((j : Nat) : Int)]) = true := by
  have h1 := asc_lt (by omega) h
  rw [asc_snoc, asc_grow (j := ((j + 1 : Nat) : Int)) (a := 0) (by omega) h]
  simp; omega
theorem taskOK_of {i : Int} {t : Task} (h : (1 ≤ t.rows ∧ t.rows ≤ 128) ∧ 0 ≤ t.scratch) (h2 : ascFrom i (-1) t.deps.l = true) : taskOK i t = true := by unfold taskOK; rw [decide_eq_true h, h2]; rfl
theorem tasksOK_snoc {l : List Task} {i : Nat} {t : Task} (h : tasksOK 0 l = true) (hl : l.length = i) (ht : taskOK i t = true) : tasksOK 0 (l ++ [t]) = true := by
  rw [tasksOK_app, h, hl]; simp [tasksOK, ht]
theorem tg_tasks {p : Nat} {a : Option Addr} {n k : Nat} {i : Int} {xs : List Int} (hR : RdT encI 1 [H] a n k xs) (hi : 0 ≤ i ∧ i ≤ n) (hS : Sat W w ([(p, .cells #[.slice a n k, I i] 62 (0, 0))] :: H :: F)) (m0 : Int) (hm : 1 ≤ m0 ∧ m0 ≤ 64) :
  Calls Try.prog 9 #[Pt p 0, I m0] w fun e w' => ∃ (az : Option Addr) (nz : Nat) (kz : Nat) (zs : List Task) (C : Chunk) (G : Chunk), e = .returned (.slice az nz kz) ∧ (OwnT encTask 31 9 az nz kz zs C) ∧ (∀ z ∈ zs, Task.Ok [G] z) ∧ (1 ≤ zs.length ∧ zs.length ≤ m0.toNat ∧ tasksOK 0 zs = true) ∧ ∃ i' : Int, (0 ≤ i' ∧ i' ≤ n) ∧ Sat W w' ([(p, .cells #[.slice a n k, I i'] 62 (0, 0))] :: C :: G :: H :: F) := by
 have hle := hR.le
 refine callsA 45 Try.func9 rfl <| sR <| pu1 <| nT <| sR <| pu1 <| nT <| sR <| pu2 <| cX Try.call10 (tape_next (RdT.flat (hR.up 0 (by rfl))) om (Sat.flat1 hS) m0 om) ?_
 rintro _ _ ⟨b0, rfl, _, l0, _, n0⟩
 have o0 := Sat.unflat1 n0
 refine sAdd 1 b0 <| pu1 <| nT <| seqE <| sR <| pu1 <| nT <| blockE ?_
 have p0 := Sat.nilc o0
 have q0 := OwnT.nil (enc := encTask) (E := 31) (sz := 9) fR
 have r0 := Sat.nilc p0
 refine loopA (γ := Nat × Int × (List Task) × (Option Addr) × Nat × Nat × Chunk × Chunk) (fun ⟨i, iti, zs, azs, nzs, kzs, czs, Gzs⟩ => [(0, Pt p 0), (6, I (1 + b0)), (7, I ((i : Nat) : Int)), (5, .slice azs nzs kzs)]) (fun ⟨i, iti, zs, azs, nzs, kzs, czs, Gzs⟩ w => Sat W w (Gzs :: czs :: [(p, .cells #[.slice a n k, I iti] 62 (0, 0))] :: H :: F) ∧ i ≤ ((1 + b0)).toNat ∧ (tasksOK 0 zs = true) ∧ (zs.length = i) ∧ (0 ≤ iti ∧ iti ≤ n) ∧ OwnT encTask 31 9 azs nzs kzs zs czs ∧ (∀ z ∈ zs, Task.Ok [Gzs] z)) (fun ⟨i, iti, zs, azs, nzs, kzs, czs, Gzs⟩ => (((1 + b0)).toNat) - i) (0, l0, [], none, 0, 0, [], []) ⟨r0, om, rfl, by rfl, om, q0, (by intro z hz; cases hz)⟩ ?_
 rintro ⟨i, iti, zs, azs, nzs, kzs, czs, Gzs⟩ ρ _ ⟨f0, hi, hT, hzl, hiti, hOzs, hDzs⟩
 have hn_zs := hOzs.len; have hl_zs := hOzs.le
 refine seqE <| sR <| pu3 <| nT <| cD (((i : Nat) : Int) < (1 + b0)) (fun s0 => ?_) (fun s0 => ?_)
 rotate_left
 ·refine exitE <| xB <| thenK_n <| sR <| pu2 <| nT <| retE <| retT [.slice azs nzs kzs] ?_
  have t0 := ((((f0.pick 3 rfl).pick 1 rfl).pick 2 rfl).pick 3 rfl)
  exact ⟨_, _, _, zs, czs, Gzs, rfl, hOzs, hDzs, ⟨om, om, hT⟩, _, om, t0⟩
 refine kT <| seqE <| blockE <| sR <| pu1 ?_
 have u0 := (f0.pick 2 rfl)
 refine cX Try.call10 (tape_next (RdT.flat (hR.up 2 (by rfl))) om (Sat.flat1 u0) 3 om) ?_
 rintro _ _ ⟨c0, rfl, _, _, _, v0⟩
 have w0 := Sat.unflat1 v0
 refine sAdd 1 c0 <| pu1 <| sBS w0 #[I 16, I 0, I 48, I 512] Try.runUnderlying22 Try.sizeOf3 Try.zeroValue3 fun x0 _ y0 => ?_
 have z0 := (y0.pick 1 rfl)
 refine cX Try.call11 (tape_pick (RdT.flat (hR.up 3 (by rfl))) om (Sat.flat1 z0) (RdT.flat (RdT.blk (enc := encI) (sz := 1) (xs := [16, 0, 48, 512]) (fun _ => (by rfl)) 4 0 rfl rfl rfl om)) om om) ?_
 rintro _ _ ⟨a0, rfl, a1, b1, _, c1⟩
 have d1 := Sat.unflat1 c1
 have m2 : (a0 : Int) = 16 ∨ (a0 : Int) = 0 ∨ (a0 : Int) = 48 ∨ (a0 : Int) = 512 := by simpa using a1
 refine pu1 <| sAlloc d1 Try.zeroValue31 fun g0 _ e1 => sTw e1 0 [I 0, I 0, I 0, I 0, I 0, I 0, .slice none 0 0, I (1 + c0), I a0] Try.sizeOf31 fun _ f1 => nT <| seqE <| sR <| pu1 <| nT <| blockE ?_
 have g1 := Sat.nilc f1
 have h1 := OwnT.nil (enc := encI) (E := 3) (sz := 1) fR
 refine loopA (γ := Nat × Int × (List Int) × (Option Addr) × Nat × Nat × Chunk) (fun ⟨j, itj, ds, ads, nds, kds, cds⟩ => [(0, Pt p 0), (6, I (1 + b0)), (7, I ((i : Nat) : Int)), (5, .slice azs nzs kzs), (8, Pt g0 0), (9, I ((j : Nat) : Int))]) (fun ⟨j, itj, ds, ads, nds, kds, cds⟩ w => Sat W w (cds :: [(g0, .cells #[I 0, I 0, I 0, I 0, I 0, I 0, .slice ads nds kds, I (1 + c0), I a0] 31 (0, 0))] :: [(p, .cells #[.slice a n k, I itj] 62 (0, 0))] :: [(x0, .cells #[I 16, I 0, I 48, I 512] 3 (0, 0))] :: Gzs :: czs :: H :: F) ∧ j ≤ i ∧ (ascFrom j (-1) ds = true) ∧ (ds.length ≤ j) ∧ (0 ≤ itj ∧ itj ≤ n) ∧ OwnT encI 3 1 ads nds kds ds cds) (fun ⟨j, itj, ds, ads, nds, kds, cds⟩ => i - j) (0, b1, [], none, 0, 0, []) ⟨g1, om, rfl, by simp, om, h1⟩ ?_
 rintro ⟨j, itj, ds, ads, nds, kds, cds⟩ ρ _ ⟨d0, hj, hA, hdl, hitj, hOds⟩
 have hn_ds := hOds.len; have hl_ds := hOds.le
 refine seqE <| sR <| pu3 <| nT <| cD (((j : Nat) : Int) < ((i : Nat) : Int)) (fun i1 => ?_) (fun i1 => ?_)
 rotate_left
 ·refine exitE <| xB <| thenK_n <| regionE <| pu1 <| lA d0 1 0 9 (Try.isAgg31 _) (Try.sizeOf31 _) <| sBS d0 #[I 0, I 0, I 0, I 0, I 0, I 0, .slice ads nds kds, I (1 + c0), I a0] Try.runUnderlying23 Try.sizeOf31 Try.zeroValue31 fun _ _ j1 => sApp (nb := 88) j1 hOzs 6 (RdT.blk (enc := encTask) (sz := 9) (xs := [(⟨0, 0, 0, 0, 0, 0, ⟨ads, nds, kds, ds⟩, (1 + c0), a0⟩ : Task)]) fR 1 0 rfl rfl rfl om) Try.underlying23 (i := Try.t31) kr fR fun k1 l1 h0 _ m1 n1 => pu1 <| nB <| regionE <| pu1 <| sAdd ((i : Nat) : Int) 1 <| pu1 <| nT ?_
  have o1 := ((((((((n1.pick 7 rfl).pick 4 rfl).pick 7 rfl).pick 7 rfl).pick 5 rfl).dropAt 5 rfl).dropAt 5 rfl).dropAt 5 rfl)
  have p1 := (Sat.perm (cs' := (cds ++ Gzs) :: (h0 :: [(p, .cells #[.slice a n k, I itj] 62 (0, 0))] :: H :: F)) o1 (by simp))
  exact ⟨(i + 1, itj, (zs ++ [(⟨0, 0, 0, 0, 0, 0, ⟨ads, nds, kds, ds⟩, (1 + c0), a0⟩ : Task)]), k1, (nzs + 1), l1, h0, (cds ++ Gzs)), od, alA, p1, om, (tasksOK_snoc hT hzl (taskOK_of (by dsimp only; omega) (by dsimp only; rw [show i = j by omega]; exact hA))), by simp; omega, om, m1, (by
    intro z hz
    rcases List.mem_append.1 hz with h | h
    ·exact (hDzs z h).of_mem mS
    ·simp only [List.mem_singleton] at h; subst h; exact ⟨(hOds.rdAt (cs := [cds]) 0 rfl).of_mem mS⟩)⟩
 refine kT <| seqE <| blockE <| sR <| pu1 ?_
 have q1 := (d0.pick 2 rfl)
 refine cX Try.call10 (tape_next (RdT.flat (hR.up 5 (by rfl))) om (Sat.flat1 q1) 3 om) ?_
 rintro _ _ ⟨r1, rfl, _, i0, _, s1⟩
 have e0 := Sat.unflat1 s1
 refine pu1 <| nT <| cE r1 0 (fun t1 => ?_) (fun t1 => ?_)
 rotate_left
 ·refine skipE <| blockK_n <| thenK_n <| regionE <| pu1 <| sAdd ((j : Nat) : Int) 1 <| pu1 <| nT ?_
  have u1 := (((((((e0.pick 6 rfl).pick 6 rfl).pick 6 rfl).pick 6 rfl).pick 4 rfl).pick 6 rfl).pick 6 rfl)
  exact ⟨(j + 1, i0, ds, ads, nds, kds, cds), od, alA, u1, om, (asc_grow (a := 0) om hA), by first | omega | (simp; omega), om, hOds⟩
 refine regionE <| pu1 <| sL e0 2 6 (.slice ads nds kds) (Try.isAgg22 _) <| pu1 <| sBS e0 #[I ((j : Nat) : Int)] Try.runUnderlying22 Try.sizeOf3 Try.zeroValue3 fun _ _ v1 => sApp (nb := 8) v1 hOds 2 (RdT.blk (enc := encI) (sz := 1) (xs := [((j : Nat) : Int)]) fR 1 0 rfl rfl rfl om) Try.underlying22 (i := Try.t3) kr fR fun j0 k0 w1 _ x1 y1 => pu1 <| tW y1 3 6 (.slice j0 (nds + 1) k0) Try.sizeOf22 fun _ z1 => nB <| regionE <| pu1 <| sAdd ((j : Nat) : Int) 1 <| pu1 <| nT ?_
 have a2 := ((((((((z1.pick 7 rfl).pick 7 rfl).pick 7 rfl).pick 7 rfl).pick 5 rfl).pick 7 rfl).pick 7 rfl).dropAt 7 rfl)
 exact ⟨(j + 1, i0, (ds ++ [((j : Nat) : Int)]), j0, (nds + 1), k0, w1), od, alA, a2, om, (asc_add hA), by first | omega | (simp; omega), om, x1⟩
end Go.Proofs.Ytimkhljglpookaa
