import Derived.Test.YtcddcpaodcjecaaRefS
import Derived.Test.YtcddcpaodcjecaaTape
namespace Go.Proofs.Ytcddcpaodcjecaa
open Go Go.E
set_option linter.unusedVariables false
set_option linter.unusedSimpArgs false
set_option linter.unnecessarySimpa false
set_option maxRecDepth 100000
set_option maxHeartbeats 2000000

-- squeezed
def numB (z : Int) : Prop := -4611686018427387904 ≤ z ∧ z ≤ 4611686018427387904
theorem nb {z : Int} (h : numB z := by unfold numB; first | omega | (dsimp only; omega)) : numB z := h
def tapB (t : Tap) : Prop := numB t.first ∧ t.weights.l.length ≤ 9 ∧ ∀ z ∈ t.weights.l, numB z
theorem mem_set {α : Type} {P : α → Prop} {l : List α} {i : Nat} {x : α} (h : ∀ z ∈ l, P z) (hx : P x) : ∀ z ∈ l.set i x, P z := by
  intro z hz
  rcases List.mem_or_eq_of_mem_set hz with h1 | h1
  · exact h z h1
  · rw [h1]; exact hx
theorem set_self_at {α : Type} {l : List α} {i : Nat} {x y : α} (h : (l.set i x)[i]? = some y) : y = x := by
  have hl : i < (l.set i x).length := (List.getElem?_eq_some_iff.1 h).1
  rw [List.length_set] at hl
  rw [List.getElem?_set_self hl] at h
  exact (Option.some.inj h).symm
theorem tdiv_bd {a b A : Int} (ha : 0 ≤ a ∧ a ≤ A) (hb : 0 < b) : 0 ≤ a.tdiv b ∧ a.tdiv b ≤ A := by
  rw [Int.tdiv_eq_ediv_of_nonneg ha.1]
  refine ⟨Int.ediv_nonneg ha.1 (by omega), Int.le_trans (Int.ediv_le_self _ ha.1) ha.2⟩
theorem mem_snoc {α : Type} {P : α → Prop} {l : List α} {x : α} (h : ∀ z ∈ l, P z) (hx : P x) : ∀ z ∈ l ++ [x], P z := by
  intro z hz
  rcases List.mem_append.1 hz with h1 | h1
  · exact h z h1
  · simp only [List.mem_singleton] at h1; rw [h1]; exact hx
theorem r8_divide (W w : World) (H : Chunk) (F : List Chunk) (tot : Int) (ax : Option Addr) (nx kx : Nat) (x : List Int) (hx : RdT encI 1 [H] ax nx kx x) (ht : 0 ≤ tot ∧ tot ≤ 16384) (hp : ∀ z ∈ x, 1 ≤ z ∧ z ≤ 16384) (h0 : 1 ≤ nx ∧ nx ≤ 200) (hS : Sat W w (H :: F)) :
  Calls Try.prog 77 #[I tot, .slice ax nx kx] w fun e w' => ∃ (az : Option Addr) (nz kz : Nat) (G : Chunk) (zs : List Int), e = .returned (.slice az nz kz) ∧ RdT encI 1 [G] az nz kz zs ∧ (zs.length = nx ∧ ∀ z ∈ zs, numB z) ∧ Sat W w' (G :: H :: F) := by
 have hl_x := hx.le; have hn_x := hx.len
 refine callsE (n := 96) Try.func77 rfl rfl (Nat.le_of_ble_eq_true rfl) ?_
 refine sR <| pu1 <| nT <| sR <| pu1 <| nT <| seqE <| sR <| pu1 <| nT <| blockE ?_
 refine loopE (γ := Nat × Int) (fun ⟨i, s⟩ ρ w => AllAt ρ [(0, I tot), (1, .slice ax nx kx), (4, .slice none 0 0), (6, I ((i : Nat) : Int)), (5, I s)] ∧ Sat W w (H :: F) ∧ i ≤ nx ∧ ((i : Int) ≤ s ∧ s ≤ 16384 * (i : Int))) (fun ⟨i, s⟩ => nx - i) (0, 0) ⟨alA, hS, om, om⟩ ?_
 skip
 rintro ⟨i, s⟩ ρ _ ⟨hA, f0, hi, hs⟩
 refine cAnchor hA (fun ρ => ?_)
 clear hA
 refine seqE <| sR <| pu4 <| nT ?_
 by_cases w0 : (((i : Nat) : Int) : Int) < ((nx : Nat) : Int)
 ·refine cT _ (decide_eq_true w0) ?_
  refine kT <| seqE <| blockE <| regionE <| pu3 ?_
  refine sIdx hx ((i : Nat) : Int) Try.runUnderlying22 Try.sizeOf3 ?_
  intro c0 _ _ x0 o2
  rw [Int.toNat_natCast] at x0
  have hp_x_4 := hp c0 (List.mem_of_getElem? x0); have hpm_x_4 := mul_bd (a := tot) (b := c0) (A := 16384) (B := 16384) om om
  refine sLp f0 (o2.up 0 rfl) 0 (I c0) (Try.isAgg3 _) ?_
  refine sAdd s c0 ?_
  refine pu1 <| nB <| regionE <| pu1 ?_
  refine sAdd ((i : Nat) : Int) 1 ?_
  refine pu1 <| nT ?_
  change Sat _ _ (H :: F) at f0
  exact ⟨(i + 1, (s + c0)), od, alA, f0, om, om⟩
 refine cF _ (decide_eq_false w0) ?_
 refine exitE (xB <| ?_)
 refine thenK_n ?_
 refine cutE (fun ρ w => ∃ (a1 : Option Addr) (c1 : Chunk) (a2 : Option Addr) (c2 : Chunk), AllAt ρ [(0, I tot), (1, .slice ax nx kx), (5, I s), (7, .slice a1 nx nx), (8, .slice a2 nx nx)] ∧ Sat W w (c1 :: c2 :: H :: F) ∧ OwnT encI 3 1 a1 nx nx (List.replicate nx 0) c1 ∧ OwnT encI 3 1 a2 nx nx (List.replicate nx 0) c2) ?_ ?_
 ·refine drawP [2, 5] [] (Plan.sts [0, 1, 3, 4] <| .fk 2 5 (Plan.sts [6] <| .ef 5 <| Plan.sts [7] <| .fin) (.ef 2 <| Plan.sts [6, 7] <| .fin)) rfl kr trivial ?_
  have y0 := f0.drew
  refine qU [0, 1, 3, 4] ?_
  refine qF ?_ ?_
  rotate_left
  ·refine qO rfl ?_
   refine sMake (kl := .i64) (kc := .i64) (enc := encI) (sz := 1) (nb := 8) y0 0 nx ((nx : Nat) : Int) (rfl : ((nx : Nat) : Int) = ((nx : Nat) : Int)) Try.underlying22 (i := Try.t3) kr fR ?_
   intro p2 g0 _ q2 z0
   change Sat _ _ (g0 :: H :: F) at z0
   refine nilO ⟨trivial, ?_⟩
   refine qO rfl ?_
   refine sMake (kl := .i64) (kc := .i64) (enc := encI) (sz := 1) (nb := 8) z0 0 nx ((nx : Nat) : Int) (rfl : ((nx : Nat) : Int) = ((nx : Nat) : Int)) Try.underlying22 (i := Try.t3) kr fR ?_
   intro r2 n0 _ s2 b1
   change Sat _ _ (n0 :: g0 :: H :: F) at b1
   refine nilO ⟨trivial, ?_⟩
   refine qU [6, 7] ?_
   refine qN ?_
   refine thenK_n ?_
   have d1 := (((b1.pick 2 rfl).pick 2 rfl).pick 2 rfl)
   change Sat _ _ (n0 :: g0 :: H :: F) at d1
   exact ⟨(At r2 0), n0, (At p2 0), g0, alA, d1, s2, q2⟩
  refine qO rfl ?_
  refine sMake (kl := .i64) (kc := .i64) (enc := encI) (sz := 1) (nb := 8) y0 0 nx ((nx : Nat) : Int) (rfl : ((nx : Nat) : Int) = ((nx : Nat) : Int)) Try.underlying22 (i := Try.t3) kr fR ?_
  intro t2 i0 _ u2 e1
  change Sat _ _ (i0 :: H :: F) at e1
  refine nilO ⟨trivial, ?_⟩
  refine qU [6] ?_
  refine qO rfl ?_
  refine sMake (kl := .i64) (kc := .i64) (enc := encI) (sz := 1) (nb := 8) e1 0 nx ((nx : Nat) : Int) (rfl : ((nx : Nat) : Int) = ((nx : Nat) : Int)) Try.underlying22 (i := Try.t3) kr fR ?_
  intro v2 o0 _ w2 f1
  change Sat _ _ (o0 :: i0 :: H :: F) at f1
  refine nilO ⟨trivial, ?_⟩
  refine qU [7] ?_
  refine qN ?_
  refine thenK_n ?_
  have g1 := (((f1.pick 2 rfl).pick 1 rfl).pick 2 rfl)
  change Sat _ _ (i0 :: o0 :: H :: F) at g1
  exact ⟨(At t2 0), i0, (At v2 0), o0, alA, g1, u2, w2⟩
 rintro ρ _ ⟨a1, c1, a2, c2, hA, h1, hO1, hO2⟩
 refine cAnchor hA (fun ρ => ?_)
 clear hA
 refine sR <| pu2 <| nT <| seqE <| sR <| pu1 <| nT <| blockE ?_
 change Sat _ _ (c1 :: c2 :: H :: F) at h1
 refine loopE (γ := Nat × Int × (List Int) × (Option Addr) × Nat × Nat × Chunk × (List Int) × (Option Addr) × Nat × Nat × Chunk) (fun ⟨i, lf, zs, azs, nzs, kzs, czs, ys, ays, nys, kys, cys⟩ ρ w => AllAt ρ [(0, I tot), (1, .slice ax nx kx), (5, I s), (31, I tot), (10, I ((i : Nat) : Int)), (9, I lf), (7, .slice azs nzs kzs), (8, .slice ays nys kys)] ∧ Sat W w (czs :: cys :: H :: F) ∧ i ≤ nx ∧ (∀ z ∈ zs, 0 ≤ z ∧ z ≤ 268435456 + 0) ∧ (lf ≤ tot ∧ -(268435456 * (i : Int)) ≤ lf) ∧ (zs.length = nx ∧ ys.length = nx) ∧ OwnT encI 3 1 azs nzs kzs zs czs ∧ OwnT encI 3 1 ays nys kys ys cys) (fun ⟨i, lf, zs, azs, nzs, kzs, czs, ys, ays, nys, kys, cys⟩ => nx - i) (0, tot, (List.replicate nx 0), a1, nx, nx, c1, (List.replicate nx 0), a2, nx, nx, c2) ⟨alA, h1, om, by intro z hz; have := List.eq_of_mem_replicate hz; omega, om, by simp, hO1, hO2⟩ ?_
 skip
 rintro ⟨i, lf, zs, azs, nzs, kzs, czs, ys, ays, nys, kys, cys⟩ ρ _ ⟨hA, d0, hi, hZ, hlf, hzl, hOzs, hOys⟩
 refine cAnchor hA (fun ρ => ?_)
 clear hA
 have hn_zs := hOzs.len; have hl_zs := hOzs.le
 have hn_ys := hOys.len; have hl_ys := hOys.le
 refine seqE <| sR <| pu4 <| nT ?_
 by_cases i1 : (((i : Nat) : Int) : Int) < ((nx : Nat) : Int)
 ·refine cT _ (decide_eq_true i1) ?_
  refine kT <| seqE <| blockE <| seqE ?_
  obtain ⟨a0, j0, k0, j1, k1, l1⟩ := RdT.elem hx ((i : Nat) : Int)
  rw [Int.toNat_natCast] at j1
  have hp_x_37 := hp a0 (List.mem_of_getElem? j1); have hpm_x_37 := mul_bd (a := tot) (b := a0) (A := 16384) (B := 16384) om om; have hq_x_37 := tdiv_bd (a := tot * a0) (b := s) (A := 268435456) om om
  obtain ⟨m1, x2, y2, p0, z2, n1, a3⟩ := OwnT.elem hOzs ((i : Nat) : Int)
  rw [Int.toNat_natCast] at p0 z2 n1
  have hz_x_43 := hZ m1 (List.mem_of_getElem? p0)
  obtain ⟨b3, c3, d3, o1, e3, p1, f3⟩ := OwnT.elem hOys ((i : Nat) : Int)
  rw [Int.toNat_natCast] at o1 e3 p1
  refine drawE [21, 23] [(8, ⟨j0, k0, none⟩, I a0), (16, ⟨j0, k0, none⟩, I a0)] [(true, [0, 1, 2, 3, 4, 5, 6]), (true, [7]), (true, [10, 12, 13, 14]), (true, [15]), (true, [18]), (true, [8]), (true, [9]), (true, [11]), (true, [16]), (true, [17]), (true, [19]), (true, [20]), (false, [21]), (true, [22]), (false, [23])] rfl kr ⟨.inr ((k1.up 2 rfl).cell d0 (k := 0) rfl), .inr ((k1.up 2 rfl).cell d0 (k := 0) rfl), trivial⟩ ?_
  have g3 := d0.drew
  refine wU [0, 1, 2, 3, 4, 5, 6] ?_
  refine wS (.pointer (some ⟨j0, k0, none⟩)) rfl rfl rfl (fun w _ => Y_idx (a := ax) (i := ((i : Nat) : Int)) (len := nx) (cap := kx) rfl Try.runUnderlying22 Try.sizeOf3 kr kr l1) ?_
  refine wU [10, 12, 13, 14] ?_
  refine wS (.pointer (some ⟨j0, k0, none⟩)) rfl rfl rfl (fun w _ => Y_idx (a := ax) (i := ((i : Nat) : Int)) (len := nx) (cap := kx) rfl Try.runUnderlying22 Try.sizeOf3 kr kr l1) ?_
  refine wU [18] ?_
  refine wS (I a0) rfl rfl rfl (fun w hF => Y_load rfl (Try.isAgg3 w) kr (hF 0 _ _ rfl)) ?_
  refine wS (I (tot * a0)) rfl rfl rfl (fun w _ => Y_mul (a := tot) (b := a0) rfl kr kr om) ?_
  refine wS (I ((tot * a0).tdiv s)) rfl rfl rfl (fun w _ => Y_quo (a := (tot * a0)) (b := s) rfl kr kr om om) ?_
  refine wS (I a0) rfl rfl rfl (fun w hF => Y_load rfl (Try.isAgg3 w) kr (hF 1 _ _ rfl)) ?_
  refine wS (I (tot * a0)) rfl rfl rfl (fun w _ => Y_mul (a := tot) (b := a0) rfl kr kr om) ?_
  refine wS (I ((tot * a0).tmod s)) rfl rfl rfl (fun w _ => Y_rem (a := (tot * a0)) (b := s) rfl kr kr om) ?_
  refine wS (.pointer (some ⟨x2, y2 + i * 1, none⟩)) rfl rfl rfl (fun w _ => Y_idx (a := azs) (i := ((i : Nat) : Int)) (len := nzs) (cap := kzs) rfl Try.runUnderlying22 Try.sizeOf3 kr kr n1) ?_
  refine wO rfl ?_
  refine sStF g3 hOzs a3 0 i 0 m1 ((tot * a0).tdiv s) p0 (I ((tot * a0).tdiv s)) [I ((tot * a0).tdiv s)] Try.sizeOf3 ?_
  intro _ l0 q1 r1
  change Sat _ _ (l0 :: cys :: H :: F) at r1
  refine nilO ⟨dA, ?_⟩
  refine wS (.pointer (some ⟨c3, d3 + i * 1, none⟩)) rfl rfl rfl (fun w _ => Y_idx (a := ays) (i := ((i : Nat) : Int)) (len := nys) (cap := kys) rfl Try.runUnderlying22 Try.sizeOf3 kr kr p1) ?_
  refine wO rfl ?_
  refine sStF r1 hOys f3 1 i 0 b3 ((tot * a0).tmod s) o1 (I ((tot * a0).tmod s)) [I ((tot * a0).tmod s)] Try.sizeOf3 ?_
  intro _ q0 h3 r0
  change Sat _ _ (l0 :: q0 :: H :: F) at r0
  refine nilO ⟨dA, ?_⟩
  refine wN ?_
  refine thenK_n <| regionE <| pu3 ?_
  refine sIdxO q1 ((i : Nat) : Int) i Try.runUnderlying22 Try.sizeOf3 ?_
  intro s0 _ _ i3 j3 _
  have he_x_66 := set_self_at i3
  refine sLp r0 (j3.up 0 rfl) 0 (I s0) (Try.isAgg3 _) ?_
  refine sSub lf s0 ?_
  refine pu1 <| nB <| regionE <| pu1 ?_
  refine sAdd ((i : Nat) : Int) 1 ?_
  refine pu1 <| nT ?_
  have s1 := (((r0.pick 2 rfl).pick 2 rfl).pick 2 rfl)
  change Sat _ _ (l0 :: q0 :: H :: F) at s1
  exact ⟨(i + 1, (lf - s0), (zs.set i ((tot * a0).tdiv s)), azs, nzs, kzs, l0, (ys.set i ((tot * a0).tmod s)), ays, nys, kys, q0), od, alA, s1, om, mem_set hZ (by first | omega | (refine ⟨?_, ?_⟩ <;> omega)), om, by simp; omega, q1, h3⟩
 refine cF _ (decide_eq_false i1) ?_
 refine exitE (xB <| ?_)
 refine thenK_n <| seqE <| blockE ?_
 change Sat _ _ (czs :: cys :: H :: F) at d0
 refine loopE (γ := Nat × Int × (List Int) × (Option Addr) × Nat × Nat × Chunk × (List Int) × (Option Addr) × Nat × Nat × Chunk) (fun ⟨u, lf, zs, azs, nzs, kzs, czs, ys, ays, nys, kys, cys⟩ ρ w => AllAt ρ [(0, I tot), (1, .slice ax nx kx), (5, I s), (31, I tot), (32, I ((i : Nat) : Int)), (33, .slice ax nx kx), (34, I ((nx : Nat) : Int)), (35, .bool (decide ((((i : Nat) : Int) : Int) < ((nx : Nat) : Int)))), (9, I lf), (7, .slice azs nzs kzs), (8, .slice ays nys kys)] ∧ Sat W w (czs :: cys :: H :: F) ∧ u ≤ 16384 ∧ (∀ z ∈ zs, 0 ≤ z ∧ z ≤ 268435456 + (u : Int)) ∧ ((u : Int) + lf ≤ 16384 ∧ -(268435456 * 200) ≤ lf) ∧ (zs.length = nx ∧ ys.length = nx) ∧ OwnT encI 3 1 azs nzs kzs zs czs ∧ OwnT encI 3 1 ays nys kys ys cys) (fun ⟨u, lf, zs, azs, nzs, kzs, czs, ys, ays, nys, kys, cys⟩ => 16384 - u) (0, lf, zs, azs, nzs, kzs, czs, ys, ays, nys, kys, cys) ⟨alA, d0, om, by intro z hz; have := hZ z hz; omega, om, om, hOzs, hOys⟩ ?_
 skip
 rintro ⟨u, lf, zs, azs, nzs, kzs, czs, ys, ays, nys, kys, cys⟩ ρ _ ⟨hA, t1, hu, hZ, hlf2, hzl, hOzs, hOys⟩
 refine cAnchor hA (fun ρ => ?_)
 clear hA
 have hn_zs := hOzs.len; have hl_zs := hOzs.le
 have hn_ys := hOys.len; have hl_ys := hOys.le
 refine seqE <| sR <| pu2 <| nT ?_
 by_cases u1 : (lf : Int) > 0
 rotate_left
 ·refine cF _ (decide_eq_false u1) ?_
  refine exitE (xB <| ?_)
  refine thenK_n <| sR <| pu2 <| nT <| retE <| retT [.slice azs nzs kzs] ?_
  have v1 := (((t1.pick 2 rfl).pick 1 rfl).dropAt 2 rfl)
  change Sat _ _ (czs :: H :: F) at v1
  exact ⟨_, _, _, _, _, rfl, (hOzs.rdAt (cs := [czs]) 0 rfl), ⟨om, fun z hz => by have h := hZ z hz; unfold numB; omega⟩, v1⟩
 refine cT _ (decide_eq_true u1) ?_
 refine kT <| seqE <| blockE <| sR <| pu1 <| nT <| seqE <| sR <| pu1 <| nT <| blockE ?_
 refine loopE (γ := Nat × Int) (fun ⟨k, best⟩ ρ w => AllAt ρ [(0, I tot), (1, .slice ax nx kx), (5, I s), (31, I tot), (32, I ((i : Nat) : Int)), (33, .slice ax nx kx), (34, I ((nx : Nat) : Int)), (35, .bool (decide ((((i : Nat) : Int) : Int) < ((nx : Nat) : Int)))), (9, I lf), (7, .slice azs nzs kzs), (8, .slice ays nys kys), (66, I lf), (67, .bool (decide ((lf : Int) > 0))), (12, I ((k : Nat) : Int)), (11, I best)] ∧ Sat W w (czs :: cys :: H :: F) ∧ k ≤ nx ∧ (0 ≤ best ∧ best < (nx : Int))) (fun ⟨k, best⟩ => nx - k) (1, 0) ⟨alA, t1, om, om⟩ ?_
 skip
 rintro ⟨k, best⟩ ρ _ ⟨hA, e0, hk, hbest⟩
 refine cAnchor hA (fun ρ => ?_)
 clear hA
 refine seqE <| sR <| pu4 <| nT ?_
 by_cases w1 : (((k : Nat) : Int) : Int) < ((nys : Nat) : Int)
 rotate_left
 ·refine cF _ (decide_eq_false w1) ?_
  refine exitE (xB <| ?_)
  refine thenK_n <| sR <| pu2 ?_
  refine sIdxO hOzs best (best).toNat Try.runUnderlying22 Try.sizeOf3 ?_
  intro b0 _ _ x1 k3 _
  have hz_x_97 := hZ b0 (List.mem_of_getElem? x1)
  refine sLp e0 (k3.up 0 rfl) 0 (I b0) (Try.isAgg3 _) ?_
  refine sAdd b0 1 ?_
  refine sIdxO hOzs best (best).toNat Try.runUnderlying22 Try.sizeOf3 ?_
  intro l3 _ _ y1 _ m3
  obtain rfl : b0 = l3 := Option.some.inj (x1.symm.trans y1)
  refine sStF e0 hOzs m3 0 (best).toNat 0 b0 (b0 + 1) y1 (I (b0 + 1)) [I (b0 + 1)] Try.sizeOf3 ?_
  intro _ m0 n3 z1
  change Sat _ _ (m0 :: cys :: H :: F) at z1
  refine nT <| regionE <| pu2 ?_
  refine sIdxO hOys best (best).toNat Try.runUnderlying22 Try.sizeOf3 ?_
  intro o3 _ _ p3 _ q3
  refine sStF z1 hOys q3 1 (best).toNat 0 o3 (-1) p3 (I (-1)) [I (-1)] Try.sizeOf3 ?_
  intro _ t0 r3 b2
  change Sat _ _ (m0 :: t0 :: H :: F) at b2
  refine nB <| regionE <| pu1 ?_
  refine sSub lf 1 ?_
  refine pu1 <| nT ?_
  have d2 := (((b2.pick 2 rfl).pick 2 rfl).pick 2 rfl)
  change Sat _ _ (m0 :: t0 :: H :: F) at d2
  exact ⟨(u + 1, (lf - 1), (zs.set ((best).toNat) (b0 + 1)), azs, nzs, kzs, m0, (ys.set ((best).toNat) (-1)), ays, nys, kys, t0), od, alA, d2, om, mem_set (fun z hz => by have := hZ z hz; omega) om, om, by simp; omega, n3, r3⟩
 refine cT _ (decide_eq_true w1) ?_
 refine kT <| seqE <| blockE <| seqE ?_
 obtain ⟨u0, e2, f2, s3, g2, h2, x4⟩ := OwnT.elem hOys ((k : Nat) : Int)
 rw [Int.toNat_natCast] at s3 g2 h2
 obtain ⟨v0, i2, j2, y4, u3, v3, z4⟩ := OwnT.elem hOys best
 refine drawE [] [(3, ⟨e2, f2 + k * 1, none⟩, I u0), (7, ⟨i2, j2 + (best).toNat * 1, none⟩, I v0)] [(true, [0, 1]), (true, [2]), (true, [4, 5]), (true, [6]), (true, [3]), (true, [7]), (true, [8])] rfl kr ⟨.inr ((g2.up 1 rfl).cell e0 (k := 0) rfl), .inr ((u3.up 1 rfl).cell e0 (k := 0) rfl), trivial⟩ ?_
 have k2 := e0.drew
 refine wU [0, 1] ?_
 refine wS (.pointer (some ⟨e2, f2 + k * 1, none⟩)) rfl rfl rfl (fun w _ => Y_idx (a := ays) (i := ((k : Nat) : Int)) (len := nys) (cap := kys) rfl Try.runUnderlying22 Try.sizeOf3 kr kr h2) ?_
 refine wU [4, 5] ?_
 refine wS (.pointer (some ⟨i2, j2 + (best).toNat * 1, none⟩)) rfl rfl rfl (fun w _ => Y_idx (a := ays) (i := best) (len := nys) (cap := kys) rfl Try.runUnderlying22 Try.sizeOf3 kr kr v3) ?_
 refine wS (I u0) rfl rfl rfl (fun w hF => Y_load rfl (Try.isAgg3 w) kr (hF 0 _ _ rfl)) ?_
 refine wS (I v0) rfl rfl rfl (fun w hF => Y_load rfl (Try.isAgg3 w) kr (hF 1 _ _ rfl)) ?_
 refine wU [8] ?_
 refine wN ?_
 refine thenK_n ?_
 by_cases l2 : (u0 : Int) > v0
 rotate_left
 ·refine cF _ (decide_eq_false l2) ?_
  refine skipE <| blockK_n <| thenK_n <| regionE <| pu1 ?_
  refine sAdd ((k : Nat) : Int) 1 ?_
  refine pu1 <| nT ?_
  have m2 := (((k2.pick 2 rfl).pick 2 rfl).pick 2 rfl)
  change Sat _ _ (czs :: cys :: H :: F) at m2
  exact ⟨(k + 1, best), od, alA, m2, om, om⟩
 refine cT _ (decide_eq_true l2) ?_
 refine regionE <| pu2 <| nB <| regionE <| pu1 ?_
 refine sAdd ((k : Nat) : Int) 1 ?_
 refine pu1 <| nT ?_
 have n2 := (((k2.pick 2 rfl).pick 2 rfl).pick 2 rfl)
 change Sat _ _ (czs :: cys :: H :: F) at n2
 exact ⟨(k + 1, ((k : Nat) : Int)), od, alA, n2, om, om⟩

theorem tdiv_abs {x d A : Int} (hx : -A ≤ x ∧ x ≤ A) : -A ≤ x.tdiv d ∧ x.tdiv d ≤ A := by
  have h : (x.tdiv d).natAbs ≤ x.natAbs := by rw [Int.natAbs_tdiv]; exact Nat.div_le_self _ _
  omega
theorem le_mul_pos {k m : Int} (hk : 0 ≤ k) (hm : 1 ≤ m) : k ≤ k * m := by
  have := Int.mul_le_mul_of_nonneg_left hm hk
  omega
theorem r8_linear (W w : World) (H : Chunk) (F : List Chunk) (n0 m0 sh : Int) (hS : Sat W w (H :: F)) :
  Calls Try.prog 62 #[I n0, I m0, I sh] w fun e w' => ∃ (az : Option Addr) (nz kz : Nat) (zs : List Tap) (cd : Int) (c G : Chunk), e = .returned (.tuple #[.slice az nz kz, I cd]) ∧ OwnT encTap 94 2 az nz kz zs c ∧ (∀ z ∈ zs, Tap.Ok [G] z) ∧ ((zs.length : Int) ≤ max m0 0 ∧ ∀ z ∈ zs, tapB z) ∧ Sat W w' (G :: c :: H :: F) := by
 refine callsE (n := 80) Try.func62 rfl rfl (Nat.le_of_ble_eq_true rfl) ?_
 refine sR <| pu2 <| nT <| seqE <| sR <| pu1 ?_
 refine sF #[I n0] Try.call76 (Calls.mono (r8_side W _ _ [] n0 (Sat.flat hS)) ?_)
 rintro _ _ ⟨rfl, h0⟩
 refine ⟨_, rfl, ?_⟩
 have d0 := Sat.unflat h0; clear h0
 change Sat _ _ (H :: F) at d0
 refine pu2 ?_
 rcases Classical.em ((1 : Int) ≤ n0 ∧ n0 ≤ (128 : Int)) with e0 | e0
 rotate_left
 ·refine sFix 18 _ true (congrArg Bool.not (decide_eq_false e0)) ?_
  refine pu4 <| nT <| cTt <| sR <| pu2 <| nT ?_
  refine retE (thenK_r <| ?_)
  refine retT [.slice none 0 0, I 8] ?_
  change Sat _ _ (H :: F) at d0
  have y0 : Sat W _ ([] :: [] :: H :: F) := Sat.nilc (Sat.nilc d0)
  exact ⟨none, 0, 0, [], _, [], [], rfl, OwnT.nil fR, (fun z hz => by cases hz), ⟨by simp; omega, (fun z hz => by cases hz)⟩, y0⟩
 refine sFix 18 _ false (congrArg Bool.not (decide_eq_true e0)) ?_
 refine pu1 <| gY ?_
 refine sF #[I m0] Try.call76 (Calls.mono (r8_side W _ _ [] m0 (Sat.flat d0)) ?_)
 rintro _ _ ⟨rfl, i0⟩
 refine ⟨_, rfl, ?_⟩
 have a0 := Sat.unflat i0; clear i0
 change Sat _ _ (H :: F) at a0
 refine pu2 <| nT ?_
 rcases Classical.em ((1 : Int) ≤ m0 ∧ m0 ≤ (128 : Int)) with f0 | f0
 rotate_left
 ·refine cT _ (congrArg Bool.not (decide_eq_false f0)) ?_
  refine sR <| pu2 <| nT ?_
  refine retE (thenK_r <| ?_)
  refine retT [.slice none 0 0, I 8] ?_
  change Sat _ _ (H :: F) at a0
  have z0 : Sat W _ ([] :: [] :: H :: F) := Sat.nilc (Sat.nilc a0)
  exact ⟨none, 0, 0, [], _, [], [], rfl, OwnT.nil fR, (fun z hz => by cases hz), ⟨by simp; omega, (fun z hz => by cases hz)⟩, z0⟩
 refine cF _ (congrArg Bool.not (decide_eq_true f0)) ?_
 refine kT <| seqE <| sR <| pu3 ?_
 by_cases j0 : (sh : Int) < 0
 ·refine sFix 25 _ true (decide_eq_true j0) ?_
  refine pu3 <| nT <| cTt <| sR <| pu2 <| nT ?_
  refine retE (thenK_r <| ?_)
  refine retT [.slice none 0 0, I 2] ?_
  change Sat _ _ (H :: F) at a0
  have a1 : Sat W _ ([] :: [] :: H :: F) := Sat.nilc (Sat.nilc a0)
  exact ⟨none, 0, 0, [], _, [], [], rfl, OwnT.nil fR, (fun z hz => by cases hz), ⟨by simp; omega, (fun z hz => by cases hz)⟩, a1⟩
 refine sFix 25 _ false (decide_eq_false j0) ?_
 refine pu3 <| nT ?_
 by_cases k0 : (sh : Int) > 14
 ·refine cT _ (decide_eq_true k0) ?_
  refine sR <| pu2 <| nT ?_
  refine retE (thenK_r <| ?_)
  refine retT [.slice none 0 0, I 2] ?_
  change Sat _ _ (H :: F) at a0
  have b1 : Sat W _ ([] :: [] :: H :: F) := Sat.nilc (Sat.nilc a0)
  exact ⟨none, 0, 0, [], _, [], [], rfl, OwnT.nil fR, (fun z hz => by cases hz), ⟨by simp; omega, (fun z hz => by cases hz)⟩, b1⟩
 refine cF _ (decide_eq_false k0) ?_
 refine kT <| sR <| pu1 <| nT <| seqE <| sR <| pu1 <| nT <| blockE ?_
 have l0 := Sat.nilc a0
 have c1 := OwnT.nil (enc := encTap) (E := 94) (sz := 2) fR
 change Sat _ _ ([] :: H :: F) at l0
 have o0 := Sat.nilc l0
 change Sat _ _ ([] :: [] :: H :: F) at o0
 refine loopE (γ := Nat × (List Tap) × (Option Addr) × Nat × Nat × Chunk × Chunk) (fun ⟨i, zs, azs, nzs, kzs, czs, Gzs⟩ ρ w => AllAt ρ [(0, I n0), (1, I m0), (2, I sh), (6, .slice none 0 0), (7, I 0), (15, I n0), (16, .bool (decide ((1 : Int) ≤ n0 ∧ n0 ≤ (128 : Int)))), (17, .bool (!decide ((1 : Int) ≤ n0 ∧ n0 ≤ (128 : Int)))), (18, .bool false), (19, I m0), (20, .bool (decide ((1 : Int) ≤ m0 ∧ m0 ≤ (128 : Int)))), (21, .bool (!decide ((1 : Int) ≤ m0 ∧ m0 ≤ (128 : Int)))), (22, .bool (!decide ((1 : Int) ≤ m0 ∧ m0 ≤ (128 : Int)))), (23, I sh), (24, .bool (decide ((sh : Int) < 0))), (25, .bool false), (26, I sh), (27, .bool (decide ((sh : Int) > 14))), (28, .bool (decide ((sh : Int) > 14))), (9, I ((i : Nat) : Int)), (8, .slice azs nzs kzs)] ∧ Sat W w (Gzs :: czs :: H :: F) ∧ i ≤ m0.toNat ∧ (∀ z ∈ zs, tapB z) ∧ (zs.length = i) ∧ OwnT encTap 94 2 azs nzs kzs zs czs ∧ (∀ z ∈ zs, Tap.Ok [Gzs] z)) (fun ⟨i, zs, azs, nzs, kzs, czs, Gzs⟩ => m0.toNat - i) (0, [], none, 0, 0, [], []) ⟨alA, o0, om, (by intro z hz; cases hz), by rfl, c1, (by intro z hz; cases hz)⟩ ?_
 skip
 rintro ⟨i, zs, azs, nzs, kzs, czs, Gzs⟩ ρ _ ⟨hA, g0, hi, hB, hzl, hOzs, hDzs⟩
 refine cAnchor hA (fun ρ => ?_)
 clear hA
 have hn_zs := hOzs.len; have hl_zs := hOzs.le
 refine seqE <| sR <| pu3 <| nT ?_
 by_cases p0 : (((i : Nat) : Int) : Int) < m0
 rotate_left
 ·refine cF _ (decide_eq_false p0) ?_
  refine exitE (xB <| ?_)
  refine thenK_n <| sR <| pu3 <| nT <| retE <| retT [.slice azs nzs kzs, I 0] ?_
  have q0 := (((g0.pick 2 rfl).pick 2 rfl).pick 2 rfl)
  change Sat _ _ (Gzs :: czs :: H :: F) at q0
  exact ⟨_, _, _, zs, _, _, _, rfl, hOzs, hDzs, ⟨om, hB⟩, q0⟩
 refine cT _ (decide_eq_true p0) ?_
 refine kT <| seqE <| blockE <| seqE ?_
 have hm1 := mul_bd (a := ((2 * ((i : Nat) : Int)) + 1)) (b := n0) (A := 257) (B := 128) om om
 refine regionE <| pu1 ?_
 refine sMul 2 ((i : Nat) : Int) ?_
 refine sAdd (2 * ((i : Nat) : Int)) 1 ?_
 refine pu1 ?_
 refine sMul ((2 * ((i : Nat) : Int)) + 1) n0 ?_
 refine pu1 ?_
 refine sSub (((2 * ((i : Nat) : Int)) + 1) * n0) m0 ?_
 refine pu1 ?_
 refine sMul 2 m0 ?_
 refine pu2 <| nT <| sR <| pu2 ?_
 refine sQuo ((((2 * ((i : Nat) : Int)) + 1) * n0) - m0) (2 * m0) ?_
 refine pu1 <| nT <| seqE <| seqE ?_
 have hq := Int.mul_tdiv_add_tmod ((((2 * ((i : Nat) : Int)) + 1) * n0) - m0) (2 * m0); have hq1 := Int.tmod_lt_of_pos ((((2 * ((i : Nat) : Int)) + 1) * n0) - m0) (by omega : 0 < (2 * m0)); have hq2 := Int.lt_tmod_of_pos ((((2 * ((i : Nat) : Int)) + 1) * n0) - m0) (by omega : 0 < (2 * m0)); have hq3 := Int.mul_comm (((((2 * ((i : Nat) : Int)) + 1) * n0) - m0).tdiv (2 * m0)) (2 * m0); have hq5 := tdiv_abs (x := ((((2 * ((i : Nat) : Int)) + 1) * n0) - m0)) (d := (2 * m0)) (A := 65536) om; have hq6 : (((((2 * ((i : Nat) : Int)) + 1) * n0) - m0).tdiv (2 * m0) - 1) * (2 * m0) = ((((2 * ((i : Nat) : Int)) + 1) * n0) - m0).tdiv (2 * m0) * (2 * m0) - (2 * m0) := by rw [Int.sub_mul, Int.one_mul]
 refine regionE <| pu2 ?_
 refine sMul (((((2 * ((i : Nat) : Int)) + 1) * n0) - m0).tdiv (2 * m0)) (2 * m0) ?_
 refine pu2 <| nT ?_
 by_cases r0 : (((((((2 * ((i : Nat) : Int)) + 1) * n0) - m0).tdiv (2 * m0)) * (2 * m0)) : Int) > ((((2 * ((i : Nat) : Int)) + 1) * n0) - m0)
 rotate_left
 ·refine cF _ (decide_eq_false r0) ?_
  refine kT <| sR <| pu1 ?_
  refine stepY (.int .u64 sh) rfl rfl (Y_conv (k := .i64) (a := sh) Try.underlying3 Try.underlying98 (wrapIn_u64 _ om) rfl kr) ?_
  refine stepY (I (2 ^ (sh).toNat)) rfl rfl (Y_shl1 (k' := .u64) sh rfl kr kr om) ?_
  refine pu1 <| nT <| seqE ?_
  have hp1 := pow2_pos sh.toNat; have hp2 := pow2_le (a := sh.toNat) (b := 14) om
  have hm2 := mul_abs (a := (2 * (((((2 * ((i : Nat) : Int)) + 1) * n0) - m0) - ((((((2 * ((i : Nat) : Int)) + 1) * n0) - m0).tdiv (2 * m0)) * (2 * m0))))) (b := (2 ^ (sh).toNat)) (A := 2048) (B := 16384) om om
  have hq7 := tdiv_abs (x := (((2 * (((((2 * ((i : Nat) : Int)) + 1) * n0) - m0) - ((((((2 * ((i : Nat) : Int)) + 1) * n0) - m0).tdiv (2 * m0)) * (2 * m0)))) * (2 ^ (sh).toNat)) + (2 * m0))) (d := (2 * (2 * m0))) (A := 67108864) om
  refine regionE <| pu3 ?_
  refine sMul (((((2 * ((i : Nat) : Int)) + 1) * n0) - m0).tdiv (2 * m0)) (2 * m0) ?_
  refine sSub ((((2 * ((i : Nat) : Int)) + 1) * n0) - m0) ((((((2 * ((i : Nat) : Int)) + 1) * n0) - m0).tdiv (2 * m0)) * (2 * m0)) ?_
  refine sMul 2 (((((2 * ((i : Nat) : Int)) + 1) * n0) - m0) - ((((((2 * ((i : Nat) : Int)) + 1) * n0) - m0).tdiv (2 * m0)) * (2 * m0))) ?_
  refine pu1 ?_
  refine sMul (2 * (((((2 * ((i : Nat) : Int)) + 1) * n0) - m0) - ((((((2 * ((i : Nat) : Int)) + 1) * n0) - m0).tdiv (2 * m0)) * (2 * m0)))) (2 ^ (sh).toNat) ?_
  refine pu1 ?_
  refine sAdd ((2 * (((((2 * ((i : Nat) : Int)) + 1) * n0) - m0) - ((((((2 * ((i : Nat) : Int)) + 1) * n0) - m0).tdiv (2 * m0)) * (2 * m0)))) * (2 ^ (sh).toNat)) (2 * m0) ?_
  refine pu1 ?_
  refine sMul 2 (2 * m0) ?_
  refine sQuo (((2 * (((((2 * ((i : Nat) : Int)) + 1) * n0) - m0) - ((((((2 * ((i : Nat) : Int)) + 1) * n0) - m0).tdiv (2 * m0)) * (2 * m0)))) * (2 ^ (sh).toNat)) + (2 * m0)) (2 * (2 * m0)) ?_
  refine pu1 <| nT <| regionE <| pu4 ?_
  refine sSub (2 ^ (sh).toNat) ((((2 * (((((2 * ((i : Nat) : Int)) + 1) * n0) - m0) - ((((((2 * ((i : Nat) : Int)) + 1) * n0) - m0).tdiv (2 * m0)) * (2 * m0)))) * (2 ^ (sh).toNat)) + (2 * m0)).tdiv (2 * (2 * m0))) ?_
  refine pu1 ?_
  refine sBS g0 #[I ((2 ^ (sh).toNat) - ((((2 * (((((2 * ((i : Nat) : Int)) + 1) * n0) - m0) - ((((((2 * ((i : Nat) : Int)) + 1) * n0) - m0).tdiv (2 * m0)) * (2 * m0)))) * (2 ^ (sh).toNat)) + (2 * m0)).tdiv (2 * (2 * m0)))), I ((((2 * (((((2 * ((i : Nat) : Int)) + 1) * n0) - m0) - ((((((2 * ((i : Nat) : Int)) + 1) * n0) - m0).tdiv (2 * m0)) * (2 * m0)))) * (2 ^ (sh).toNat)) + (2 * m0)).tdiv (2 * (2 * m0)))] Try.runUnderlying22 Try.sizeOf3 Try.zeroValue3 ?_
  intro b0 _ d1
  refine pu1 ?_
  refine sBS d1 #[I (((((2 * ((i : Nat) : Int)) + 1) * n0) - m0).tdiv (2 * m0)), .slice (At b0 0) 2 2] Try.runUnderlying58 Try.sizeOf94 Try.zeroValue94 ?_
  intro _ _ e1
  refine sApp (nb := 32) e1 hOzs 3 (RdT.blk (enc := encTap) (sz := 2) (xs := [(⟨(((((2 * ((i : Nat) : Int)) + 1) * n0) - m0).tdiv (2 * m0)), ⟨(At b0 0), 2, 2, [((2 ^ (sh).toNat) - ((((2 * (((((2 * ((i : Nat) : Int)) + 1) * n0) - m0) - ((((((2 * ((i : Nat) : Int)) + 1) * n0) - m0).tdiv (2 * m0)) * (2 * m0)))) * (2 ^ (sh).toNat)) + (2 * m0)).tdiv (2 * (2 * m0)))), ((((2 * (((((2 * ((i : Nat) : Int)) + 1) * n0) - m0) - ((((((2 * ((i : Nat) : Int)) + 1) * n0) - m0).tdiv (2 * m0)) * (2 * m0)))) * (2 ^ (sh).toNat)) + (2 * m0)).tdiv (2 * (2 * m0)))]⟩⟩ : Tap)]) fR 1 0 rfl rfl rfl om) Try.underlying58 (i := Try.t94) kr fR ?_
  intro f1 g1 s0 _ h1 t0
  try dsimp only [List.set, List.eraseIdx, Value.cells] at t0
  refine pu1 <| nB <| regionE <| pu1 ?_
  refine sAdd ((i : Nat) : Int) 1 ?_
  refine pu1 <| nT ?_
  have u0 := (((((t0.pick 4 rfl).pick 4 rfl).pick 4 rfl).pick 4 rfl).dropAt 4 rfl)
  try dsimp only [List.set, List.eraseIdx, Value.cells] at u0
  have i1 := (Sat.perm (cs' := ([(b0, .cells #[I ((2 ^ (sh).toNat) - ((((2 * (((((2 * ((i : Nat) : Int)) + 1) * n0) - m0) - ((((((2 * ((i : Nat) : Int)) + 1) * n0) - m0).tdiv (2 * m0)) * (2 * m0)))) * (2 ^ (sh).toNat)) + (2 * m0)).tdiv (2 * (2 * m0)))), I ((((2 * (((((2 * ((i : Nat) : Int)) + 1) * n0) - m0) - ((((((2 * ((i : Nat) : Int)) + 1) * n0) - m0).tdiv (2 * m0)) * (2 * m0)))) * (2 ^ (sh).toNat)) + (2 * m0)).tdiv (2 * (2 * m0)))] 3 (0, 0))] ++ Gzs) :: (s0 :: H :: F)) u0 (by simp))
  exact ⟨(i + 1, (zs ++ [(⟨(((((2 * ((i : Nat) : Int)) + 1) * n0) - m0).tdiv (2 * m0)), ⟨(At b0 0), 2, 2, [((2 ^ (sh).toNat) - ((((2 * (((((2 * ((i : Nat) : Int)) + 1) * n0) - m0) - ((((((2 * ((i : Nat) : Int)) + 1) * n0) - m0).tdiv (2 * m0)) * (2 * m0)))) * (2 ^ (sh).toNat)) + (2 * m0)).tdiv (2 * (2 * m0)))), ((((2 * (((((2 * ((i : Nat) : Int)) + 1) * n0) - m0) - ((((((2 * ((i : Nat) : Int)) + 1) * n0) - m0).tdiv (2 * m0)) * (2 * m0)))) * (2 ^ (sh).toNat)) + (2 * m0)).tdiv (2 * (2 * m0)))]⟩⟩ : Tap)]), f1, (nzs + 1), g1, s0, ([(b0, .cells #[I ((2 ^ (sh).toNat) - ((((2 * (((((2 * ((i : Nat) : Int)) + 1) * n0) - m0) - ((((((2 * ((i : Nat) : Int)) + 1) * n0) - m0).tdiv (2 * m0)) * (2 * m0)))) * (2 ^ (sh).toNat)) + (2 * m0)).tdiv (2 * (2 * m0)))), I ((((2 * (((((2 * ((i : Nat) : Int)) + 1) * n0) - m0) - ((((((2 * ((i : Nat) : Int)) + 1) * n0) - m0).tdiv (2 * m0)) * (2 * m0)))) * (2 ^ (sh).toNat)) + (2 * m0)).tdiv (2 * (2 * m0)))] 3 (0, 0))] ++ Gzs)), od, alA, i1, om, mem_snoc hB (show tapB (⟨(((((2 * ((i : Nat) : Int)) + 1) * n0) - m0).tdiv (2 * m0)), ⟨(At b0 0), 2, 2, [((2 ^ (sh).toNat) - ((((2 * (((((2 * ((i : Nat) : Int)) + 1) * n0) - m0) - ((((((2 * ((i : Nat) : Int)) + 1) * n0) - m0).tdiv (2 * m0)) * (2 * m0)))) * (2 ^ (sh).toNat)) + (2 * m0)).tdiv (2 * (2 * m0)))), ((((2 * (((((2 * ((i : Nat) : Int)) + 1) * n0) - m0) - ((((((2 * ((i : Nat) : Int)) + 1) * n0) - m0).tdiv (2 * m0)) * (2 * m0)))) * (2 ^ (sh).toNat)) + (2 * m0)).tdiv (2 * (2 * m0)))]⟩⟩ : Tap) from ⟨by unfold numB; dsimp only; omega, by simp, by intro z hz; simp only [List.mem_cons, List.not_mem_nil, or_false] at hz; unfold numB; omega⟩), by simp; omega, h1, (by
    intro z hz
    rcases List.mem_append.1 hz with h | h
    ·exact (hDzs z h).of_mem mS
    ·simp only [List.mem_singleton] at h; subst h; exact ⟨(RdT.blk (cs := [[(b0, .cells #[I ((2 ^ (sh).toNat) - ((((2 * (((((2 * ((i : Nat) : Int)) + 1) * n0) - m0) - ((((((2 * ((i : Nat) : Int)) + 1) * n0) - m0).tdiv (2 * m0)) * (2 * m0)))) * (2 ^ (sh).toNat)) + (2 * m0)).tdiv (2 * (2 * m0)))), I ((((2 * (((((2 * ((i : Nat) : Int)) + 1) * n0) - m0) - ((((((2 * ((i : Nat) : Int)) + 1) * n0) - m0).tdiv (2 * m0)) * (2 * m0)))) * (2 ^ (sh).toNat)) + (2 * m0)).tdiv (2 * (2 * m0)))] 3 (0, 0))]]) (enc := encI) (sz := 1) (xs := [((2 ^ (sh).toNat) - ((((2 * (((((2 * ((i : Nat) : Int)) + 1) * n0) - m0) - ((((((2 * ((i : Nat) : Int)) + 1) * n0) - m0).tdiv (2 * m0)) * (2 * m0)))) * (2 ^ (sh).toNat)) + (2 * m0)).tdiv (2 * (2 * m0)))), ((((2 * (((((2 * ((i : Nat) : Int)) + 1) * n0) - m0) - ((((((2 * ((i : Nat) : Int)) + 1) * n0) - m0).tdiv (2 * m0)) * (2 * m0)))) * (2 ^ (sh).toNat)) + (2 * m0)).tdiv (2 * (2 * m0)))]) fR 2 0 rfl rfl rfl om).of_mem mS⟩)⟩
 refine cT _ (decide_eq_true r0) ?_
 refine regionE <| pu1 ?_
 refine sSub (((((2 * ((i : Nat) : Int)) + 1) * n0) - m0).tdiv (2 * m0)) 1 ?_
 refine pu1 <| nT <| sR <| pu1 ?_
 refine stepY (.int .u64 sh) rfl rfl (Y_conv (k := .i64) (a := sh) Try.underlying3 Try.underlying98 (wrapIn_u64 _ om) rfl kr) ?_
 refine stepY (I (2 ^ (sh).toNat)) rfl rfl (Y_shl1 (k' := .u64) sh rfl kr kr om) ?_
 refine pu1 <| nT <| seqE ?_
 have hp1 := pow2_pos sh.toNat; have hp2 := pow2_le (a := sh.toNat) (b := 14) om
 have hm2 := mul_abs (a := (2 * (((((2 * ((i : Nat) : Int)) + 1) * n0) - m0) - (((((((2 * ((i : Nat) : Int)) + 1) * n0) - m0).tdiv (2 * m0)) - 1) * (2 * m0))))) (b := (2 ^ (sh).toNat)) (A := 2048) (B := 16384) om om
 have hq7 := tdiv_abs (x := (((2 * (((((2 * ((i : Nat) : Int)) + 1) * n0) - m0) - (((((((2 * ((i : Nat) : Int)) + 1) * n0) - m0).tdiv (2 * m0)) - 1) * (2 * m0)))) * (2 ^ (sh).toNat)) + (2 * m0))) (d := (2 * (2 * m0))) (A := 67108864) om
 refine regionE <| pu3 ?_
 refine sMul ((((((2 * ((i : Nat) : Int)) + 1) * n0) - m0).tdiv (2 * m0)) - 1) (2 * m0) ?_
 refine sSub ((((2 * ((i : Nat) : Int)) + 1) * n0) - m0) (((((((2 * ((i : Nat) : Int)) + 1) * n0) - m0).tdiv (2 * m0)) - 1) * (2 * m0)) ?_
 refine sMul 2 (((((2 * ((i : Nat) : Int)) + 1) * n0) - m0) - (((((((2 * ((i : Nat) : Int)) + 1) * n0) - m0).tdiv (2 * m0)) - 1) * (2 * m0))) ?_
 refine pu1 ?_
 refine sMul (2 * (((((2 * ((i : Nat) : Int)) + 1) * n0) - m0) - (((((((2 * ((i : Nat) : Int)) + 1) * n0) - m0).tdiv (2 * m0)) - 1) * (2 * m0)))) (2 ^ (sh).toNat) ?_
 refine pu1 ?_
 refine sAdd ((2 * (((((2 * ((i : Nat) : Int)) + 1) * n0) - m0) - (((((((2 * ((i : Nat) : Int)) + 1) * n0) - m0).tdiv (2 * m0)) - 1) * (2 * m0)))) * (2 ^ (sh).toNat)) (2 * m0) ?_
 refine pu1 ?_
 refine sMul 2 (2 * m0) ?_
 refine sQuo (((2 * (((((2 * ((i : Nat) : Int)) + 1) * n0) - m0) - (((((((2 * ((i : Nat) : Int)) + 1) * n0) - m0).tdiv (2 * m0)) - 1) * (2 * m0)))) * (2 ^ (sh).toNat)) + (2 * m0)) (2 * (2 * m0)) ?_
 refine pu1 <| nT <| regionE <| pu4 ?_
 refine sSub (2 ^ (sh).toNat) ((((2 * (((((2 * ((i : Nat) : Int)) + 1) * n0) - m0) - (((((((2 * ((i : Nat) : Int)) + 1) * n0) - m0).tdiv (2 * m0)) - 1) * (2 * m0)))) * (2 ^ (sh).toNat)) + (2 * m0)).tdiv (2 * (2 * m0))) ?_
 refine pu1 ?_
 refine sBS g0 #[I ((2 ^ (sh).toNat) - ((((2 * (((((2 * ((i : Nat) : Int)) + 1) * n0) - m0) - (((((((2 * ((i : Nat) : Int)) + 1) * n0) - m0).tdiv (2 * m0)) - 1) * (2 * m0)))) * (2 ^ (sh).toNat)) + (2 * m0)).tdiv (2 * (2 * m0)))), I ((((2 * (((((2 * ((i : Nat) : Int)) + 1) * n0) - m0) - (((((((2 * ((i : Nat) : Int)) + 1) * n0) - m0).tdiv (2 * m0)) - 1) * (2 * m0)))) * (2 ^ (sh).toNat)) + (2 * m0)).tdiv (2 * (2 * m0)))] Try.runUnderlying22 Try.sizeOf3 Try.zeroValue3 ?_
 intro c0 _ j1
 refine pu1 ?_
 refine sBS j1 #[I ((((((2 * ((i : Nat) : Int)) + 1) * n0) - m0).tdiv (2 * m0)) - 1), .slice (At c0 0) 2 2] Try.runUnderlying58 Try.sizeOf94 Try.zeroValue94 ?_
 intro _ _ k1
 refine sApp (nb := 32) k1 hOzs 3 (RdT.blk (enc := encTap) (sz := 2) (xs := [(⟨((((((2 * ((i : Nat) : Int)) + 1) * n0) - m0).tdiv (2 * m0)) - 1), ⟨(At c0 0), 2, 2, [((2 ^ (sh).toNat) - ((((2 * (((((2 * ((i : Nat) : Int)) + 1) * n0) - m0) - (((((((2 * ((i : Nat) : Int)) + 1) * n0) - m0).tdiv (2 * m0)) - 1) * (2 * m0)))) * (2 ^ (sh).toNat)) + (2 * m0)).tdiv (2 * (2 * m0)))), ((((2 * (((((2 * ((i : Nat) : Int)) + 1) * n0) - m0) - (((((((2 * ((i : Nat) : Int)) + 1) * n0) - m0).tdiv (2 * m0)) - 1) * (2 * m0)))) * (2 ^ (sh).toNat)) + (2 * m0)).tdiv (2 * (2 * m0)))]⟩⟩ : Tap)]) fR 1 0 rfl rfl rfl om) Try.underlying58 (i := Try.t94) kr fR ?_
 intro l1 m1 v0 _ n1 w0
 try dsimp only [List.set, List.eraseIdx, Value.cells] at w0
 refine pu1 <| nB <| regionE <| pu1 ?_
 refine sAdd ((i : Nat) : Int) 1 ?_
 refine pu1 <| nT ?_
 have x0 := (((((w0.pick 4 rfl).pick 4 rfl).pick 4 rfl).pick 4 rfl).dropAt 4 rfl)
 try dsimp only [List.set, List.eraseIdx, Value.cells] at x0
 have o1 := (Sat.perm (cs' := ([(c0, .cells #[I ((2 ^ (sh).toNat) - ((((2 * (((((2 * ((i : Nat) : Int)) + 1) * n0) - m0) - (((((((2 * ((i : Nat) : Int)) + 1) * n0) - m0).tdiv (2 * m0)) - 1) * (2 * m0)))) * (2 ^ (sh).toNat)) + (2 * m0)).tdiv (2 * (2 * m0)))), I ((((2 * (((((2 * ((i : Nat) : Int)) + 1) * n0) - m0) - (((((((2 * ((i : Nat) : Int)) + 1) * n0) - m0).tdiv (2 * m0)) - 1) * (2 * m0)))) * (2 ^ (sh).toNat)) + (2 * m0)).tdiv (2 * (2 * m0)))] 3 (0, 0))] ++ Gzs) :: (v0 :: H :: F)) x0 (by simp))
 exact ⟨(i + 1, (zs ++ [(⟨((((((2 * ((i : Nat) : Int)) + 1) * n0) - m0).tdiv (2 * m0)) - 1), ⟨(At c0 0), 2, 2, [((2 ^ (sh).toNat) - ((((2 * (((((2 * ((i : Nat) : Int)) + 1) * n0) - m0) - (((((((2 * ((i : Nat) : Int)) + 1) * n0) - m0).tdiv (2 * m0)) - 1) * (2 * m0)))) * (2 ^ (sh).toNat)) + (2 * m0)).tdiv (2 * (2 * m0)))), ((((2 * (((((2 * ((i : Nat) : Int)) + 1) * n0) - m0) - (((((((2 * ((i : Nat) : Int)) + 1) * n0) - m0).tdiv (2 * m0)) - 1) * (2 * m0)))) * (2 ^ (sh).toNat)) + (2 * m0)).tdiv (2 * (2 * m0)))]⟩⟩ : Tap)]), l1, (nzs + 1), m1, v0, ([(c0, .cells #[I ((2 ^ (sh).toNat) - ((((2 * (((((2 * ((i : Nat) : Int)) + 1) * n0) - m0) - (((((((2 * ((i : Nat) : Int)) + 1) * n0) - m0).tdiv (2 * m0)) - 1) * (2 * m0)))) * (2 ^ (sh).toNat)) + (2 * m0)).tdiv (2 * (2 * m0)))), I ((((2 * (((((2 * ((i : Nat) : Int)) + 1) * n0) - m0) - (((((((2 * ((i : Nat) : Int)) + 1) * n0) - m0).tdiv (2 * m0)) - 1) * (2 * m0)))) * (2 ^ (sh).toNat)) + (2 * m0)).tdiv (2 * (2 * m0)))] 3 (0, 0))] ++ Gzs)), od, alA, o1, om, mem_snoc hB (show tapB (⟨((((((2 * ((i : Nat) : Int)) + 1) * n0) - m0).tdiv (2 * m0)) - 1), ⟨(At c0 0), 2, 2, [((2 ^ (sh).toNat) - ((((2 * (((((2 * ((i : Nat) : Int)) + 1) * n0) - m0) - (((((((2 * ((i : Nat) : Int)) + 1) * n0) - m0).tdiv (2 * m0)) - 1) * (2 * m0)))) * (2 ^ (sh).toNat)) + (2 * m0)).tdiv (2 * (2 * m0)))), ((((2 * (((((2 * ((i : Nat) : Int)) + 1) * n0) - m0) - (((((((2 * ((i : Nat) : Int)) + 1) * n0) - m0).tdiv (2 * m0)) - 1) * (2 * m0)))) * (2 ^ (sh).toNat)) + (2 * m0)).tdiv (2 * (2 * m0)))]⟩⟩ : Tap) from ⟨by unfold numB; dsimp only; omega, by simp, by intro z hz; simp only [List.mem_cons, List.not_mem_nil, or_false] at hz; unfold numB; omega⟩), by simp; omega, n1, (by
   intro z hz
   rcases List.mem_append.1 hz with h | h
   ·exact (hDzs z h).of_mem mS
   ·simp only [List.mem_singleton] at h; subst h; exact ⟨(RdT.blk (cs := [[(c0, .cells #[I ((2 ^ (sh).toNat) - ((((2 * (((((2 * ((i : Nat) : Int)) + 1) * n0) - m0) - (((((((2 * ((i : Nat) : Int)) + 1) * n0) - m0).tdiv (2 * m0)) - 1) * (2 * m0)))) * (2 ^ (sh).toNat)) + (2 * m0)).tdiv (2 * (2 * m0)))), I ((((2 * (((((2 * ((i : Nat) : Int)) + 1) * n0) - m0) - (((((((2 * ((i : Nat) : Int)) + 1) * n0) - m0).tdiv (2 * m0)) - 1) * (2 * m0)))) * (2 ^ (sh).toNat)) + (2 * m0)).tdiv (2 * (2 * m0)))] 3 (0, 0))]]) (enc := encI) (sz := 1) (xs := [((2 ^ (sh).toNat) - ((((2 * (((((2 * ((i : Nat) : Int)) + 1) * n0) - m0) - (((((((2 * ((i : Nat) : Int)) + 1) * n0) - m0).tdiv (2 * m0)) - 1) * (2 * m0)))) * (2 ^ (sh).toNat)) + (2 * m0)).tdiv (2 * (2 * m0)))), ((((2 * (((((2 * ((i : Nat) : Int)) + 1) * n0) - m0) - (((((((2 * ((i : Nat) : Int)) + 1) * n0) - m0).tdiv (2 * m0)) - 1) * (2 * m0)))) * (2 ^ (sh).toNat)) + (2 * m0)).tdiv (2 * (2 * m0)))]) fR 2 0 rfl rfl rfl om).of_mem mS⟩)⟩
theorem r8_box (W w : World) (H : Chunk) (F : List Chunk) (n0 m0 sh : Int) (hS : Sat W w (H :: F)) :
  Calls Try.prog 63 #[I n0, I m0, I sh] w fun e w' => ∃ (az : Option Addr) (nz kz : Nat) (zs : List Tap) (cd : Int) (c G : Chunk), e = .returned (.tuple #[.slice az nz kz, I cd]) ∧ OwnT encTap 94 2 az nz kz zs c ∧ (∀ z ∈ zs, Tap.Ok [G] z) ∧ ((zs.length : Int) ≤ max m0 0 ∧ ∀ z ∈ zs, tapB z) ∧ Sat W w' (G :: c :: H :: F) := by
 refine callsE (n := 83) Try.func63 rfl rfl (Nat.le_of_ble_eq_true rfl) ?_
 refine sR <| pu2 <| nT <| seqE <| sR <| pu1 ?_
 refine sF #[I n0] Try.call76 (Calls.mono (r8_side W _ _ [] n0 (Sat.flat hS)) ?_)
 rintro _ _ ⟨rfl, q0⟩
 refine ⟨_, rfl, ?_⟩
 have e0 := Sat.unflat q0; clear q0
 change Sat _ _ (H :: F) at e0
 refine pu2 ?_
 rcases Classical.em ((1 : Int) ≤ n0 ∧ n0 ≤ (128 : Int)) with f0 | f0
 rotate_left
 ·refine sFix 18 _ true (congrArg Bool.not (decide_eq_false f0)) ?_
  refine pu4 <| nT <| cTt <| sR <| pu2 <| nT ?_
  refine retE (thenK_r <| ?_)
  refine retT [.slice none 0 0, I 8] ?_
  change Sat _ _ (H :: F) at e0
  have k1 : Sat W _ ([] :: [] :: H :: F) := Sat.nilc (Sat.nilc e0)
  exact ⟨none, 0, 0, [], _, [], [], rfl, OwnT.nil fR, (fun z hz => by cases hz), ⟨by simp; omega, (fun z hz => by cases hz)⟩, k1⟩
 refine sFix 18 _ false (congrArg Bool.not (decide_eq_true f0)) ?_
 refine pu1 <| gY ?_
 refine sF #[I m0] Try.call76 (Calls.mono (r8_side W _ _ [] m0 (Sat.flat e0)) ?_)
 rintro _ _ ⟨rfl, r0⟩
 refine ⟨_, rfl, ?_⟩
 have a0 := Sat.unflat r0; clear r0
 change Sat _ _ (H :: F) at a0
 refine pu2 <| nT ?_
 rcases Classical.em ((1 : Int) ≤ m0 ∧ m0 ≤ (128 : Int)) with g0 | g0
 rotate_left
 ·refine cT _ (congrArg Bool.not (decide_eq_false g0)) ?_
  refine sR <| pu2 <| nT ?_
  refine retE (thenK_r <| ?_)
  refine retT [.slice none 0 0, I 8] ?_
  change Sat _ _ (H :: F) at a0
  have l1 : Sat W _ ([] :: [] :: H :: F) := Sat.nilc (Sat.nilc a0)
  exact ⟨none, 0, 0, [], _, [], [], rfl, OwnT.nil fR, (fun z hz => by cases hz), ⟨by simp; omega, (fun z hz => by cases hz)⟩, l1⟩
 refine cF _ (congrArg Bool.not (decide_eq_true g0)) ?_
 refine kT <| seqE <| sR <| pu3 ?_
 by_cases s0 : (sh : Int) < 0
 ·refine sFix 25 _ true (decide_eq_true s0) ?_
  refine pu3 <| nT <| cTt <| sR <| pu2 <| nT ?_
  refine retE (thenK_r <| ?_)
  refine retT [.slice none 0 0, I 2] ?_
  change Sat _ _ (H :: F) at a0
  have m1 : Sat W _ ([] :: [] :: H :: F) := Sat.nilc (Sat.nilc a0)
  exact ⟨none, 0, 0, [], _, [], [], rfl, OwnT.nil fR, (fun z hz => by cases hz), ⟨by simp; omega, (fun z hz => by cases hz)⟩, m1⟩
 refine sFix 25 _ false (decide_eq_false s0) ?_
 refine pu3 <| nT ?_
 by_cases t0 : (sh : Int) > 14
 ·refine cT _ (decide_eq_true t0) ?_
  refine sR <| pu2 <| nT ?_
  refine retE (thenK_r <| ?_)
  refine retT [.slice none 0 0, I 2] ?_
  change Sat _ _ (H :: F) at a0
  have n1 : Sat W _ ([] :: [] :: H :: F) := Sat.nilc (Sat.nilc a0)
  exact ⟨none, 0, 0, [], _, [], [], rfl, OwnT.nil fR, (fun z hz => by cases hz), ⟨by simp; omega, (fun z hz => by cases hz)⟩, n1⟩
 refine cF _ (decide_eq_false t0) ?_
 refine kT <| sR <| pu1 <| nT <| seqE <| sR <| pu1 <| nT <| blockE ?_
 have u0 := Sat.nilc a0
 have o1 := OwnT.nil (enc := encTap) (E := 94) (sz := 2) fR
 change Sat _ _ ([] :: H :: F) at u0
 have v0 := Sat.nilc u0
 change Sat _ _ ([] :: [] :: H :: F) at v0
 refine loopE (γ := Nat × (List Tap) × (Option Addr) × Nat × Nat × Chunk × Chunk) (fun ⟨i, zs, azs, nzs, kzs, czs, Gzs⟩ ρ w => AllAt ρ [(0, I n0), (1, I m0), (2, I sh), (15, I n0), (16, .bool (decide ((1 : Int) ≤ n0 ∧ n0 ≤ (128 : Int)))), (17, .bool (!decide ((1 : Int) ≤ n0 ∧ n0 ≤ (128 : Int)))), (18, .bool false), (19, I m0), (20, .bool (decide ((1 : Int) ≤ m0 ∧ m0 ≤ (128 : Int)))), (21, .bool (!decide ((1 : Int) ≤ m0 ∧ m0 ≤ (128 : Int)))), (22, .bool (!decide ((1 : Int) ≤ m0 ∧ m0 ≤ (128 : Int)))), (23, I sh), (24, .bool (decide ((sh : Int) < 0))), (25, .bool false), (26, I sh), (27, .bool (decide ((sh : Int) > 14))), (28, .bool (decide ((sh : Int) > 14))), (9, I ((i : Nat) : Int)), (8, .slice azs nzs kzs)] ∧ Sat W w (Gzs :: czs :: H :: F) ∧ i ≤ m0.toNat ∧ (∀ z ∈ zs, tapB z) ∧ (zs.length = i) ∧ OwnT encTap 94 2 azs nzs kzs zs czs ∧ (∀ z ∈ zs, Tap.Ok [Gzs] z)) (fun ⟨i, zs, azs, nzs, kzs, czs, Gzs⟩ => m0.toNat - i) (0, [], none, 0, 0, [], []) ⟨alA, v0, om, (by intro z hz; cases hz), by rfl, o1, (by intro z hz; cases hz)⟩ ?_
 skip
 rintro ⟨i, zs, azs, nzs, kzs, czs, Gzs⟩ ρ _ ⟨hA, w0, hi, hB, hzl, hOzs, hDzs⟩
 refine cAnchor hA (fun ρ => ?_)
 clear hA
 have hn_zs := hOzs.len; have hl_zs := hOzs.le
 refine seqE <| sR <| pu3 <| nT ?_
 by_cases x0 : (((i : Nat) : Int) : Int) < m0
 rotate_left
 ·refine cF _ (decide_eq_false x0) ?_
  refine exitE (xB <| ?_)
  refine thenK_n <| sR <| pu3 <| nT <| retE <| retT [.slice azs nzs kzs, I 0] ?_
  have y0 := (((w0.pick 2 rfl).pick 2 rfl).pick 2 rfl)
  change Sat _ _ (Gzs :: czs :: H :: F) at y0
  exact ⟨_, _, _, zs, _, _, _, rfl, hOzs, hDzs, ⟨om, hB⟩, y0⟩
 refine cT _ (decide_eq_true x0) ?_
 refine kT <| seqE <| blockE <| seqE ?_
 have hm1 := mul_bd (a := ((i : Nat) : Int)) (b := n0) (A := 128) (B := 128) om om; have hm2 : (((i : Nat) : Int) + 1) * n0 = ((i : Nat) : Int) * n0 + n0 := by rw [Int.add_mul, Int.one_mul]
 refine regionE <| pu2 ?_
 refine sMul ((i : Nat) : Int) n0 ?_
 refine pu1 ?_
 refine sAdd ((i : Nat) : Int) 1 ?_
 refine pu1 ?_
 refine sMul (((i : Nat) : Int) + 1) n0 ?_
 refine pu2 <| nT <| sR <| pu2 ?_
 refine sQuo (((i : Nat) : Int) * n0) m0 ?_
 refine pu1 ?_
 refine sAlloc w0 Try.zeroValue94 ?_
 intro h0 _ p1
 refine sTw p1 0 [I ((((i : Nat) : Int) * n0).tdiv m0), .slice none 0 0] Try.sizeOf94 ?_
 intro _ i0
 try dsimp only [List.set, List.eraseIdx, Value.cells] at i0
 refine nT <| seqE ?_
 have hq := Int.mul_tdiv_add_tmod (((i : Nat) : Int) * n0) m0; have hq1 := Int.tmod_lt_of_pos (((i : Nat) : Int) * n0) (by omega : 0 < m0); have hq2 := Int.tmod_nonneg m0 (by omega : 0 ≤ (((i : Nat) : Int) * n0)); have hq3 := Int.mul_comm ((((i : Nat) : Int) * n0).tdiv m0) m0; have hq5 := tdiv_bd (a := (((i : Nat) : Int) * n0)) (b := m0) (A := 16384) om om
 refine regionE <| pu1 <| nT <| seqE <| sR <| pu1 ?_
 refine sL i0 0 0 (I ((((i : Nat) : Int) * n0).tdiv m0)) (Try.isAgg3 _) ?_
 refine pu1 <| nT <| blockE ?_
 have z0 := Sat.nilc i0
 have q1 := OwnT.nil (enc := encI) (E := 3) (sz := 1) fR
 try dsimp only [List.set, List.eraseIdx, Value.cells] at z0
 refine loopE (γ := Nat × Int × (List Int) × (Option Addr) × Nat × Nat × Chunk) (fun ⟨u, kk, ps, aps, nps, kps, cps⟩ ρ w => AllAt ρ [(0, I n0), (1, I m0), (2, I sh), (15, I n0), (16, .bool (decide ((1 : Int) ≤ n0 ∧ n0 ≤ (128 : Int)))), (17, .bool (!decide ((1 : Int) ≤ n0 ∧ n0 ≤ (128 : Int)))), (18, .bool false), (19, I m0), (20, .bool (decide ((1 : Int) ≤ m0 ∧ m0 ≤ (128 : Int)))), (21, .bool (!decide ((1 : Int) ≤ m0 ∧ m0 ≤ (128 : Int)))), (22, .bool (!decide ((1 : Int) ≤ m0 ∧ m0 ≤ (128 : Int)))), (23, I sh), (24, .bool (decide ((sh : Int) < 0))), (25, .bool false), (26, I sh), (27, .bool (decide ((sh : Int) > 14))), (28, .bool (decide ((sh : Int) > 14))), (9, I ((i : Nat) : Int)), (8, .slice azs nzs kzs), (29, I ((i : Nat) : Int)), (30, I m0), (31, .bool (decide ((((i : Nat) : Int) : Int) < m0))), (34, I ((i : Nat) : Int)), (35, I n0), (36, I (((i : Nat) : Int) * n0)), (37, I ((i : Nat) : Int)), (38, I (((i : Nat) : Int) + 1)), (39, I n0), (40, I ((((i : Nat) : Int) + 1) * n0)), (10, I (((i : Nat) : Int) * n0)), (11, I ((((i : Nat) : Int) + 1) * n0)), (41, I (((i : Nat) : Int) * n0)), (42, I m0), (43, I ((((i : Nat) : Int) * n0).tdiv m0)), (44, .agg #[I ((((i : Nat) : Int) * n0).tdiv m0), .slice none 0 0]), (12, Pt h0 0), (45, Pt h0 0), (46, I ((((i : Nat) : Int) * n0).tdiv m0)), (14, I kk), (13, .slice aps nps kps)] ∧ Sat W w (cps :: [(h0, .cells #[I ((((i : Nat) : Int) * n0).tdiv m0), .slice none 0 0] 94 (0, 0))] :: Gzs :: czs :: H :: F) ∧ u ≤ 20000 ∧ (∀ z ∈ ps, 1 ≤ z ∧ z ≤ 16384) ∧ ((u : Int) + ((((i : Nat) : Int) * n0).tdiv m0) = kk ∧ (((i : Nat) : Int) * n0) < kk * m0 + m0 ∧ kk * m0 ≤ (((i : Nat) : Int) * n0) + n0 + m0 ∧ (u = 0 → kk * m0 ≤ (((i : Nat) : Int) * n0))) ∧ (ps.length = u) ∧ OwnT encI 3 1 aps nps kps ps cps) (fun ⟨u, kk, ps, aps, nps, kps, cps⟩ => 20000 - u) (0, ((((i : Nat) : Int) * n0).tdiv m0), [], none, 0, 0, []) ⟨alA, z0, om, (by intro z hz; cases hz), om, by rfl, q1⟩ ?_
 skip
 rintro ⟨u, kk, ps, aps, nps, kps, cps⟩ ρ _ ⟨hA, j0, hu, hP, hk, hpl, hOps⟩
 refine cAnchor hA (fun ρ => ?_)
 clear hA
 have hn_ps := hOps.len; have hl_ps := hOps.le
 refine seqE <| seqE ?_
 have hkm := le_mul_pos (k := kk) (m := m0) om om; have hkm1 : (kk + 1) * m0 = kk * m0 + m0 := by rw [Int.add_mul, Int.one_mul]
 refine regionE <| pu2 ?_
 refine sMul kk m0 ?_
 refine pu2 <| nT ?_
 by_cases a1 : ((kk * m0) : Int) < ((((i : Nat) : Int) + 1) * n0)
 ·refine cT _ (decide_eq_true a1) ?_
  refine kT <| seqE <| blockE <| regionE <| pu3 ?_
  refine sAdd kk 1 ?_
  refine pu1 ?_
  refine sMul (kk + 1) m0 ?_
  refine stepY (I (min ((((i : Nat) : Int) + 1) * n0) ((kk + 1) * m0))) rfl rfl (Y_min2 ((((i : Nat) : Int) + 1) * n0) ((kk + 1) * m0) rfl rfl kr kr) ?_
  refine pu3 ?_
  refine sMul kk m0 ?_
  refine stepY (I (max (((i : Nat) : Int) * n0) (kk * m0))) rfl rfl (Y_max2 (((i : Nat) : Int) * n0) (kk * m0) rfl rfl kr kr) ?_
  refine sSub (min ((((i : Nat) : Int) + 1) * n0) ((kk + 1) * m0)) (max (((i : Nat) : Int) * n0) (kk * m0)) ?_
  refine sBS j0 #[I ((min ((((i : Nat) : Int) + 1) * n0) ((kk + 1) * m0)) - (max (((i : Nat) : Int) * n0) (kk * m0)))] Try.runUnderlying22 Try.sizeOf3 Try.zeroValue3 ?_
  intro _ _ r1
  refine sApp (nb := 8) r1 hOps 1 (RdT.blk (enc := encI) (sz := 1) (xs := [((min ((((i : Nat) : Int) + 1) * n0) ((kk + 1) * m0)) - (max (((i : Nat) : Int) * n0) (kk * m0)))]) fR 1 0 rfl rfl rfl om) Try.underlying22 (i := Try.t3) kr fR ?_
  intro s1 t1 u1 _ v1 b1
  try dsimp only [List.set, List.eraseIdx, Value.cells] at b1
  refine pu1 <| nB <| regionE <| pu1 ?_
  refine sAdd kk 1 ?_
  refine pu1 <| nT ?_
  have c1 := ((((((b1.pick 5 rfl).pick 5 rfl).pick 5 rfl).pick 5 rfl).pick 5 rfl).dropAt 5 rfl)
  try dsimp only [List.set, List.eraseIdx, Value.cells] at c1
  exact ⟨(u + 1, (kk + 1), (ps ++ [((min ((((i : Nat) : Int) + 1) * n0) ((kk + 1) * m0)) - (max (((i : Nat) : Int) * n0) (kk * m0)))]), s1, (nps + 1), t1, u1), od, alA, c1, om, mem_snoc hP om, om, by simp; omega, v1⟩
 refine cF _ (decide_eq_false a1) ?_
 refine exitE (xB <| ?_)
 refine thenK_n <| seqE <| sR <| pu3 <| nT ?_
 by_cases d1 : (((nps : Nat) : Int) : Int) > 8
 ·refine cT _ (decide_eq_true d1) ?_
  refine sR <| pu2 <| nT ?_
  refine retE (tR <| thenK_r <| tR <| thenK_r <| ?_)
  refine retT [.slice none 0 0, I 9] ?_
  have e1 := (((((j0.pick 4 rfl).dropAt 1 rfl).dropAt 1 rfl).dropAt 1 rfl).dropAt 1 rfl)
  change Sat _ _ (H :: F) at e1
  have w1 : Sat W _ ([] :: [] :: H :: F) := Sat.nilc (Sat.nilc e1)
  exact ⟨none, 0, 0, [], _, [], [], rfl, OwnT.nil fR, (fun z hz => by cases hz), ⟨by simp; omega, (fun z hz => by cases hz)⟩, w1⟩
 refine cF _ (decide_eq_false d1) ?_
 refine kT <| seqE ?_
 have hp1 := pow2_pos sh.toNat; have hp2 := pow2_le (a := sh.toNat) (b := 14) om
 refine regionE <| pu1 ?_
 refine stepY (.int .u64 sh) rfl rfl (Y_conv (k := .i64) (a := sh) Try.underlying3 Try.underlying98 (wrapIn_u64 _ om) rfl kr) ?_
 refine stepY (I (2 ^ (sh).toNat)) rfl rfl (Y_shl1 (k' := .u64) sh rfl kr kr om) ?_
 refine pu1 ?_
 refine sF #[I (2 ^ (sh).toNat), .slice aps nps kps] Try.call77 (Calls.mono (r8_divide W _ _ [] (2 ^ (sh).toNat) _ _ _ ps (RdT.flat (hOps.rdAt 0 (by rfl))) om (fun z hz => by have := hP z hz; omega) om (Sat.flat j0)) ?_)
 rintro _ _ ⟨b0, c0, d0, k0, l0, rfl, x1, f1, g1⟩
 refine ⟨_, rfl, ?_⟩
 have h1 := Sat.unflat1 g1; clear g1
 try dsimp only [List.set, List.eraseIdx, Value.cells] at h1
 refine pu1 ?_
 refine sT1 h1 2 1 (.slice b0 c0 d0) #[I ((((i : Nat) : Int) * n0).tdiv m0), .slice b0 c0 d0] Try.sizeOf22 ?_
 intro _ o0
 try dsimp only [List.set, List.eraseIdx, Value.cells] at o0
 refine nT <| regionE <| pu1 ?_
 refine sLA o0 2 0 [I ((((i : Nat) : Int) * n0).tdiv m0), .slice b0 c0 d0] (Try.isAgg94 _) (Try.sizeOf94 _) ?_
 refine sBS o0 #[I ((((i : Nat) : Int) * n0).tdiv m0), .slice b0 c0 d0] Try.runUnderlying58 Try.sizeOf94 Try.zeroValue94 ?_
 intro _ _ y1
 refine sApp (nb := 32) y1 hOzs 5 (RdT.blk (enc := encTap) (sz := 2) (xs := [(⟨((((i : Nat) : Int) * n0).tdiv m0), ⟨b0, c0, d0, l0⟩⟩ : Tap)]) fR 1 0 rfl rfl rfl om) Try.underlying58 (i := Try.t94) kr fR ?_
 intro z1 a2 p0 _ b2 i1
 try dsimp only [List.set, List.eraseIdx, Value.cells] at i1
 refine pu1 <| nB <| regionE <| pu1 ?_
 refine sAdd ((i : Nat) : Int) 1 ?_
 refine pu1 <| nT ?_
 have j1 := (((((((i1.pick 6 rfl).pick 6 rfl).pick 6 rfl).pick 4 rfl).dropAt 4 rfl).dropAt 4 rfl).dropAt 4 rfl)
 change Sat _ _ (k0 :: Gzs :: p0 :: H :: F) at j1
 have c2 := (Sat.perm (cs' := (k0 ++ Gzs) :: (p0 :: H :: F)) j1 (by simp))
 exact ⟨(i + 1, (zs ++ [(⟨((((i : Nat) : Int) * n0).tdiv m0), ⟨b0, c0, d0, l0⟩⟩ : Tap)]), z1, (nzs + 1), a2, p0, (k0 ++ Gzs)), od, alA, c2, om, mem_snoc hB (show tapB (⟨((((i : Nat) : Int) * n0).tdiv m0), ⟨b0, c0, d0, l0⟩⟩ : Tap) from ⟨by unfold numB; dsimp only; omega, by have := f1.1; dsimp only; omega, f1.2⟩), by simp; omega, b2, (by
   intro z hz
   rcases List.mem_append.1 hz with h | h
   ·exact (hDzs z h).of_mem mS
   ·simp only [List.mem_singleton] at h; subst h; exact ⟨x1.of_mem mS⟩)⟩
end Go.Proofs.Ytcddcpaodcjecaa
