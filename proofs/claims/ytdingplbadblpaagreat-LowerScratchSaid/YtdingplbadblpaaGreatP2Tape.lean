import Derived.Test.YtdingplbadblpaaGreatP2Short
import Derived.Test.YtdingplbadblpaaGreatProg
import Derived.Test.YtdingplbadblpaaGreatP2RefS
import Derived.Test.YtdingplbadblpaaGreatP2Tri
namespace Go.Proofs.YtdingplbadblpaaGreat
open Go Go.E
set_option linter.unusedVariables false
set_option linter.unusedSimpArgs false
set_option linter.unnecessarySimpa false
set_option maxRecDepth 100000
set_option maxHeartbeats 2000000
variable {W w : World} {H : Chunk} {F : List Chunk}
-- squeezed
theorem tape_new {cs : List Chunk} (a : Option Addr) (n k : Nat) (hS : Sat W w cs) :
    Calls Tryz.prog 11 #[.slice a n k] w fun e w' => ∃ p : Nat, e = .returned (.pointer (some ⟨p, 0, none⟩)) ∧ Sat W w' ([(p, .cells #[.slice a n k, .int .i64 0] 85 (0, 0))] :: cs) := by
  refine callsA 6 Tryz.func11 rfl ?_
  refine seqE <| regionE <| pu1 <| nilO <| thenK_n <| seqE <| regionE <| pu2 ?_
  refine sBox hS (.agg #[.slice a n k, .int .i64 0]) #[.slice a n k, .int .i64 0] ?_
  intro b_1 w_2 hS_3
  refine pu1 <| nilO <| thenK_n <| retE <| retT [.pointer (some ⟨b_1, 0, none⟩)] <| ?_
  exact ⟨_, rfl, hS_3⟩

theorem tmod_bd (v n : Int) (h : 0 < n) : -n < v.tmod n ∧ v.tmod n < n := by
  have h1 := Int.tmod_lt_of_pos v h
  have h2 := Int.lt_tmod_of_pos v h
  omega
theorem mod_ok {cs : List Chunk} (v n : Int) (hn : 0 < n) (hn2 : n ≤ 4611686018427387904) (hS : Sat W w cs) :
  Calls Tryz.prog 15 #[I v, I n] w fun e w' => ∃ r : Int, e = .returned (I r) ∧ (0 ≤ r ∧ r < n) ∧ Sat W w' cs := by
 have hm := tmod_bd v n hn
 refine callsA 15 Tryz.func15 rfl ?_
 refine sR <| pu1 <| nT <| sR <| pu2 ?_
 refine sRem v n ?_
 refine pu1 <| nT <| seqE <| sR <| pu2 <| nT ?_
 refine cD ((v.tmod n) < 0) (fun a0 => ?_) (fun a0 => ?_)
 rotate_left
 ·refine kT <| sR <| pu2 <| nT <| retE <| retT [I (v.tmod n)] ?_
  exact ⟨_, rfl, om, hS⟩
 refine regionE <| pu2 ?_
 refine sAdd (v.tmod n) n ?_
 refine pu1 <| nT <| sR <| pu2 <| nT <| retE <| retT [I ((v.tmod n) + n)] ?_
 exact ⟨_, rfl, om, hS⟩
theorem tape_next {p : Nat} {a : Option Addr} {n k : Nat} {i : Int} {xs : List Int} (hR : RdT encI 1 [H] a n k xs) (hi : 0 ≤ i ∧ i ≤ n) (hS : Sat W w ([(p, .cells #[.slice a n k, I i] 85 (0, 0))] :: H :: F)) (m : Int) (hm : m ≤ 4611686018427387904) :
  Calls Tryz.prog 13 #[Pt p 0, I m] w fun e w' => ∃ r : Int, e = .returned (I r) ∧ (0 ≤ r ∧ (r < m ∨ r = 0)) ∧ ∃ i' : Int, (0 ≤ i' ∧ i' ≤ n) ∧ Sat W w' ([(p, .cells #[.slice a n k, I i'] 85 (0, 0))] :: H :: F) := by
 have hle := hR.le
 refine callsA 39 Tryz.func13 rfl ?_
 refine sR <| pu1 <| nT <| seqE <| seqE ?_
 by_cases e0 : (m : Int) < 1
 ·refine drawE [] [] [(true, [0, 1, 2]), (true, [3, 4, 5, 7, 8, 9, 6, 10, 11, 12, 13])] rfl kr trivial ?_
  have h0 := hS.drew
  refine wU [0, 1, 2] ?_
  refine wFix 7 _ true (decide_eq_true e0) ?_
  refine wU [3, 4, 5, 7, 8, 9, 6, 10, 11, 12, 13] ?_
  refine wN ?_
  refine thenK_n <| cTt <| sR <| pu1 <| nT <| retE <| thenK_r <| retT [I 0] ?_
  exact ⟨_, rfl, om, _, om, h0⟩
 refine drawE [] [(6, ⟨p, 1, none⟩, I i), (10, ⟨p, 0, none⟩, .slice a n k)] [(true, [0, 1, 2]), (true, [3, 4, 5, 7, 8, 9]), (true, [6]), (true, [10]), (true, [11, 12, 13])] rfl kr ⟨.inr (hS.cell 0 rfl rfl), .inr (hS.cell 0 rfl rfl), trivial⟩ ?_
 have b0 := hS.drew
 refine wU [0, 1, 2] ?_
 refine wFix 7 _ false (decide_eq_false e0) ?_
 refine wU [3, 4, 5, 7, 8, 9] ?_
 refine wLd (I i) 0 Tryz.isAgg3 ?_
 refine wLd (.slice a n k) 1 Tryz.isAgg22 ?_
 refine wU [11, 12, 13] ?_
 refine wN ?_
 refine thenK_n ?_
 refine cD (i ≥ ((n : Nat) : Int)) (fun i0 => ?_) (fun i0 => ?_)
 ·refine sR <| pu1 <| nT <| retE <| thenK_r <| retT [I 0] ?_
  exact ⟨_, rfl, om, _, om, b0⟩
 refine kT <| sR <| pu3 ?_
 refine sL b0 0 1 (I i) (Tryz.isAgg3 _) ?_
 refine sAdd i 1 ?_
 refine pu2 ?_
 refine sT b0 0 1 (I (i + 1)) [I (i + 1)] #[.slice a n k, I (i + 1)] Tryz.sizeOf3 ?_
 intro _ a0
 refine nT <| seqE ?_
 obtain ⟨c0, f0, g0, o0, j0, k0⟩ := RdT.elem hR ((i + 1) - 1)
 refine drawE [12] [(3, ⟨p, 0, none⟩, .slice a n k), (7, ⟨p, 1, none⟩, I (i + 1)), (10, ⟨f0, g0, none⟩, I c0)] [(true, [0, 1, 2, 4, 5, 6, 11]), (true, [3]), (true, [7]), (true, [8]), (true, [9]), (true, [10]), (false, [12]), (true, [13])] rfl kr ⟨.inr (a0.cell 0 rfl rfl), .inr (a0.cell 0 rfl rfl), .inr ((j0.up 1 rfl).cell a0 (k := 0) rfl), trivial⟩ ?_
 have l0 := a0.drew
 refine wU [0, 1, 2, 4, 5, 6, 11] ?_
 refine wLd (.slice a n k) 0 Tryz.isAgg22 ?_
 refine wLd (I (i + 1)) 1 Tryz.isAgg3 ?_
 refine wSub (i + 1) 1 ?_
 refine wY (.pointer (some ⟨f0, g0, none⟩)) rfl (fun w _ => Y_idx (a := a) (i := ((i + 1) - 1)) (len := n) (cap := k) rfl Tryz.runUnderlying22 Tryz.sizeOf3 kr kr k0) ?_
 refine wLd (I c0) 2 Tryz.isAgg3 ?_
 refine wO rfl ?_
 refine cX Tryz.call15 (mod_ok c0 m om om l0) ?_
 rintro _ _ ⟨m0, rfl, _, d0⟩
 refine nilO ⟨⟨.inr (d0.cell 0 rfl rfl), .inr (d0.cell 0 rfl rfl), dI, trivial⟩, ?_⟩
 refine wU [13] ?_
 refine wN ?_
 refine thenK_n <| retE <| retT [I m0] ?_
 exact ⟨_, rfl, om, _, om, d0⟩
theorem tape_pick {p : Nat} {a : Option Addr} {n k : Nat} {i : Int} {xs : List Int} (hR : RdT encI 1 [H] a n k xs) (hi : 0 ≤ i ∧ i ≤ n) (hS : Sat W w ([(p, .cells #[.slice a n k, I i] 85 (0, 0))] :: H :: F)) {b : Option Addr} {m cap : Nat} {l : List Int} (hL : RdT encI 1 [H] b m cap l) (h0 : 0 < m) (hm : m ≤ 1000000) :
  Calls Tryz.prog 38 #[Pt p 0, .slice b m cap] w fun e w' => ∃ x : Int, e = .returned (I x) ∧ x ∈ l ∧ ∃ i' : Int, (0 ≤ i' ∧ i' ≤ n) ∧ Sat W w' ([(p, .cells #[.slice a n k, I i'] 85 (0, 0))] :: H :: F) := by
 have hle := hR.le
 refine callsA 12 Tryz.func38 rfl ?_
 refine sR <| pu1 <| nT <| sR <| pu4 ?_
 refine cX Tryz.call13 (tape_next (RdT.flat (hR.up 0 (by rfl))) om (Sat.flat1 hS) ((m : Nat) : Int) om) ?_
 rintro _ _ ⟨c0, rfl, _, _, _, d0⟩
 have a0 := Sat.unflat1 d0
 refine sIdx hL c0 Tryz.runUnderlying22 Tryz.sizeOf3 ?_
 intro b0 _ _ e0 f0
 refine sLp a0 (f0.up 1 rfl) 0 (I b0) (Tryz.isAgg3 _) ?_
 refine pu1 <| nT <| retE <| retT [I b0] ?_
 exact ⟨_, rfl, List.mem_of_getElem? e0, _, om, a0⟩
end Go.Proofs.YtdingplbadblpaaGreat

namespace Go.Proofs.YtdingplbadblpaaGreat
open Go Go.E
set_option linter.unusedVariables false
set_option linter.unusedSimpArgs false
set_option linter.unnecessarySimpa false
set_option maxRecDepth 100000
set_option maxHeartbeats 2000000
variable {W w : World} {H : Chunk} {F : List Chunk}

def numB (z : Int) : Prop := -4611686018427387904 ≤ z ∧ z ≤ 4611686018427387904
theorem nb {z : Int} (h : numB z := by unfold numB; first | omega | (dsimp only; omega)) : numB z := h
def tapB (t : Tap) : Prop := numB t.first ∧ t.weights.l.length ≤ 9 ∧ ∀ z ∈ t.weights.l, numB z
theorem mem_set {α : Type} {P : α → Prop} {l : List α} {i : Nat} {x : α} (h : ∀ z ∈ l, P z) (hx : P x) : ∀ z ∈ l.set i x, P z := by
  intro z hz
  rcases List.mem_or_eq_of_mem_set hz with h1 | h1
  · exact h z h1
  · rw [h1]; exact hx
theorem set_self_at {α : Type} {l : List α} {i : Nat} {x y : α} (h : (l.set i x)[i]? = some y) : y = x := by
  have hl : i < (l.set i x).length := (List.getElem?_eq_some_iff.1 h).1
  rw [List.length_set] at hl
  rw [List.getElem?_set_self hl] at h
  exact (Option.some.inj h).symm
theorem tdiv_bd {a b A : Int} (ha : 0 ≤ a ∧ a ≤ A) (hb : 0 < b) : 0 ≤ a.tdiv b ∧ a.tdiv b ≤ A := by
  rw [Int.tdiv_eq_ediv_of_nonneg ha.1]
  refine ⟨Int.ediv_nonneg ha.1 (by omega), Int.le_trans (Int.ediv_le_self _ ha.1) ha.2⟩
theorem mem_snoc {α : Type} {P : α → Prop} {l : List α} {x : α} (h : ∀ z ∈ l, P z) (hx : P x) : ∀ z ∈ l ++ [x], P z := by
  intro z hz
  rcases List.mem_append.1 hz with h1 | h1
  · exact h z h1
  · simp only [List.mem_singleton] at h1; rw [h1]; exact hx
theorem r8_divide (W w : World) (H : Chunk) (F : List Chunk) (tot : Int) (ax : Option Addr) (nx kx : Nat) (x : List Int) (hx : RdT encI 1 [H] ax nx kx x) (ht : 0 ≤ tot ∧ tot ≤ 16384) (hp : ∀ z ∈ x, 1 ≤ z ∧ z ≤ 16384) (h0 : 1 ≤ nx ∧ nx ≤ 200) (hS : Sat W w (H :: F)) :
  Calls Tryz.prog 139 #[I tot, .slice ax nx kx] w fun e w' => ∃ (az : Option Addr) (nz kz : Nat) (G : Chunk) (zs : List Int), e = .returned (.slice az nz kz) ∧ RdT encI 1 [G] az nz kz zs ∧ (zs.length = nx ∧ ∀ z ∈ zs, numB z) ∧ Sat W w' (G :: H :: F) := by
 have hl_x := hx.le; have hn_x := hx.len
 refine callsA 96 Tryz.func139 rfl ?_
 refine sR <| pu1 <| nT <| sR <| pu1 <| nT <| seqE <| sR <| pu1 <| nT <| blockE ?_
 refine loopA (γ := Nat × Int) (fun ⟨i, s⟩ => [(0, I tot), (1, .slice ax nx kx), (6, I ((i : Nat) : Int)), (5, I s)]) (fun ⟨i, s⟩ w => Sat W w (H :: F) ∧ i ≤ nx ∧ ((i : Int) ≤ s ∧ s ≤ 16384 * (i : Int))) (fun ⟨i, s⟩ => nx - i) (0, 0) ⟨hS, om, om⟩ ?_
 rintro ⟨i, s⟩ ρ _ ⟨i0, hi, hs⟩
 refine seqE <| sR <| pu4 <| nT ?_
 refine cD (((i : Nat) : Int) < ((nx : Nat) : Int)) (fun k1 => ?_) (fun k1 => ?_)
 ·refine kT <| seqE <| blockE <| regionE <| pu3 ?_
  refine sIdx hx ((i : Nat) : Int) Tryz.runUnderlying22 Tryz.sizeOf3 ?_
  intro c0 _ _ n0 l1
  rw [Int.toNat_natCast] at n0
  have hp_x_4 := hp c0 (List.mem_of_getElem? n0); have hpm_x_4 := mul_bd (a := tot) (b := c0) (A := 16384) (B := 16384) om om
  refine sLp i0 (l1.up 0 rfl) 0 (I c0) (Tryz.isAgg3 _) ?_
  refine sAdd s c0 ?_
  refine pu1 <| nB <| regionE <| pu1 ?_
  refine sAdd ((i : Nat) : Int) 1 ?_
  refine pu1 <| nT ?_
  exact ⟨(i + 1, (s + c0)), od, alA, i0, om, om⟩
 refine exitE <| xB <| thenK_n ?_
 refine cutA (γ := (Option Addr) × Chunk × (Option Addr) × Chunk) (fun ⟨a1, c1, a2, c2⟩ => [(0, I tot), (1, .slice ax nx kx), (5, I s), (7, .slice a1 nx nx), (8, .slice a2 nx nx)]) (fun ⟨a1, c1, a2, c2⟩ w => Sat W w (c1 :: c2 :: H :: F) ∧ OwnT encI 3 1 a1 nx nx (List.replicate nx 0) c1 ∧ OwnT encI 3 1 a2 nx nx (List.replicate nx 0) c2) ?_ ?_
 ·refine drawP [2, 5] [] (Plan.sts [0, 1, 3, 4] <| .fk 2 5 (Plan.sts [6] <| .ef 5 <| Plan.sts [7] <| .fin) (.ef 2 <| Plan.sts [6, 7] <| .fin)) rfl kr trivial ?_
  have o0 := i0.drew
  refine qU [0, 1, 3, 4] ?_
  refine qF ?_ ?_
  rotate_left
  ·refine qO rfl ?_
   refine sMake (kl := .i64) (kc := .i64) (enc := encI) (sz := 1) (nb := 8) o0 0 nx ((nx : Nat) : Int) (rfl : ((nx : Nat) : Int) = ((nx : Nat) : Int)) Tryz.underlying22 (i := Tryz.t3) kr fR ?_
   intro m1 n1 _ o1 p1
   refine nilO ⟨trivial, ?_⟩
   refine qO rfl ?_
   refine sMake (kl := .i64) (kc := .i64) (enc := encI) (sz := 1) (nb := 8) p1 0 nx ((nx : Nat) : Int) (rfl : ((nx : Nat) : Int) = ((nx : Nat) : Int)) Tryz.underlying22 (i := Tryz.t3) kr fR ?_
   intro q1 r1 _ s1 t1
   refine nilO ⟨trivial, ?_⟩
   refine qU [6, 7] ?_
   refine qN ?_
   refine thenK_n ?_
   exact ⟨((At q1 0), r1, (At m1 0), n1), alA, t1, s1, o1⟩
  refine qO rfl ?_
  refine sMake (kl := .i64) (kc := .i64) (enc := encI) (sz := 1) (nb := 8) o0 0 nx ((nx : Nat) : Int) (rfl : ((nx : Nat) : Int) = ((nx : Nat) : Int)) Tryz.underlying22 (i := Tryz.t3) kr fR ?_
  intro u1 v1 _ w1 x1
  refine nilO ⟨trivial, ?_⟩
  refine qU [6] ?_
  refine qO rfl ?_
  refine sMake (kl := .i64) (kc := .i64) (enc := encI) (sz := 1) (nb := 8) x1 0 nx ((nx : Nat) : Int) (rfl : ((nx : Nat) : Int) = ((nx : Nat) : Int)) Tryz.underlying22 (i := Tryz.t3) kr fR ?_
  intro y1 z1 _ b2 d2
  refine nilO ⟨trivial, ?_⟩
  refine qU [7] ?_
  refine qN ?_
  refine thenK_n ?_
  have e2 := (d2.pick 1 rfl)
  exact ⟨((At u1 0), v1, (At y1 0), z1), alA, e2, w1, b2⟩
 rintro ⟨a1, c1, a2, c2⟩ ρ _ ⟨f2, hO1, hO2⟩
 refine sR <| pu2 <| nT <| seqE <| sR <| pu1 <| nT <| blockE ?_
 refine loopA (γ := Nat × Int × (List Int) × (Option Addr) × Nat × Nat × Chunk × (List Int) × (Option Addr) × Nat × Nat × Chunk) (fun ⟨i, lf, zs, azs, nzs, kzs, czs, ys, ays, nys, kys, cys⟩ => [(0, I tot), (1, .slice ax nx kx), (5, I s), (10, I ((i : Nat) : Int)), (9, I lf), (7, .slice azs nzs kzs), (8, .slice ays nys kys)]) (fun ⟨i, lf, zs, azs, nzs, kzs, czs, ys, ays, nys, kys, cys⟩ w => Sat W w (czs :: cys :: H :: F) ∧ i ≤ nx ∧ (∀ z ∈ zs, 0 ≤ z ∧ z ≤ 268435456 + 0) ∧ (lf ≤ tot ∧ -(268435456 * (i : Int)) ≤ lf) ∧ (zs.length = nx ∧ ys.length = nx) ∧ OwnT encI 3 1 azs nzs kzs zs czs ∧ OwnT encI 3 1 ays nys kys ys cys) (fun ⟨i, lf, zs, azs, nzs, kzs, czs, ys, ays, nys, kys, cys⟩ => nx - i) (0, tot, (List.replicate nx 0), a1, nx, nx, c1, (List.replicate nx 0), a2, nx, nx, c2) ⟨f2, om, by intro z hz; have := List.eq_of_mem_replicate hz; omega, om, by simp, hO1, hO2⟩ ?_
 rintro ⟨i, lf, zs, azs, nzs, kzs, czs, ys, ays, nys, kys, cys⟩ ρ _ ⟨e0, hi, hZ, hlf, hzl, hOzs, hOys⟩
 have hn_zs := hOzs.len; have hl_zs := hOzs.le
 have hn_ys := hOys.len; have hl_ys := hOys.le
 refine seqE <| sR <| pu4 <| nT ?_
 refine cD (((i : Nat) : Int) < ((nx : Nat) : Int)) (fun g2 => ?_) (fun g2 => ?_)
 ·refine kT <| seqE <| blockE <| seqE ?_
  obtain ⟨a0, f0, g0, p0, q0, r0⟩ := RdT.elem hx ((i : Nat) : Int)
  rw [Int.toNat_natCast] at p0
  have hp_x_36 := hp a0 (List.mem_of_getElem? p0); have hpm_x_36 := mul_bd (a := tot) (b := a0) (A := 16384) (B := 16384) om om; have hq_x_36 := tdiv_bd (a := tot * a0) (b := s) (A := 268435456) om om
  obtain ⟨s0, h2, i2, j0, j2, t0, k2⟩ := OwnT.elem hOzs ((i : Nat) : Int)
  rw [Int.toNat_natCast] at j0 j2 t0
  have hz_x_42 := hZ s0 (List.mem_of_getElem? j0)
  obtain ⟨l2, m2, n2, u0, o2, v0, p2⟩ := OwnT.elem hOys ((i : Nat) : Int)
  rw [Int.toNat_natCast] at u0 o2 v0
  refine drawE [21, 23] [(8, ⟨f0, g0, none⟩, I a0), (16, ⟨f0, g0, none⟩, I a0)] [(true, [0, 1, 2, 3, 4, 5, 6]), (true, [7]), (true, [10, 12, 13, 14]), (true, [15]), (true, [18]), (true, [8]), (true, [9]), (true, [11]), (true, [16]), (true, [17]), (true, [19]), (true, [20]), (false, [21]), (true, [22]), (false, [23])] rfl kr ⟨.inr ((q0.up 2 rfl).cell e0 (k := 0) rfl), .inr ((q0.up 2 rfl).cell e0 (k := 0) rfl), trivial⟩ ?_
  have q2 := e0.drew
  refine wU [0, 1, 2, 3, 4, 5, 6] ?_
  refine wY (.pointer (some ⟨f0, g0, none⟩)) rfl (fun w _ => Y_idx (a := ax) (i := ((i : Nat) : Int)) (len := nx) (cap := kx) rfl Tryz.runUnderlying22 Tryz.sizeOf3 kr kr r0) ?_
  refine wU [10, 12, 13, 14] ?_
  refine wY (.pointer (some ⟨f0, g0, none⟩)) rfl (fun w _ => Y_idx (a := ax) (i := ((i : Nat) : Int)) (len := nx) (cap := kx) rfl Tryz.runUnderlying22 Tryz.sizeOf3 kr kr r0) ?_
  refine wU [18] ?_
  refine wLd (I a0) 0 Tryz.isAgg3 ?_
  refine wMul tot a0 ?_
  refine wQuo (tot * a0) s ?_
  refine wLd (I a0) 1 Tryz.isAgg3 ?_
  refine wMul tot a0 ?_
  refine wRem (tot * a0) s ?_
  refine wY (.pointer (some ⟨h2, i2 + i * 1, none⟩)) rfl (fun w _ => Y_idx (a := azs) (i := ((i : Nat) : Int)) (len := nzs) (cap := kzs) rfl Tryz.runUnderlying22 Tryz.sizeOf3 kr kr t0) ?_
  refine wO rfl ?_
  refine sStF q2 hOzs k2 0 i 0 s0 ((tot * a0).tdiv s) j0 (I ((tot * a0).tdiv s)) [I ((tot * a0).tdiv s)] Tryz.sizeOf3 ?_
  intro _ r2 w0 s2
  refine nilO ⟨dA, ?_⟩
  refine wY (.pointer (some ⟨m2, n2 + i * 1, none⟩)) rfl (fun w _ => Y_idx (a := ays) (i := ((i : Nat) : Int)) (len := nys) (cap := kys) rfl Tryz.runUnderlying22 Tryz.sizeOf3 kr kr v0) ?_
  refine wO rfl ?_
  refine sStF s2 hOys p2 1 i 0 l2 ((tot * a0).tmod s) u0 (I ((tot * a0).tmod s)) [I ((tot * a0).tmod s)] Tryz.sizeOf3 ?_
  intro _ t2 u2 x0
  refine nilO ⟨dA, ?_⟩
  refine wN ?_
  refine thenK_n <| regionE <| pu3 ?_
  refine sIdxO w0 ((i : Nat) : Int) i Tryz.runUnderlying22 Tryz.sizeOf3 ?_
  intro k0 _ _ v2 w2 _
  have he_x_65 := set_self_at v2
  refine sLp x0 (w2.up 0 rfl) 0 (I k0) (Tryz.isAgg3 _) ?_
  refine sSub lf k0 ?_
  refine pu1 <| nB <| regionE <| pu1 ?_
  refine sAdd ((i : Nat) : Int) 1 ?_
  refine pu1 <| nT ?_
  exact ⟨(i + 1, (lf - k0), (zs.set i ((tot * a0).tdiv s)), azs, nzs, kzs, r2, (ys.set i ((tot * a0).tmod s)), ays, nys, kys, t2), od, alA, x0, om, mem_set hZ (by first | omega | (refine ⟨?_, ?_⟩ <;> omega)), om, by simp; omega, w0, u2⟩
 refine exitE <| xB <| thenK_n <| seqE <| blockE ?_
 refine loopA (γ := Nat × Int × (List Int) × (Option Addr) × Nat × Nat × Chunk × (List Int) × (Option Addr) × Nat × Nat × Chunk) (fun ⟨u, lf, zs, azs, nzs, kzs, czs, ys, ays, nys, kys, cys⟩ => [(9, I lf), (7, .slice azs nzs kzs), (8, .slice ays nys kys)]) (fun ⟨u, lf, zs, azs, nzs, kzs, czs, ys, ays, nys, kys, cys⟩ w => Sat W w (czs :: cys :: H :: F) ∧ u ≤ 16384 ∧ (∀ z ∈ zs, 0 ≤ z ∧ z ≤ 268435456 + (u : Int)) ∧ ((u : Int) + lf ≤ 16384 ∧ -(268435456 * 200) ≤ lf) ∧ (zs.length = nx ∧ ys.length = nx) ∧ OwnT encI 3 1 azs nzs kzs zs czs ∧ OwnT encI 3 1 ays nys kys ys cys) (fun ⟨u, lf, zs, azs, nzs, kzs, czs, ys, ays, nys, kys, cys⟩ => 16384 - u) (0, lf, zs, azs, nzs, kzs, czs, ys, ays, nys, kys, cys) ⟨e0, om, by intro z hz; have := hZ z hz; omega, om, om, hOzs, hOys⟩ ?_
 rintro ⟨u, lf, zs, azs, nzs, kzs, czs, ys, ays, nys, kys, cys⟩ ρ _ ⟨y0, hu, hZ, hlf2, hzl, hOzs, hOys⟩
 have hn_zs := hOzs.len; have hl_zs := hOzs.le
 have hn_ys := hOys.len; have hl_ys := hOys.le
 refine seqE <| sR <| pu2 <| nT ?_
 refine cD (lf > 0) (fun x2 => ?_) (fun x2 => ?_)
 rotate_left
 ·refine exitE <| xB <| thenK_n <| sR <| pu2 <| nT <| retE <| retT [.slice azs nzs kzs] ?_
  have y2 := (y0.dropAt 1 rfl)
  exact ⟨_, _, _, _, _, rfl, (hOzs.rdAt (cs := [czs]) 0 rfl), ⟨om, fun z hz => by have h := hZ z hz; unfold numB; omega⟩, y2⟩
 refine kT <| seqE <| blockE <| sR <| pu1 <| nT <| seqE <| sR <| pu1 <| nT <| blockE ?_
 refine loopA (γ := Nat × Int) (fun ⟨k, best⟩ => [(9, I lf), (7, .slice azs nzs kzs), (8, .slice ays nys kys), (12, I ((k : Nat) : Int)), (11, I best)]) (fun ⟨k, best⟩ w => Sat W w (czs :: cys :: H :: F) ∧ k ≤ nx ∧ (0 ≤ best ∧ best < (nx : Int))) (fun ⟨k, best⟩ => nx - k) (1, 0) ⟨y0, om, om⟩ ?_
 rintro ⟨k, best⟩ ρ _ ⟨d0, hk, hbest⟩
 refine seqE <| sR <| pu4 <| nT ?_
 refine cD (((k : Nat) : Int) < ((nys : Nat) : Int)) (fun z2 => ?_) (fun z2 => ?_)
 rotate_left
 ·refine exitE <| xB <| thenK_n <| sR <| pu2 ?_
  refine sIdxO hOzs best (best).toNat Tryz.runUnderlying22 Tryz.sizeOf3 ?_
  intro b0 _ _ z0 a3 _
  have hz_x_93 := hZ b0 (List.mem_of_getElem? z0)
  refine sLp d0 (a3.up 0 rfl) 0 (I b0) (Tryz.isAgg3 _) ?_
  refine sAdd b0 1 ?_
  refine sIdxO hOzs best (best).toNat Tryz.runUnderlying22 Tryz.sizeOf3 ?_
  intro b3 _ _ b1 _ c3
  obtain rfl : b0 = b3 := Option.some.inj (z0.symm.trans b1)
  refine sStF d0 hOzs c3 0 (best).toNat 0 b0 (b0 + 1) b1 (I (b0 + 1)) [I (b0 + 1)] Tryz.sizeOf3 ?_
  intro _ d3 e3 f3
  refine nT <| regionE <| pu2 ?_
  refine sIdxO hOys best (best).toNat Tryz.runUnderlying22 Tryz.sizeOf3 ?_
  intro g3 _ _ h3 _ i3
  refine sStF f3 hOys i3 1 (best).toNat 0 g3 (-1) h3 (I (-1)) [I (-1)] Tryz.sizeOf3 ?_
  intro _ j3 k3 l3
  refine nB <| regionE <| pu1 ?_
  refine sSub lf 1 ?_
  refine pu1 <| nT ?_
  exact ⟨(u + 1, (lf - 1), (zs.set ((best).toNat) (b0 + 1)), azs, nzs, kzs, d3, (ys.set ((best).toNat) (-1)), ays, nys, kys, j3), od, alA, l3, om, mem_set (fun z hz => by have := hZ z hz; omega) om, om, by simp; omega, e3, k3⟩
 refine kT <| seqE <| blockE <| seqE ?_
 obtain ⟨l0, d1, e1, m3, f1, g1, s4⟩ := OwnT.elem hOys ((k : Nat) : Int)
 rw [Int.toNat_natCast] at m3 f1 g1
 obtain ⟨m0, h1, i1, t4, n3, o3, u4⟩ := OwnT.elem hOys best
 refine drawE [] [(3, ⟨d1, e1 + k * 1, none⟩, I l0), (7, ⟨h1, i1 + (best).toNat * 1, none⟩, I m0)] [(true, [0, 1]), (true, [2]), (true, [4, 5]), (true, [6]), (true, [3]), (true, [7]), (true, [8])] rfl kr ⟨.inr ((f1.up 1 rfl).cell d0 (k := 0) rfl), .inr ((n3.up 1 rfl).cell d0 (k := 0) rfl), trivial⟩ ?_
 have j1 := d0.drew
 refine wU [0, 1] ?_
 refine wY (.pointer (some ⟨d1, e1 + k * 1, none⟩)) rfl (fun w _ => Y_idx (a := ays) (i := ((k : Nat) : Int)) (len := nys) (cap := kys) rfl Tryz.runUnderlying22 Tryz.sizeOf3 kr kr g1) ?_
 refine wU [4, 5] ?_
 refine wY (.pointer (some ⟨h1, i1 + (best).toNat * 1, none⟩)) rfl (fun w _ => Y_idx (a := ays) (i := best) (len := nys) (cap := kys) rfl Tryz.runUnderlying22 Tryz.sizeOf3 kr kr o3) ?_
 refine wLd (I l0) 0 Tryz.isAgg3 ?_
 refine wLd (I m0) 1 Tryz.isAgg3 ?_
 refine wU [8] ?_
 refine wN ?_
 refine thenK_n ?_
 refine cD (l0 > m0) (fun p3 => ?_) (fun p3 => ?_)
 rotate_left
 ·refine skipE <| blockK_n <| thenK_n <| regionE <| pu1 ?_
  refine sAdd ((k : Nat) : Int) 1 ?_
  refine pu1 <| nT ?_
  exact ⟨(k + 1, best), od, alA, j1, om, om⟩
 refine regionE <| pu2 <| nB <| regionE <| pu1 ?_
 refine sAdd ((k : Nat) : Int) 1 ?_
 refine pu1 <| nT ?_
 exact ⟨(k + 1, ((k : Nat) : Int)), od, alA, j1, om, om⟩

theorem tdiv_abs {x d A : Int} (hx : -A ≤ x ∧ x ≤ A) : -A ≤ x.tdiv d ∧ x.tdiv d ≤ A := by
  have h : (x.tdiv d).natAbs ≤ x.natAbs := by rw [Int.natAbs_tdiv]; exact Nat.div_le_self _ _
  omega
theorem le_mul_pos {k m : Int} (hk : 0 ≤ k) (hm : 1 ≤ m) : k ≤ k * m := by
  have := Int.mul_le_mul_of_nonneg_left hm hk
  omega
theorem r8_linear (W w : World) (H : Chunk) (F : List Chunk) (n0 m0 sh : Int) (hS : Sat W w (H :: F)) :
  Calls Tryz.prog 101 #[I n0, I m0, I sh] w fun e w' => ∃ (az : Option Addr) (nz kz : Nat) (zs : List Tap) (cd : Int) (c G : Chunk), e = .returned (.tuple #[.slice az nz kz, I cd]) ∧ OwnT encTap 123 2 az nz kz zs c ∧ (∀ z ∈ zs, Tap.Ok [G] z) ∧ ((zs.length : Int) ≤ max m0 0 ∧ ∀ z ∈ zs, tapB z) ∧ Sat W w' (G :: c :: H :: F) := by
 refine callsA 80 Tryz.func101 rfl ?_
 refine sR <| pu2 <| nT <| seqE <| sR <| pu1 ?_
 refine cR Tryz.call138 (r8_side n0 (Sat.flat hS)) ?_
 intro _ e0
 refine pu2 ?_
 refine sDn 18 ((1 : Int) ≤ n0 ∧ n0 ≤ (128 : Int)) (fun h0 => ?_) (fun h0 => ?_)
 rotate_left
 ·refine pu4 <| nT <| cTt <| sR <| pu2 <| nT <| retE <| thenK_r <| retT [.slice none 0 0, I 8] ?_
  have i0 : Sat W _ ([] :: [] :: H :: F) := Sat.nilc (Sat.nilc e0)
  exact ⟨none, 0, 0, [], _, [], [], rfl, OwnT.nil fR, (fun z hz => by cases hz), ⟨by simp; omega, (fun z hz => by cases hz)⟩, i0⟩
 refine pu1 <| gY ?_
 refine cR Tryz.call138 (r8_side m0 (Sat.flat e0)) ?_
 intro _ c0
 refine pu2 <| nT ?_
 refine cDn ((1 : Int) ≤ m0 ∧ m0 ≤ (128 : Int)) (fun j0 => ?_) (fun j0 => ?_)
 rotate_left
 ·refine sR <| pu2 <| nT <| retE <| thenK_r <| retT [.slice none 0 0, I 8] ?_
  have k0 : Sat W _ ([] :: [] :: H :: F) := Sat.nilc (Sat.nilc c0)
  exact ⟨none, 0, 0, [], _, [], [], rfl, OwnT.nil fR, (fun z hz => by cases hz), ⟨by simp; omega, (fun z hz => by cases hz)⟩, k0⟩
 refine kT <| seqE <| sR <| pu3 ?_
 refine sD 25 (sh < 0) (fun l0 => ?_) (fun l0 => ?_)
 ·refine pu3 <| nT <| cTt <| sR <| pu2 <| nT <| retE <| thenK_r <| retT [.slice none 0 0, I 2] ?_
  have o0 : Sat W _ ([] :: [] :: H :: F) := Sat.nilc (Sat.nilc c0)
  exact ⟨none, 0, 0, [], _, [], [], rfl, OwnT.nil fR, (fun z hz => by cases hz), ⟨by simp; omega, (fun z hz => by cases hz)⟩, o0⟩
 refine pu3 <| nT ?_
 refine cD (sh > 14) (fun p0 => ?_) (fun p0 => ?_)
 ·refine sR <| pu2 <| nT <| retE <| thenK_r <| retT [.slice none 0 0, I 2] ?_
  have q0 : Sat W _ ([] :: [] :: H :: F) := Sat.nilc (Sat.nilc c0)
  exact ⟨none, 0, 0, [], _, [], [], rfl, OwnT.nil fR, (fun z hz => by cases hz), ⟨by simp; omega, (fun z hz => by cases hz)⟩, q0⟩
 refine kT <| sR <| pu1 <| nT <| seqE <| sR <| pu1 <| nT <| blockE ?_
 have r0 := Sat.nilc c0
 have s0 := OwnT.nil (enc := encTap) (E := 123) (sz := 2) fR
 have t0 := Sat.nilc r0
 refine loopA (γ := Nat × (List Tap) × (Option Addr) × Nat × Nat × Chunk × Chunk) (fun ⟨i, zs, azs, nzs, kzs, czs, Gzs⟩ => [(0, I n0), (1, I m0), (2, I sh), (9, I ((i : Nat) : Int)), (8, .slice azs nzs kzs)]) (fun ⟨i, zs, azs, nzs, kzs, czs, Gzs⟩ w => Sat W w (Gzs :: czs :: H :: F) ∧ i ≤ m0.toNat ∧ (∀ z ∈ zs, tapB z) ∧ (zs.length = i) ∧ OwnT encTap 123 2 azs nzs kzs zs czs ∧ (∀ z ∈ zs, Tap.Ok [Gzs] z)) (fun ⟨i, zs, azs, nzs, kzs, czs, Gzs⟩ => m0.toNat - i) (0, [], none, 0, 0, [], []) ⟨t0, om, (by intro z hz; cases hz), by rfl, s0, (by intro z hz; cases hz)⟩ ?_
 rintro ⟨i, zs, azs, nzs, kzs, czs, Gzs⟩ ρ _ ⟨d0, hi, hB, hzl, hOzs, hDzs⟩
 have hn_zs := hOzs.len; have hl_zs := hOzs.le
 refine seqE <| sR <| pu3 <| nT ?_
 refine cD (((i : Nat) : Int) < m0) (fun u0 => ?_) (fun u0 => ?_)
 rotate_left
 ·refine exitE <| xB <| thenK_n <| sR <| pu3 <| nT <| retE <| retT [.slice azs nzs kzs, I 0] ?_
  exact ⟨_, _, _, zs, _, _, _, rfl, hOzs, hDzs, ⟨om, hB⟩, d0⟩
 refine kT <| seqE <| blockE <| seqE ?_
 have hm1 := mul_bd (a := ((2 * ((i : Nat) : Int)) + 1)) (b := n0) (A := 257) (B := 128) om om
 refine regionE <| pu1 ?_
 refine sMul 2 ((i : Nat) : Int) ?_
 refine sAdd (2 * ((i : Nat) : Int)) 1 ?_
 refine pu1 ?_
 refine sMul ((2 * ((i : Nat) : Int)) + 1) n0 ?_
 refine pu1 ?_
 refine sSub (((2 * ((i : Nat) : Int)) + 1) * n0) m0 ?_
 refine pu1 ?_
 refine sMul 2 m0 ?_
 refine pu2 <| nT <| sR <| pu2 ?_
 refine sQuo ((((2 * ((i : Nat) : Int)) + 1) * n0) - m0) (2 * m0) ?_
 refine pu1 <| nT <| seqE <| seqE ?_
 have hq := Int.mul_tdiv_add_tmod ((((2 * ((i : Nat) : Int)) + 1) * n0) - m0) (2 * m0); have hq1 := Int.tmod_lt_of_pos ((((2 * ((i : Nat) : Int)) + 1) * n0) - m0) (by omega : 0 < (2 * m0)); have hq2 := Int.lt_tmod_of_pos ((((2 * ((i : Nat) : Int)) + 1) * n0) - m0) (by omega : 0 < (2 * m0)); have hq3 := Int.mul_comm (((((2 * ((i : Nat) : Int)) + 1) * n0) - m0).tdiv (2 * m0)) (2 * m0); have hq5 := tdiv_abs (x := ((((2 * ((i : Nat) : Int)) + 1) * n0) - m0)) (d := (2 * m0)) (A := 65536) om; have hq6 : (((((2 * ((i : Nat) : Int)) + 1) * n0) - m0).tdiv (2 * m0) - 1) * (2 * m0) = ((((2 * ((i : Nat) : Int)) + 1) * n0) - m0).tdiv (2 * m0) * (2 * m0) - (2 * m0) := by rw [Int.sub_mul, Int.one_mul]
 refine regionE <| pu2 ?_
 refine sMul (((((2 * ((i : Nat) : Int)) + 1) * n0) - m0).tdiv (2 * m0)) (2 * m0) ?_
 refine pu2 <| nT ?_
 refine cD (((((((2 * ((i : Nat) : Int)) + 1) * n0) - m0).tdiv (2 * m0)) * (2 * m0)) > ((((2 * ((i : Nat) : Int)) + 1) * n0) - m0)) (fun v0 => ?_) (fun v0 => ?_)
 rotate_left
 ·refine kT <| sR <| pu1 ?_
  refine stepY (.int .u64 sh) rfl rfl (Y_conv (k := .i64) (a := sh) Tryz.underlying3 Tryz.underlying160 (wrapIn_u64 _ om) rfl kr) ?_
  refine stepY (I (2 ^ (sh).toNat)) rfl rfl (Y_shl1 (k' := .u64) sh rfl kr kr om) ?_
  refine pu1 <| nT <| seqE ?_
  have hp1 := pow2_pos sh.toNat; have hp2 := pow2_le (a := sh.toNat) (b := 14) om
  have hm2 := mul_abs (a := (2 * (((((2 * ((i : Nat) : Int)) + 1) * n0) - m0) - ((((((2 * ((i : Nat) : Int)) + 1) * n0) - m0).tdiv (2 * m0)) * (2 * m0))))) (b := (2 ^ (sh).toNat)) (A := 2048) (B := 16384) om om
  have hq7 := tdiv_abs (x := (((2 * (((((2 * ((i : Nat) : Int)) + 1) * n0) - m0) - ((((((2 * ((i : Nat) : Int)) + 1) * n0) - m0).tdiv (2 * m0)) * (2 * m0)))) * (2 ^ (sh).toNat)) + (2 * m0))) (d := (2 * (2 * m0))) (A := 67108864) om
  refine regionE <| pu3 ?_
  refine sMul (((((2 * ((i : Nat) : Int)) + 1) * n0) - m0).tdiv (2 * m0)) (2 * m0) ?_
  refine sSub ((((2 * ((i : Nat) : Int)) + 1) * n0) - m0) ((((((2 * ((i : Nat) : Int)) + 1) * n0) - m0).tdiv (2 * m0)) * (2 * m0)) ?_
  refine sMul 2 (((((2 * ((i : Nat) : Int)) + 1) * n0) - m0) - ((((((2 * ((i : Nat) : Int)) + 1) * n0) - m0).tdiv (2 * m0)) * (2 * m0))) ?_
  refine pu1 ?_
  refine sMul (2 * (((((2 * ((i : Nat) : Int)) + 1) * n0) - m0) - ((((((2 * ((i : Nat) : Int)) + 1) * n0) - m0).tdiv (2 * m0)) * (2 * m0)))) (2 ^ (sh).toNat) ?_
  refine pu1 ?_
  refine sAdd ((2 * (((((2 * ((i : Nat) : Int)) + 1) * n0) - m0) - ((((((2 * ((i : Nat) : Int)) + 1) * n0) - m0).tdiv (2 * m0)) * (2 * m0)))) * (2 ^ (sh).toNat)) (2 * m0) ?_
  refine pu1 ?_
  refine sMul 2 (2 * m0) ?_
  refine sQuo (((2 * (((((2 * ((i : Nat) : Int)) + 1) * n0) - m0) - ((((((2 * ((i : Nat) : Int)) + 1) * n0) - m0).tdiv (2 * m0)) * (2 * m0)))) * (2 ^ (sh).toNat)) + (2 * m0)) (2 * (2 * m0)) ?_
  refine pu1 <| nT <| regionE <| pu4 ?_
  refine sSub (2 ^ (sh).toNat) ((((2 * (((((2 * ((i : Nat) : Int)) + 1) * n0) - m0) - ((((((2 * ((i : Nat) : Int)) + 1) * n0) - m0).tdiv (2 * m0)) * (2 * m0)))) * (2 ^ (sh).toNat)) + (2 * m0)).tdiv (2 * (2 * m0))) ?_
  refine pu1 ?_
  refine sBS d0 #[I ((2 ^ (sh).toNat) - ((((2 * (((((2 * ((i : Nat) : Int)) + 1) * n0) - m0) - ((((((2 * ((i : Nat) : Int)) + 1) * n0) - m0).tdiv (2 * m0)) * (2 * m0)))) * (2 ^ (sh).toNat)) + (2 * m0)).tdiv (2 * (2 * m0)))), I ((((2 * (((((2 * ((i : Nat) : Int)) + 1) * n0) - m0) - ((((((2 * ((i : Nat) : Int)) + 1) * n0) - m0).tdiv (2 * m0)) * (2 * m0)))) * (2 ^ (sh).toNat)) + (2 * m0)).tdiv (2 * (2 * m0)))] Tryz.runUnderlying22 Tryz.sizeOf3 Tryz.zeroValue3 ?_
  intro a0 _ w0
  refine pu1 ?_
  refine sBS w0 #[I (((((2 * ((i : Nat) : Int)) + 1) * n0) - m0).tdiv (2 * m0)), .slice (At a0 0) 2 2] Tryz.runUnderlying35 Tryz.sizeOf123 Tryz.zeroValue123 ?_
  intro _ _ x0
  refine sApp (nb := 32) x0 hOzs 3 (RdT.blk (enc := encTap) (sz := 2) (xs := [(⟨(((((2 * ((i : Nat) : Int)) + 1) * n0) - m0).tdiv (2 * m0)), ⟨(At a0 0), 2, 2, [((2 ^ (sh).toNat) - ((((2 * (((((2 * ((i : Nat) : Int)) + 1) * n0) - m0) - ((((((2 * ((i : Nat) : Int)) + 1) * n0) - m0).tdiv (2 * m0)) * (2 * m0)))) * (2 ^ (sh).toNat)) + (2 * m0)).tdiv (2 * (2 * m0)))), ((((2 * (((((2 * ((i : Nat) : Int)) + 1) * n0) - m0) - ((((((2 * ((i : Nat) : Int)) + 1) * n0) - m0).tdiv (2 * m0)) * (2 * m0)))) * (2 ^ (sh).toNat)) + (2 * m0)).tdiv (2 * (2 * m0)))]⟩⟩ : Tap)]) fR 1 0 rfl rfl rfl om) Tryz.underlying35 (i := Tryz.t123) kr fR ?_
  intro y0 z0 f0 _ a1 b1
  refine pu1 <| nB <| regionE <| pu1 ?_
  refine sAdd ((i : Nat) : Int) 1 ?_
  refine pu1 <| nT ?_
  have c1 := (b1.dropAt 0 rfl)
  have d1 := (Sat.perm (cs' := ([(a0, .cells #[I ((2 ^ (sh).toNat) - ((((2 * (((((2 * ((i : Nat) : Int)) + 1) * n0) - m0) - ((((((2 * ((i : Nat) : Int)) + 1) * n0) - m0).tdiv (2 * m0)) * (2 * m0)))) * (2 ^ (sh).toNat)) + (2 * m0)).tdiv (2 * (2 * m0)))), I ((((2 * (((((2 * ((i : Nat) : Int)) + 1) * n0) - m0) - ((((((2 * ((i : Nat) : Int)) + 1) * n0) - m0).tdiv (2 * m0)) * (2 * m0)))) * (2 ^ (sh).toNat)) + (2 * m0)).tdiv (2 * (2 * m0)))] 3 (0, 0))] ++ Gzs) :: (f0 :: H :: F)) c1 (by simp))
  exact ⟨(i + 1, (zs ++ [(⟨(((((2 * ((i : Nat) : Int)) + 1) * n0) - m0).tdiv (2 * m0)), ⟨(At a0 0), 2, 2, [((2 ^ (sh).toNat) - ((((2 * (((((2 * ((i : Nat) : Int)) + 1) * n0) - m0) - ((((((2 * ((i : Nat) : Int)) + 1) * n0) - m0).tdiv (2 * m0)) * (2 * m0)))) * (2 ^ (sh).toNat)) + (2 * m0)).tdiv (2 * (2 * m0)))), ((((2 * (((((2 * ((i : Nat) : Int)) + 1) * n0) - m0) - ((((((2 * ((i : Nat) : Int)) + 1) * n0) - m0).tdiv (2 * m0)) * (2 * m0)))) * (2 ^ (sh).toNat)) + (2 * m0)).tdiv (2 * (2 * m0)))]⟩⟩ : Tap)]), y0, (nzs + 1), z0, f0, ([(a0, .cells #[I ((2 ^ (sh).toNat) - ((((2 * (((((2 * ((i : Nat) : Int)) + 1) * n0) - m0) - ((((((2 * ((i : Nat) : Int)) + 1) * n0) - m0).tdiv (2 * m0)) * (2 * m0)))) * (2 ^ (sh).toNat)) + (2 * m0)).tdiv (2 * (2 * m0)))), I ((((2 * (((((2 * ((i : Nat) : Int)) + 1) * n0) - m0) - ((((((2 * ((i : Nat) : Int)) + 1) * n0) - m0).tdiv (2 * m0)) * (2 * m0)))) * (2 ^ (sh).toNat)) + (2 * m0)).tdiv (2 * (2 * m0)))] 3 (0, 0))] ++ Gzs)), od, alA, d1, om, mem_snoc hB (show tapB (⟨(((((2 * ((i : Nat) : Int)) + 1) * n0) - m0).tdiv (2 * m0)), ⟨(At a0 0), 2, 2, [((2 ^ (sh).toNat) - ((((2 * (((((2 * ((i : Nat) : Int)) + 1) * n0) - m0) - ((((((2 * ((i : Nat) : Int)) + 1) * n0) - m0).tdiv (2 * m0)) * (2 * m0)))) * (2 ^ (sh).toNat)) + (2 * m0)).tdiv (2 * (2 * m0)))), ((((2 * (((((2 * ((i : Nat) : Int)) + 1) * n0) - m0) - ((((((2 * ((i : Nat) : Int)) + 1) * n0) - m0).tdiv (2 * m0)) * (2 * m0)))) * (2 ^ (sh).toNat)) + (2 * m0)).tdiv (2 * (2 * m0)))]⟩⟩ : Tap) from ⟨by unfold numB; dsimp only; omega, by simp, by intro z hz; simp only [List.mem_cons, List.not_mem_nil, or_false] at hz; unfold numB; omega⟩), by simp; omega, a1, (by
    intro z hz
    rcases List.mem_append.1 hz with h | h
    ·exact (hDzs z h).of_mem mS
    ·simp only [List.mem_singleton] at h; subst h; exact ⟨(RdT.blk (cs := [[(a0, .cells #[I ((2 ^ (sh).toNat) - ((((2 * (((((2 * ((i : Nat) : Int)) + 1) * n0) - m0) - ((((((2 * ((i : Nat) : Int)) + 1) * n0) - m0).tdiv (2 * m0)) * (2 * m0)))) * (2 ^ (sh).toNat)) + (2 * m0)).tdiv (2 * (2 * m0)))), I ((((2 * (((((2 * ((i : Nat) : Int)) + 1) * n0) - m0) - ((((((2 * ((i : Nat) : Int)) + 1) * n0) - m0).tdiv (2 * m0)) * (2 * m0)))) * (2 ^ (sh).toNat)) + (2 * m0)).tdiv (2 * (2 * m0)))] 3 (0, 0))]]) (enc := encI) (sz := 1) (xs := [((2 ^ (sh).toNat) - ((((2 * (((((2 * ((i : Nat) : Int)) + 1) * n0) - m0) - ((((((2 * ((i : Nat) : Int)) + 1) * n0) - m0).tdiv (2 * m0)) * (2 * m0)))) * (2 ^ (sh).toNat)) + (2 * m0)).tdiv (2 * (2 * m0)))), ((((2 * (((((2 * ((i : Nat) : Int)) + 1) * n0) - m0) - ((((((2 * ((i : Nat) : Int)) + 1) * n0) - m0).tdiv (2 * m0)) * (2 * m0)))) * (2 ^ (sh).toNat)) + (2 * m0)).tdiv (2 * (2 * m0)))]) fR 2 0 rfl rfl rfl om).of_mem mS⟩)⟩
 refine regionE <| pu1 ?_
 refine sSub (((((2 * ((i : Nat) : Int)) + 1) * n0) - m0).tdiv (2 * m0)) 1 ?_
 refine pu1 <| nT <| sR <| pu1 ?_
 refine stepY (.int .u64 sh) rfl rfl (Y_conv (k := .i64) (a := sh) Tryz.underlying3 Tryz.underlying160 (wrapIn_u64 _ om) rfl kr) ?_
 refine stepY (I (2 ^ (sh).toNat)) rfl rfl (Y_shl1 (k' := .u64) sh rfl kr kr om) ?_
 refine pu1 <| nT <| seqE ?_
 have hp1 := pow2_pos sh.toNat; have hp2 := pow2_le (a := sh.toNat) (b := 14) om
 have hm2 := mul_abs (a := (2 * (((((2 * ((i : Nat) : Int)) + 1) * n0) - m0) - (((((((2 * ((i : Nat) : Int)) + 1) * n0) - m0).tdiv (2 * m0)) - 1) * (2 * m0))))) (b := (2 ^ (sh).toNat)) (A := 2048) (B := 16384) om om
 have hq7 := tdiv_abs (x := (((2 * (((((2 * ((i : Nat) : Int)) + 1) * n0) - m0) - (((((((2 * ((i : Nat) : Int)) + 1) * n0) - m0).tdiv (2 * m0)) - 1) * (2 * m0)))) * (2 ^ (sh).toNat)) + (2 * m0))) (d := (2 * (2 * m0))) (A := 67108864) om
 refine regionE <| pu3 ?_
 refine sMul ((((((2 * ((i : Nat) : Int)) + 1) * n0) - m0).tdiv (2 * m0)) - 1) (2 * m0) ?_
 refine sSub ((((2 * ((i : Nat) : Int)) + 1) * n0) - m0) (((((((2 * ((i : Nat) : Int)) + 1) * n0) - m0).tdiv (2 * m0)) - 1) * (2 * m0)) ?_
 refine sMul 2 (((((2 * ((i : Nat) : Int)) + 1) * n0) - m0) - (((((((2 * ((i : Nat) : Int)) + 1) * n0) - m0).tdiv (2 * m0)) - 1) * (2 * m0))) ?_
 refine pu1 ?_
 refine sMul (2 * (((((2 * ((i : Nat) : Int)) + 1) * n0) - m0) - (((((((2 * ((i : Nat) : Int)) + 1) * n0) - m0).tdiv (2 * m0)) - 1) * (2 * m0)))) (2 ^ (sh).toNat) ?_
 refine pu1 ?_
 refine sAdd ((2 * (((((2 * ((i : Nat) : Int)) + 1) * n0) - m0) - (((((((2 * ((i : Nat) : Int)) + 1) * n0) - m0).tdiv (2 * m0)) - 1) * (2 * m0)))) * (2 ^ (sh).toNat)) (2 * m0) ?_
 refine pu1 ?_
 refine sMul 2 (2 * m0) ?_
 refine sQuo (((2 * (((((2 * ((i : Nat) : Int)) + 1) * n0) - m0) - (((((((2 * ((i : Nat) : Int)) + 1) * n0) - m0).tdiv (2 * m0)) - 1) * (2 * m0)))) * (2 ^ (sh).toNat)) + (2 * m0)) (2 * (2 * m0)) ?_
 refine pu1 <| nT <| regionE <| pu4 ?_
 refine sSub (2 ^ (sh).toNat) ((((2 * (((((2 * ((i : Nat) : Int)) + 1) * n0) - m0) - (((((((2 * ((i : Nat) : Int)) + 1) * n0) - m0).tdiv (2 * m0)) - 1) * (2 * m0)))) * (2 ^ (sh).toNat)) + (2 * m0)).tdiv (2 * (2 * m0))) ?_
 refine pu1 ?_
 refine sBS d0 #[I ((2 ^ (sh).toNat) - ((((2 * (((((2 * ((i : Nat) : Int)) + 1) * n0) - m0) - (((((((2 * ((i : Nat) : Int)) + 1) * n0) - m0).tdiv (2 * m0)) - 1) * (2 * m0)))) * (2 ^ (sh).toNat)) + (2 * m0)).tdiv (2 * (2 * m0)))), I ((((2 * (((((2 * ((i : Nat) : Int)) + 1) * n0) - m0) - (((((((2 * ((i : Nat) : Int)) + 1) * n0) - m0).tdiv (2 * m0)) - 1) * (2 * m0)))) * (2 ^ (sh).toNat)) + (2 * m0)).tdiv (2 * (2 * m0)))] Tryz.runUnderlying22 Tryz.sizeOf3 Tryz.zeroValue3 ?_
 intro b0 _ e1
 refine pu1 ?_
 refine sBS e1 #[I ((((((2 * ((i : Nat) : Int)) + 1) * n0) - m0).tdiv (2 * m0)) - 1), .slice (At b0 0) 2 2] Tryz.runUnderlying35 Tryz.sizeOf123 Tryz.zeroValue123 ?_
 intro _ _ f1
 refine sApp (nb := 32) f1 hOzs 3 (RdT.blk (enc := encTap) (sz := 2) (xs := [(⟨((((((2 * ((i : Nat) : Int)) + 1) * n0) - m0).tdiv (2 * m0)) - 1), ⟨(At b0 0), 2, 2, [((2 ^ (sh).toNat) - ((((2 * (((((2 * ((i : Nat) : Int)) + 1) * n0) - m0) - (((((((2 * ((i : Nat) : Int)) + 1) * n0) - m0).tdiv (2 * m0)) - 1) * (2 * m0)))) * (2 ^ (sh).toNat)) + (2 * m0)).tdiv (2 * (2 * m0)))), ((((2 * (((((2 * ((i : Nat) : Int)) + 1) * n0) - m0) - (((((((2 * ((i : Nat) : Int)) + 1) * n0) - m0).tdiv (2 * m0)) - 1) * (2 * m0)))) * (2 ^ (sh).toNat)) + (2 * m0)).tdiv (2 * (2 * m0)))]⟩⟩ : Tap)]) fR 1 0 rfl rfl rfl om) Tryz.underlying35 (i := Tryz.t123) kr fR ?_
 intro g1 h1 g0 _ i1 j1
 refine pu1 <| nB <| regionE <| pu1 ?_
 refine sAdd ((i : Nat) : Int) 1 ?_
 refine pu1 <| nT ?_
 have k1 := (j1.dropAt 0 rfl)
 have l1 := (Sat.perm (cs' := ([(b0, .cells #[I ((2 ^ (sh).toNat) - ((((2 * (((((2 * ((i : Nat) : Int)) + 1) * n0) - m0) - (((((((2 * ((i : Nat) : Int)) + 1) * n0) - m0).tdiv (2 * m0)) - 1) * (2 * m0)))) * (2 ^ (sh).toNat)) + (2 * m0)).tdiv (2 * (2 * m0)))), I ((((2 * (((((2 * ((i : Nat) : Int)) + 1) * n0) - m0) - (((((((2 * ((i : Nat) : Int)) + 1) * n0) - m0).tdiv (2 * m0)) - 1) * (2 * m0)))) * (2 ^ (sh).toNat)) + (2 * m0)).tdiv (2 * (2 * m0)))] 3 (0, 0))] ++ Gzs) :: (g0 :: H :: F)) k1 (by simp))
 exact ⟨(i + 1, (zs ++ [(⟨((((((2 * ((i : Nat) : Int)) + 1) * n0) - m0).tdiv (2 * m0)) - 1), ⟨(At b0 0), 2, 2, [((2 ^ (sh).toNat) - ((((2 * (((((2 * ((i : Nat) : Int)) + 1) * n0) - m0) - (((((((2 * ((i : Nat) : Int)) + 1) * n0) - m0).tdiv (2 * m0)) - 1) * (2 * m0)))) * (2 ^ (sh).toNat)) + (2 * m0)).tdiv (2 * (2 * m0)))), ((((2 * (((((2 * ((i : Nat) : Int)) + 1) * n0) - m0) - (((((((2 * ((i : Nat) : Int)) + 1) * n0) - m0).tdiv (2 * m0)) - 1) * (2 * m0)))) * (2 ^ (sh).toNat)) + (2 * m0)).tdiv (2 * (2 * m0)))]⟩⟩ : Tap)]), g1, (nzs + 1), h1, g0, ([(b0, .cells #[I ((2 ^ (sh).toNat) - ((((2 * (((((2 * ((i : Nat) : Int)) + 1) * n0) - m0) - (((((((2 * ((i : Nat) : Int)) + 1) * n0) - m0).tdiv (2 * m0)) - 1) * (2 * m0)))) * (2 ^ (sh).toNat)) + (2 * m0)).tdiv (2 * (2 * m0)))), I ((((2 * (((((2 * ((i : Nat) : Int)) + 1) * n0) - m0) - (((((((2 * ((i : Nat) : Int)) + 1) * n0) - m0).tdiv (2 * m0)) - 1) * (2 * m0)))) * (2 ^ (sh).toNat)) + (2 * m0)).tdiv (2 * (2 * m0)))] 3 (0, 0))] ++ Gzs)), od, alA, l1, om, mem_snoc hB (show tapB (⟨((((((2 * ((i : Nat) : Int)) + 1) * n0) - m0).tdiv (2 * m0)) - 1), ⟨(At b0 0), 2, 2, [((2 ^ (sh).toNat) - ((((2 * (((((2 * ((i : Nat) : Int)) + 1) * n0) - m0) - (((((((2 * ((i : Nat) : Int)) + 1) * n0) - m0).tdiv (2 * m0)) - 1) * (2 * m0)))) * (2 ^ (sh).toNat)) + (2 * m0)).tdiv (2 * (2 * m0)))), ((((2 * (((((2 * ((i : Nat) : Int)) + 1) * n0) - m0) - (((((((2 * ((i : Nat) : Int)) + 1) * n0) - m0).tdiv (2 * m0)) - 1) * (2 * m0)))) * (2 ^ (sh).toNat)) + (2 * m0)).tdiv (2 * (2 * m0)))]⟩⟩ : Tap) from ⟨by unfold numB; dsimp only; omega, by simp, by intro z hz; simp only [List.mem_cons, List.not_mem_nil, or_false] at hz; unfold numB; omega⟩), by simp; omega, i1, (by
   intro z hz
   rcases List.mem_append.1 hz with h | h
   ·exact (hDzs z h).of_mem mS
   ·simp only [List.mem_singleton] at h; subst h; exact ⟨(RdT.blk (cs := [[(b0, .cells #[I ((2 ^ (sh).toNat) - ((((2 * (((((2 * ((i : Nat) : Int)) + 1) * n0) - m0) - (((((((2 * ((i : Nat) : Int)) + 1) * n0) - m0).tdiv (2 * m0)) - 1) * (2 * m0)))) * (2 ^ (sh).toNat)) + (2 * m0)).tdiv (2 * (2 * m0)))), I ((((2 * (((((2 * ((i : Nat) : Int)) + 1) * n0) - m0) - (((((((2 * ((i : Nat) : Int)) + 1) * n0) - m0).tdiv (2 * m0)) - 1) * (2 * m0)))) * (2 ^ (sh).toNat)) + (2 * m0)).tdiv (2 * (2 * m0)))] 3 (0, 0))]]) (enc := encI) (sz := 1) (xs := [((2 ^ (sh).toNat) - ((((2 * (((((2 * ((i : Nat) : Int)) + 1) * n0) - m0) - (((((((2 * ((i : Nat) : Int)) + 1) * n0) - m0).tdiv (2 * m0)) - 1) * (2 * m0)))) * (2 ^ (sh).toNat)) + (2 * m0)).tdiv (2 * (2 * m0)))), ((((2 * (((((2 * ((i : Nat) : Int)) + 1) * n0) - m0) - (((((((2 * ((i : Nat) : Int)) + 1) * n0) - m0).tdiv (2 * m0)) - 1) * (2 * m0)))) * (2 ^ (sh).toNat)) + (2 * m0)).tdiv (2 * (2 * m0)))]) fR 2 0 rfl rfl rfl om).of_mem mS⟩)⟩
theorem r8_box (W w : World) (H : Chunk) (F : List Chunk) (n0 m0 sh : Int) (hS : Sat W w (H :: F)) :
  Calls Tryz.prog 102 #[I n0, I m0, I sh] w fun e w' => ∃ (az : Option Addr) (nz kz : Nat) (zs : List Tap) (cd : Int) (c G : Chunk), e = .returned (.tuple #[.slice az nz kz, I cd]) ∧ OwnT encTap 123 2 az nz kz zs c ∧ (∀ z ∈ zs, Tap.Ok [G] z) ∧ ((zs.length : Int) ≤ max m0 0 ∧ ∀ z ∈ zs, tapB z) ∧ Sat W w' (G :: c :: H :: F) := by
 refine callsA 83 Tryz.func102 rfl ?_
 refine sR <| pu2 <| nT <| seqE <| sR <| pu1 ?_
 refine cR Tryz.call138 (r8_side n0 (Sat.flat hS)) ?_
 intro _ g0
 refine pu2 ?_
 refine sDn 18 ((1 : Int) ≤ n0 ∧ n0 ≤ (128 : Int)) (fun r0 => ?_) (fun r0 => ?_)
 rotate_left
 ·refine pu4 <| nT <| cTt <| sR <| pu2 <| nT <| retE <| thenK_r <| retT [.slice none 0 0, I 8] ?_
  have s0 : Sat W _ ([] :: [] :: H :: F) := Sat.nilc (Sat.nilc g0)
  exact ⟨none, 0, 0, [], _, [], [], rfl, OwnT.nil fR, (fun z hz => by cases hz), ⟨by simp; omega, (fun z hz => by cases hz)⟩, s0⟩
 refine pu1 <| gY ?_
 refine cR Tryz.call138 (r8_side m0 (Sat.flat g0)) ?_
 intro _ d0
 refine pu2 <| nT ?_
 refine cDn ((1 : Int) ≤ m0 ∧ m0 ≤ (128 : Int)) (fun t0 => ?_) (fun t0 => ?_)
 rotate_left
 ·refine sR <| pu2 <| nT <| retE <| thenK_r <| retT [.slice none 0 0, I 8] ?_
  have u0 : Sat W _ ([] :: [] :: H :: F) := Sat.nilc (Sat.nilc d0)
  exact ⟨none, 0, 0, [], _, [], [], rfl, OwnT.nil fR, (fun z hz => by cases hz), ⟨by simp; omega, (fun z hz => by cases hz)⟩, u0⟩
 refine kT <| seqE <| sR <| pu3 ?_
 refine sD 25 (sh < 0) (fun v0 => ?_) (fun v0 => ?_)
 ·refine pu3 <| nT <| cTt <| sR <| pu2 <| nT <| retE <| thenK_r <| retT [.slice none 0 0, I 2] ?_
  have w0 : Sat W _ ([] :: [] :: H :: F) := Sat.nilc (Sat.nilc d0)
  exact ⟨none, 0, 0, [], _, [], [], rfl, OwnT.nil fR, (fun z hz => by cases hz), ⟨by simp; omega, (fun z hz => by cases hz)⟩, w0⟩
 refine pu3 <| nT ?_
 refine cD (sh > 14) (fun x0 => ?_) (fun x0 => ?_)
 ·refine sR <| pu2 <| nT <| retE <| thenK_r <| retT [.slice none 0 0, I 2] ?_
  have y0 : Sat W _ ([] :: [] :: H :: F) := Sat.nilc (Sat.nilc d0)
  exact ⟨none, 0, 0, [], _, [], [], rfl, OwnT.nil fR, (fun z hz => by cases hz), ⟨by simp; omega, (fun z hz => by cases hz)⟩, y0⟩
 refine kT <| sR <| pu1 <| nT <| seqE <| sR <| pu1 <| nT <| blockE ?_
 have z0 := Sat.nilc d0
 have a1 := OwnT.nil (enc := encTap) (E := 123) (sz := 2) fR
 have b1 := Sat.nilc z0
 refine loopA (γ := Nat × (List Tap) × (Option Addr) × Nat × Nat × Chunk × Chunk) (fun ⟨i, zs, azs, nzs, kzs, czs, Gzs⟩ => [(0, I n0), (1, I m0), (2, I sh), (9, I ((i : Nat) : Int)), (8, .slice azs nzs kzs)]) (fun ⟨i, zs, azs, nzs, kzs, czs, Gzs⟩ w => Sat W w (Gzs :: czs :: H :: F) ∧ i ≤ m0.toNat ∧ (∀ z ∈ zs, tapB z) ∧ (zs.length = i) ∧ OwnT encTap 123 2 azs nzs kzs zs czs ∧ (∀ z ∈ zs, Tap.Ok [Gzs] z)) (fun ⟨i, zs, azs, nzs, kzs, czs, Gzs⟩ => m0.toNat - i) (0, [], none, 0, 0, [], []) ⟨b1, om, (by intro z hz; cases hz), by rfl, a1, (by intro z hz; cases hz)⟩ ?_
 rintro ⟨i, zs, azs, nzs, kzs, czs, Gzs⟩ ρ _ ⟨h0, hi, hB, hzl, hOzs, hDzs⟩
 have hn_zs := hOzs.len; have hl_zs := hOzs.le
 refine seqE <| sR <| pu3 <| nT ?_
 refine cD (((i : Nat) : Int) < m0) (fun c1 => ?_) (fun c1 => ?_)
 rotate_left
 ·refine exitE <| xB <| thenK_n <| sR <| pu3 <| nT <| retE <| retT [.slice azs nzs kzs, I 0] ?_
  exact ⟨_, _, _, zs, _, _, _, rfl, hOzs, hDzs, ⟨om, hB⟩, h0⟩
 refine kT <| seqE <| blockE <| seqE ?_
 have hm1 := mul_bd (a := ((i : Nat) : Int)) (b := n0) (A := 128) (B := 128) om om; have hm2 : (((i : Nat) : Int) + 1) * n0 = ((i : Nat) : Int) * n0 + n0 := by rw [Int.add_mul, Int.one_mul]
 refine regionE <| pu2 ?_
 refine sMul ((i : Nat) : Int) n0 ?_
 refine pu1 ?_
 refine sAdd ((i : Nat) : Int) 1 ?_
 refine pu1 ?_
 refine sMul (((i : Nat) : Int) + 1) n0 ?_
 refine pu2 <| nT <| sR <| pu2 ?_
 refine sQuo (((i : Nat) : Int) * n0) m0 ?_
 refine pu1 ?_
 refine sAlloc h0 Tryz.zeroValue123 ?_
 intro i0 _ d1
 refine sT d1 0 0 (.agg #[I ((((i : Nat) : Int) * n0).tdiv m0), .slice none 0 0]) [I ((((i : Nat) : Int) * n0).tdiv m0), .slice none 0 0] #[I ((((i : Nat) : Int) * n0).tdiv m0), .slice none 0 0] Tryz.sizeOf123 ?_
 intro _ j0
 refine nT <| seqE ?_
 have hq := Int.mul_tdiv_add_tmod (((i : Nat) : Int) * n0) m0; have hq1 := Int.tmod_lt_of_pos (((i : Nat) : Int) * n0) (by omega : 0 < m0); have hq2 := Int.tmod_nonneg m0 (by omega : 0 ≤ (((i : Nat) : Int) * n0)); have hq3 := Int.mul_comm ((((i : Nat) : Int) * n0).tdiv m0) m0; have hq5 := tdiv_bd (a := (((i : Nat) : Int) * n0)) (b := m0) (A := 16384) om om
 refine regionE <| pu1 <| nT <| seqE <| sR <| pu1 ?_
 refine sL j0 0 0 (I ((((i : Nat) : Int) * n0).tdiv m0)) (Tryz.isAgg3 _) ?_
 refine pu1 <| nT <| blockE ?_
 have e1 := Sat.nilc j0
 have f1 := OwnT.nil (enc := encI) (E := 3) (sz := 1) fR
 refine loopA (γ := Nat × Int × (List Int) × (Option Addr) × Nat × Nat × Chunk) (fun ⟨u, kk, ps, aps, nps, kps, cps⟩ => [(0, I n0), (1, I m0), (2, I sh), (9, I ((i : Nat) : Int)), (8, .slice azs nzs kzs), (10, I (((i : Nat) : Int) * n0)), (11, I ((((i : Nat) : Int) + 1) * n0)), (12, Pt i0 0), (14, I kk), (13, .slice aps nps kps)]) (fun ⟨u, kk, ps, aps, nps, kps, cps⟩ w => Sat W w (cps :: [(i0, .cells #[I ((((i : Nat) : Int) * n0).tdiv m0), .slice none 0 0] 123 (0, 0))] :: Gzs :: czs :: H :: F) ∧ u ≤ 20000 ∧ (∀ z ∈ ps, 1 ≤ z ∧ z ≤ 16384) ∧ ((u : Int) + ((((i : Nat) : Int) * n0).tdiv m0) = kk ∧ (((i : Nat) : Int) * n0) < kk * m0 + m0 ∧ kk * m0 ≤ (((i : Nat) : Int) * n0) + n0 + m0 ∧ (u = 0 → kk * m0 ≤ (((i : Nat) : Int) * n0))) ∧ (ps.length = u) ∧ OwnT encI 3 1 aps nps kps ps cps) (fun ⟨u, kk, ps, aps, nps, kps, cps⟩ => 20000 - u) (0, ((((i : Nat) : Int) * n0).tdiv m0), [], none, 0, 0, []) ⟨e1, om, (by intro z hz; cases hz), om, by rfl, f1⟩ ?_
 rintro ⟨u, kk, ps, aps, nps, kps, cps⟩ ρ _ ⟨e0, hu, hP, hk, hpl, hOps⟩
 have hn_ps := hOps.len; have hl_ps := hOps.le
 refine seqE <| seqE ?_
 have hkm := le_mul_pos (k := kk) (m := m0) om om; have hkm1 : (kk + 1) * m0 = kk * m0 + m0 := by rw [Int.add_mul, Int.one_mul]
 refine regionE <| pu2 ?_
 refine sMul kk m0 ?_
 refine pu2 <| nT ?_
 refine cD ((kk * m0) < ((((i : Nat) : Int) + 1) * n0)) (fun g1 => ?_) (fun g1 => ?_)
 ·refine kT <| seqE <| blockE <| regionE <| pu3 ?_
  refine sAdd kk 1 ?_
  refine pu1 ?_
  refine sMul (kk + 1) m0 ?_
  refine stepY (I (min ((((i : Nat) : Int) + 1) * n0) ((kk + 1) * m0))) rfl rfl (Y_min2 ((((i : Nat) : Int) + 1) * n0) ((kk + 1) * m0) rfl rfl kr kr) ?_
  refine pu3 ?_
  refine sMul kk m0 ?_
  refine stepY (I (max (((i : Nat) : Int) * n0) (kk * m0))) rfl rfl (Y_max2 (((i : Nat) : Int) * n0) (kk * m0) rfl rfl kr kr) ?_
  refine sSub (min ((((i : Nat) : Int) + 1) * n0) ((kk + 1) * m0)) (max (((i : Nat) : Int) * n0) (kk * m0)) ?_
  refine sBS e0 #[I ((min ((((i : Nat) : Int) + 1) * n0) ((kk + 1) * m0)) - (max (((i : Nat) : Int) * n0) (kk * m0)))] Tryz.runUnderlying22 Tryz.sizeOf3 Tryz.zeroValue3 ?_
  intro _ _ h1
  refine sApp (nb := 8) h1 hOps 1 (RdT.blk (enc := encI) (sz := 1) (xs := [((min ((((i : Nat) : Int) + 1) * n0) ((kk + 1) * m0)) - (max (((i : Nat) : Int) * n0) (kk * m0)))]) fR 1 0 rfl rfl rfl om) Tryz.underlying22 (i := Tryz.t3) kr fR ?_
  intro i1 j1 k1 _ l1 m1
  refine pu1 <| nB <| regionE <| pu1 ?_
  refine sAdd kk 1 ?_
  refine pu1 <| nT ?_
  have n1 := (m1.dropAt 0 rfl)
  exact ⟨(u + 1, (kk + 1), (ps ++ [((min ((((i : Nat) : Int) + 1) * n0) ((kk + 1) * m0)) - (max (((i : Nat) : Int) * n0) (kk * m0)))]), i1, (nps + 1), j1, k1), od, alA, n1, om, mem_snoc hP om, om, by simp; omega, l1⟩
 refine exitE <| xB <| thenK_n <| seqE <| sR <| pu3 <| nT ?_
 refine cD (((nps : Nat) : Int) > 8) (fun o1 => ?_) (fun o1 => ?_)
 ·refine sR <| pu2 <| nT <| retE <| tR <| thenK_r <| tR <| thenK_r <| retT [.slice none 0 0, I 9] ?_
  have p1 := (e0.drops [0, 0, 0, 0])
  have q1 : Sat W _ ([] :: [] :: H :: F) := Sat.nilc (Sat.nilc p1)
  exact ⟨none, 0, 0, [], _, [], [], rfl, OwnT.nil fR, (fun z hz => by cases hz), ⟨by simp; omega, (fun z hz => by cases hz)⟩, q1⟩
 refine kT <| seqE ?_
 have hp1 := pow2_pos sh.toNat; have hp2 := pow2_le (a := sh.toNat) (b := 14) om
 refine regionE <| pu1 ?_
 refine stepY (.int .u64 sh) rfl rfl (Y_conv (k := .i64) (a := sh) Tryz.underlying3 Tryz.underlying160 (wrapIn_u64 _ om) rfl kr) ?_
 refine stepY (I (2 ^ (sh).toNat)) rfl rfl (Y_shl1 (k' := .u64) sh rfl kr kr om) ?_
 refine pu1 ?_
 refine sF #[I (2 ^ (sh).toNat), .slice aps nps kps] Tryz.call139 (Calls.mono (r8_divide W _ _ [] (2 ^ (sh).toNat) _ _ _ ps (RdT.flat (hOps.rdAt 0 (by rfl))) om (fun z hz => by have := hP z hz; omega) om (Sat.flat e0)) ?_)
 rintro _ _ ⟨a0, b0, c0, k0, f0, rfl, r1, l0, o0⟩
 refine ⟨_, rfl, ?_⟩
 have s1 := Sat.unflat1 o0; clear o0
 refine pu1 ?_
 refine sT s1 2 1 (.slice a0 b0 c0) [.slice a0 b0 c0] #[I ((((i : Nat) : Int) * n0).tdiv m0), .slice a0 b0 c0] Tryz.sizeOf22 ?_
 intro _ p0
 refine nT <| regionE <| pu1 ?_
 refine lA p0 2 0 2 (Tryz.isAgg123 _) (Tryz.sizeOf123 _) ?_
 refine sBS p0 #[I ((((i : Nat) : Int) * n0).tdiv m0), .slice a0 b0 c0] Tryz.runUnderlying35 Tryz.sizeOf123 Tryz.zeroValue123 ?_
 intro _ _ t1
 refine sApp (nb := 32) t1 hOzs 5 (RdT.blk (enc := encTap) (sz := 2) (xs := [(⟨((((i : Nat) : Int) * n0).tdiv m0), ⟨a0, b0, c0, f0⟩⟩ : Tap)]) fR 1 0 rfl rfl rfl om) Tryz.underlying35 (i := Tryz.t123) kr fR ?_
 intro u1 v1 q0 _ w1 x1
 refine pu1 <| nB <| regionE <| pu1 ?_
 refine sAdd ((i : Nat) : Int) 1 ?_
 refine pu1 <| nT ?_
 have y1 := (x1.drops [0, 1, 1])
 have z1 := (Sat.perm (cs' := (k0 ++ Gzs) :: (q0 :: H :: F)) y1 (by simp))
 exact ⟨(i + 1, (zs ++ [(⟨((((i : Nat) : Int) * n0).tdiv m0), ⟨a0, b0, c0, f0⟩⟩ : Tap)]), u1, (nzs + 1), v1, q0, (k0 ++ Gzs)), od, alA, z1, om, mem_snoc hB (show tapB (⟨((((i : Nat) : Int) * n0).tdiv m0), ⟨a0, b0, c0, f0⟩⟩ : Tap) from ⟨by unfold numB; dsimp only; omega, by have := l0.1; dsimp only; omega, l0.2⟩), by simp; omega, w1, (by
   intro z hz
   rcases List.mem_append.1 hz with h | h
   ·exact (hDzs z h).of_mem mS
   ·simp only [List.mem_singleton] at h; subst h; exact ⟨r1.of_mem mS⟩)⟩
end Go.Proofs.YtdingplbadblpaaGreat

/-
 Whole arrays as values: an element of one. For any program.
-/
namespace Go.E
set_option linter.unusedVariables false
set_option linter.unusedSimpArgs false
section
variable {P : Program} {W w : World} {cs : List Chunk} {ρ : Env} {o : Oper} {ops : Array Oper} {rest : List Oper} {n : Nat} {N : Env → World → Prop}
/-- An element of an array value. -/
theorem Y_idxV (i : Int) (k : Nat) {t E : TypeId} {x y : Operand} {m : Nat} {vs : List Value} {v : Value} (hu : ∀ w, (underlying t).run P w = .ok (.array m E) w) (hsz : ∀ w, (sizeOf E).run P w = .ok 1 w) (hag : ∀ w, (isAgg E).run P w = .ok false w) (hv : vs[k]? = some v)
    (h0 : 0 ≤ i := by omega) (h1 : i < m := by omega) (ho : o.op = .index t x y := by rfl) (hx : ev ρ x = .agg vs.toArray := by kernel_rfl) (hy : ev ρ y = .int .i64 i := by kernel_rfl) (hk : i.toNat = k := by first | rfl | omega) : Yields P ρ o v w := by
  subst hk
  unfold Yields execOp
  rw [ho]
  simp [Instr.index, part, hx, hy, asIntOf, hu, hsz, hag, h0, h1, hv]
theorem sIdxV (i : Int) (k : Nat) {t E : TypeId} {x y : Operand} {m : Nat} {vs : List Value} {v : Value} (hu : ∀ w, (underlying t).run P w = .ok (.array m E) w) (hsz : ∀ w, (sizeOf E).run P w = .ok 1 w) (hag : ∀ w, (isAgg E).run P w = .ok false w) (hv : vs[k]? = some v)
  (h : OpsE P n ops rest N (put ρ o.dst v) w) (h0 : 0 ≤ i := by omega) (h1 : i < m := by omega) (ho : o.op = .index t x y := by rfl) (hg : o.guard = none := by rfl) (hd : dstOK n o.dst = true := by rfl) (hx : ev ρ x = .agg vs.toArray := by kernel_rfl) (hy : ev ρ y = I i := by kernel_rfl) (hk : i.toNat = k := by first | rfl | omega) : OpsE P n ops (o :: rest) N ρ w :=
 stepY _ hg hd (Y_idxV i k hu hsz hag hv h0 h1 ho hx hy hk) h
theorem ptr_triV {E : TypeId} {b : Nat} {vs : List Value} (i : Nat) (hi : cs[i]? = some (Tri b E [] vs [])) : PtR cs b 0 vs :=
  ptr_up (c := Tri b E [] vs []) i hi (tri_at (by simp))
/-- A whole array is read. -/
theorem sLTV (hS : Sat W w cs) (i : Nat) {vs : List Value} {t E : TypeId} {x : Operand} {b k : Nat} (hl : vs.length = k) (hag : (isAgg t).run P w = .ok true w) (hsz : (sizeOf t).run P w = .ok k w) (h : OpsE P n ops rest N (put ρ o.dst (.agg vs.toArray)) w)
    (ho : o.op = .load t x := by rfl) (hg : o.guard = none := by rfl) (hd : dstOK n o.dst = true := by rfl) (hx : ev ρ x = .pointer (some ⟨b, 0, none⟩) := by kernel_rfl) (hi : cs[i]? = some (Tri b E [] vs []) := by rfl) : OpsE P n ops (o :: rest) N ρ w :=
  stepY _ hg hd (Y_loadA ho hag hsz hx hl hS (ptr_triV i hi)) h
theorem sat_hdV {c d : Chunk} (e : c = d) (h : Sat W w (c :: cs)) : Sat W w (d :: cs) := e ▸ h
theorem flat1_len {α : Type} {enc : α → List Value} {xs : List α} {n : Nat} (he : ∀ x, (enc x).length = 1) (h : xs.length = n) : (xs.flatMap enc).length = n := by rw [flatMap_len (sz := 1) he, h, Nat.mul_one]
theorem flat1_map {α : Type} {f : α → Value} : ∀ xs : List α, (xs.flatMap fun y => [f y]) = xs.map f
  | [] => rfl
  | a :: l => by rw [List.flatMap_cons, flat1_map l]; rfl
theorem flat1_at {α : Type} {f : α → Value} {xs : List α} {k : Nat} {x : α} (h : xs[k]? = some x) : (xs.flatMap fun y => [f y])[k]? = some (f x) := by
  rw [flat1_map, List.getElem?_map, h]; rfl
end
end Go.E
