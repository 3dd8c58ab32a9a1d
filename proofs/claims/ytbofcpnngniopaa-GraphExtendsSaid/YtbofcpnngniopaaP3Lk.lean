import Derived.Test.YtbofcpnngniopaaP3Cy
namespace Go.Proofs.Ytbofcpnngniopaa
open Go Go.E
set_option linter.unusedVariables false
set_option linter.unusedSimpArgs false
set_option linter.unnecessarySimpa false
set_option maxRecDepth 100000
set_option maxHeartbeats 2000000
variable {W w : World} {H : Chunk} {F : List Chunk}
/-! ### what cycles are -/
-- squeezed
theorem cover_le : ∀ {n : Nat} {l : List Nat}, (∀ k, k < n → k ∈ l) → n ≤ l.length
  | 0, _, _ => Nat.zero_le _
  | n + 1, l, h => by
    have h1 := h n (by omega)
    have h2 := cover_le (n := n) (l := l.erase n) (fun k hk => (List.mem_erase_of_ne (by omega)).2 (h k (by omega)))
    rw [List.length_erase_of_mem h1] at h2
    have : 0 < l.length := List.length_pos_of_mem h1
    omega
theorem closed_walk {e : Nat → Nat → Bool} {P : Nat → Prop} {N a0 : Nat} (hU : ∀ a, P a → ∃ b, e a b = true ∧ P b) (hb : ∀ a, P a → a < N) (h0 : P a0) : ∃ L a, walkG e L a a := by
 classical
 let f : Nat → Nat := fun a => if h : P a then Classical.choose (hU a h) else 0
 have hf : ∀ a, P a → e a (f a) = true ∧ P (f a) := by
  intro a h
  have := Classical.choose_spec (hU a h)
  simp only [f, h, dif_pos]
  exact this
 let s : Nat → Nat := fun k => Nat.rec a0 (fun _ x => f x) k
 have hs : ∀ k, P (s k) := by
  intro k
  induction k with
  | zero => exact h0
  | succ k ih => exact (hf _ ih).2
 have hw : ∀ d i, walkG e d (s i) (s (i + d + 1)) := by
  intro d
  induction d with
  | zero => intro i; exact (hf _ (hs i)).1
  | succ d ih =>
   intro i
   refine ⟨s (i + 1), (hf _ (hs i)).1, ?_⟩
   rw [show i + (d + 1) + 1 = (i + 1) + d + 1 by omega]
   exact ih (i + 1)
 by_cases hc : ∃ i j, i < j ∧ s i = s j
 ·obtain ⟨i, j, hij, he⟩ := hc
  refine ⟨j - i - 1, s i, ?_⟩
  have := hw (j - i - 1) i
  rw [show i + (j - i - 1) + 1 = j by omega, ← he] at this
  exact this
 ·exfalso
  have hn : ((List.range (N + 1)).map s).Nodup := by
   rw [List.nodup_iff_pairwise_ne, List.pairwise_map]
   exact List.pairwise_lt_range.imp (fun h he => hc ⟨_, _, h, he⟩)
  have := nodup_le (n := N) hn (fun x hx => by
   obtain ⟨y, _, rfl⟩ := List.mem_map.1 hx
   exact hb _ (hs y)) rfl
  rw [List.length_map, List.length_range] at this
  omega
theorem list_stuck {ni : Int} (hni : 0 ≤ ni) {D : List (List Int)} : ∀ (k : Nat) {out : List Int}, OutG ni D out → D.length + 1 ≤ out.length + k → pickG ni (listG ni D k out) D 0 < 0
  | 0, out, h, hl => by have := h.len; omega
  | k + 1, out, h, hl => by
    unfold listG
    by_cases c : pickG ni out D 0 < 0
    · rw [if_pos c]; exact c
    · rw [if_neg c]
      rcases pick0 hni (out := out) (D := D) with h1 | ⟨m, h1, h2, _⟩
      · exact absurd h1.1 c
      · rw [h1]
        exact list_stuck hni k (h.add h2) (by rw [List.length_append, List.length_singleton]; omega)
/-- Where not every stage could be listed there is a cycle. -/
theorem stuck_cyc {ni : Nat} {D : List (List Int)} {out : List Int} (hR : RngG ni D) (hp : pickG ni out D 0 < 0) (hl : out.length < D.length) : ∃ L a, walkG (edgG ni D) L a a := by
 have hno : ∀ k, ¬ canG ni D out k := by
  rcases pick0 (ni := ni) om (out := out) (D := D) with h | ⟨k, h, _⟩
  ·exact h.2
  ·omega
 obtain ⟨k0, hk0, hk1⟩ : ∃ k, k < D.length ∧ ¬ ((ni : Int) + ((k : Nat) : Int)) ∈ out := by
  apply Classical.byContradiction
  intro hc
  have := cover_le (n := D.length) (l := out.map fun x => (x - ((ni : Nat) : Int)).toNat) (fun k hk => by
   refine List.mem_map.2 ⟨((ni : Nat) : Int) + ((k : Nat) : Int), Classical.byContradiction fun h => hc ⟨k, hk, h⟩, om⟩)
  rw [List.length_map] at this
  omega
 refine closed_walk (P := fun a => ni ≤ a ∧ a < ni + D.length ∧ ¬ ((a : Nat) : Int) ∈ out) (N := ni + D.length) (a0 := ni + k0) ?_ (fun a h => h.2.1) ⟨om, om, by rw [show (((ni + k0 : Nat)) : Int) = ((ni : Nat) : Int) + ((k0 : Nat) : Int) by omega]; exact hk1⟩
 rintro a ⟨h1, h2, h3⟩
 have hs : D[a - ni]? = some (D[a - ni]'om) := List.getElem?_eq_getElem om
 have hc : ∃ x ∈ D[a - ni]'om, ¬ (x < ((ni : Nat) : Int) ∨ x ∈ out) := by
  apply Classical.byContradiction
  intro h
  refine hno (a - ni) ⟨_, hs, ?_, fun x hx => Classical.byContradiction fun hn => h ⟨x, hx, hn⟩⟩
  rw [show ((ni : Nat) : Int) + ((a - ni : Nat) : Int) = ((a : Nat) : Int) by omega]; exact h3
 obtain ⟨x, hx, hn⟩ := hc
 have hr := hR _ (List.mem_of_getElem? hs) x hx
 have hx1 : ¬ x < ((ni : Nat) : Int) := fun h => hn (.inl h)
 have hx2 : ¬ x ∈ out := fun h => hn (.inr h)
 refine ⟨x.toNat, edg_iff.2 ⟨h1, _, hs, by rw [show ((x.toNat : Nat) : Int) = x by omega]; exact hx⟩, om, om, by rw [show ((x.toNat : Nat) : Int) = x by omega]; exact hx2⟩
theorem cyc_ex {ni : Nat} {D : List (List Int)} (hR : RngG ni D) (hN : ni + D.length ≤ 16) (h : ∃ L a, walkG (edgG ni D) L a a) : ∃ rt bs, minV (fwG (edgG ni D) 16) 16 = (rt, bs) ∧ 0 ≤ rt := by
 obtain ⟨L, a, hw⟩ := h
 obtain ⟨M, _, hM⟩ := lst_ex hw
 have h1 := lst_lt edg_src hM
 have h2 := lst_fw (edg_dst hR hN) hM om
 obtain ⟨y, hy⟩ := walk_out hw
 have h3 := edg_src a y hy
 rcases minV_spec (f := fwG (edgG ni D) 16) 16 with ⟨_, _, h4⟩ | ⟨i, _, h5, _⟩
 ·have := h4 a om; omega
 ·cases hm : minV (fwG (edgG ni D) 16) 16 with
  | mk rt bs => rw [hm] at h5; exact ⟨rt, bs, rfl, by simp only at h5; omega⟩
attribute [local irreducible] fwG minV
/-- A way of k steps, as a list of its nodes. -/
def WO (f : Nat → Int) (S : Int → List Int) : Nat → Int → List Int → Prop
  | 0, _, l => l = []
  | k + 1, a, l => ∃ n t, l = n :: t ∧ (n ∈ S a ∧ 0 ≤ n ∧ f n.toNat = ((k : Nat) : Int) + 1) ∧ WO f S k n t
theorem src_edg {ni : Nat} {D : List (List Int)} {a y : Int} (h0 : 0 ≤ a) (hy : 0 ≤ y) (ha : ((ni : Nat) : Int) ≤ a) (h : y ∈ srcG ni D a) : edgG ni D a.toNat y.toNat = true := by
  unfold srcG at h
  rw [List.getD_eq_getElem?_getD] at h
  cases hs : D[(a - ((ni : Nat) : Int)).toNat]? with
  | none => rw [hs] at h; cases h
  | some s =>
    rw [hs] at h
    exact edg_iff.2 ⟨by omega, s, by rw [show a.toNat - ni = (a - ((ni : Nat) : Int)).toNat by omega]; exact hs, by rw [show ((y.toNat : Nat) : Int) = y by omega]; exact h⟩
theorem WO.at {ni rt : Nat} {D : List (List Int)} : ∀ {k : Nat} {a : Int} {l : List Int}, WO (fun x => fwG (edgG ni D) 16 x rt) (srcG ni D) k a l → 0 ≤ a → fwG (edgG ni D) 16 a.toNat rt = ((k : Nat) : Int) + 1 → k + 1 < 1000 →
  (a :: l).length = k + 1 ∧ ∀ i x, (a :: l)[i]? = some x → 0 ≤ x ∧ fwG (edgG ni D) 16 x.toNat rt + ((i : Nat) : Int) = ((k : Nat) : Int) + 1 ∧ (∀ y, (a :: l)[i + 1]? = some y → y ∈ srcG ni D x) ∧ ((i = 0 ∧ x = a) ∨ ∃ j, i = j + 1 ∧ walkG (edgG ni D) j a.toNat x.toNat)
 | 0, a, l, h, h0, hf, _ => by
  have h : l = [] := h
  subst h
  refine ⟨rfl, fun i x hx => ?_⟩
  cases i with
  | zero =>
   obtain rfl : a = x := by simpa using hx
   exact ⟨h0, om, fun y hy => by simp at hy, .inl ⟨rfl, rfl⟩⟩
  | succ i => simp at hx
 | k + 1, a, l, h, h0, hf, hk => by
  obtain ⟨n, t, rfl, ⟨h1, h2, h3⟩, h4⟩ := h
  have h3 : fwG (edgG ni D) 16 n.toNat rt = ((k : Nat) : Int) + 1 := h3
  obtain ⟨hl, hr⟩ := WO.at h4 h2 h3 om
  have hst := fw_stage (ni := ni) (D := D) (N := 16) (a := a.toNat) (b := rt) om
  have he := src_edg h0 h2 om h1
  refine ⟨by rw [List.length_cons, hl], fun i x hx => ?_⟩
  cases i with
  | zero =>
   obtain rfl : a = x := by simpa using hx
   exact ⟨h0, om, fun y hy => by
    have e : n = y := by simpa using hy
    rw [← e]; exact h1, .inl ⟨rfl, rfl⟩⟩
  | succ i =>
   obtain ⟨q1, q2, q3, q4⟩ := hr i x (by simpa using hx)
   refine ⟨q1, om, fun y hy => q3 y (by simpa using hy), .inr ⟨i, rfl, ?_⟩⟩
   rcases q4 with ⟨rfl, rfl⟩ | ⟨j, rfl, q5⟩
   ·exact he
   ·exact ⟨n.toNat, he, q5⟩
/-! ### jobs of copies with freely chosen sources -/
def LK (n : Nat) (S : List StageV) : Prop := S.length = n ∧ ∀ s ∈ S, s.kind = 6 ∧ (0 ≤ s.a ∧ s.a ≤ ((n : Nat) : Int)) ∧ (s.b = -1 ∨ (0 ≤ s.b ∧ s.b ≤ ((n : Nat) : Int)))
theorem lk_safe {n : Nat} {xs : List Int} (hl : xs.length = n) (h : ∀ x ∈ xs, 0 ≤ x ∧ x ≤ ((n : Nat) : Int)) : LK n (xs.map safe) := by
  refine ⟨by rw [List.length_map]; exact hl, fun s hs => ?_⟩
  obtain ⟨x, hx, rfl⟩ := List.mem_map.1 hs
  exact ⟨rfl, h x hx, .inl rfl⟩
theorem lk_set {n : Nat} {ss : List Stage} {i : Nat} {x y : Stage} (h : LK n (ss.map Stage.v)) (hx : ss[i]? = some x) (e1 : y.v.kind = x.v.kind) (e2 : y.v.a = x.v.a) (e3 : 0 ≤ y.v.b ∧ y.v.b ≤ ((n : Nat) : Int)) : LK n ((ss.set i y).map Stage.v) := by
  refine ⟨by have := h.1; simpa using this, fun s hs => ?_⟩
  obtain ⟨z, hz, rfl⟩ := List.mem_map.1 hs
  rcases List.mem_or_eq_of_mem_set hz with h1 | h1
  · exact h.2 _ (List.mem_map_of_mem h1)
  · have := h.2 _ (List.mem_map_of_mem (List.mem_of_getElem? hx))
    subst h1
    rw [e1, e2]
    exact ⟨this.1, this.2.1, .inr e3⟩
theorem job_v {q : Job} {xs : List Int} (hv : q.v = jobL xs) {t : Sl Stage} : Job.v ⟨q.inputs, t, q.outputs, q.priority⟩ = jobOf [pl0] (t.l.map Stage.v) 0 := by
  have h1 : q.inputs.l.map Plane.v = [pl0] := congrArg JobV.inputs hv
  have h2 : q.outputs.l = [0] := congrArg JobV.outputs hv
  have h3 : q.priority = 0 := congrArg JobV.priority hv
  unfold Job.v jobOf
  rw [h1, h2, h3]
theorem lk_src {n : Nat} {S : List StageV} (h : LK n S) {s : StageV} (hs : s ∈ S) : ∀ x ∈ srcs s, 0 ≤ x ∧ x < ((n : Nat) : Int) + 1 := by
  intro x hx
  have h1 := h.2 s hs
  unfold srcs at hx
  split at hx
  · rename_i ht
    have ht : s.kind = 6 ∧ ¬ s.b = -1 := ht
    simp only [List.mem_cons, List.not_mem_nil, or_false] at hx
    rcases hx with rfl | rfl <;> omega
  · rw [List.mem_singleton.1 hx]; omega
theorem lk_chk {n : Nat} {S : List StageV} (h : LK n S) (h1 : 1 ≤ n) (h8 : n ≤ 8) : chkCode (jobOf [pl0] S 0) = 0 := by
  have hl := h.1
  unfold chkCode jobOf
  dsimp only
  rw [if_pos (by simp only [List.length_singleton]; omega), if_pos (by omega), if_pos, if_pos]
  · unfold inR; simp; omega
  · rw [List.all_eq_true]
    intro s hs
    unfold inR
    rw [List.all_eq_true]
    intro x hx
    have := lk_src h hs x hx
    simp only [List.length_singleton]
    exact decide_eq_true (by omega)
theorem ord_cases {j : JobV} (h : chkCode j = 0) : ((ordV j).2 = 0 ∧ (ordV j).1.length = j.stages.length ∧ cycV j = []) ∨ ((ordV j).2 = 7 ∧ (ordV j).1 = [] ∧ ∃ rt bs, minV (fwG (edgG j.inputs.length (j.stages.map srcs)) 16) 16 = (rt, bs) ∧ 0 ≤ rt ∧ cycV j = cycG j.inputs.length (j.stages.map srcs)) := by
 have hl := ord_list h
 have hc := go_list (ni := j.inputs.length) om (D := j.stages.map srcs) j.stages.length OutG.nil (by simp)
 have hb := chk_len h
 by_cases c : (listV j).length < j.stages.length
 ·right
  have e : ordV j = ([], 7) := by rw [hl.1, if_pos c]
  have hst := list_stuck (ni := j.inputs.length) om (D := j.stages.map srcs) (j.stages.length + 1) OutG.nil (by simp)
  have hR := chk_rng h
  obtain ⟨rt, bs, h1, h2⟩ := cyc_ex hR (by rw [List.length_map]; omega) (stuck_cyc hR hst (by rw [List.length_map]; exact c))
  exact ⟨by rw [e], by rw [e], rt, bs, h1, h2, by unfold cycV; rw [e, if_pos rfl]⟩
 ·left
  have e : ordV j = (listV j, 0) := by rw [hl.1, if_neg c]
  have hlen : (listV j).length = j.stages.length := by
   have := hl.2.len
   rw [List.length_map] at this; omega
  exact ⟨by rw [e], by rw [e]; exact hlen, by unfold cycV; rw [e, if_neg (by simp)]⟩
theorem l17_links {p : Nat} {a : Option Addr} {n k : Nat} {i : Int} {xs : List Int} (hR : RdT encI 1 [H] a n k xs) (hi : 0 ≤ i ∧ i ≤ n) (hS : Sat W w ([(p, .cells #[.slice a n k, I i] 47 (0, 0))] :: H :: F)) (m : Int) (hm : 1 ≤ m ∧ m ≤ 8) :
  Calls Try.prog 6 #[Pt p 0, I m] w fun e w' => ∃ (q : Job) (G : Chunk), e = .returned (.agg (encJob q).toArray) ∧ (Job.Ok [G] q) ∧ (∃ S, LK m.toNat S ∧ q.v = jobOf [pl0] S 0) ∧ (q.inputs.n = 1 ∧ q.stages.n = m.toNat ∧ q.outputs.n = 1) ∧ ∃ i' : Int, (0 ≤ i' ∧ i' ≤ n) ∧ Sat W w' ([(p, .cells #[.slice a n k, I i'] 47 (0, 0))] :: G :: H :: F) := by
 have hle := hR.le
 refine callsA 41 Try.func6 rfl ?_
 refine sR ?_
 refine sAlloc hS Try.zeroValue28 ?_
 intro c0 _ r0
 refine nT <| sR <| pu1 <| nT <| seqE <| sR <| pu1 <| nT <| blockE ?_
 have s0 := Sat.nilc r0
 have t0 := OwnT.nil (enc := encI) (E := 3) (sz := 1) fR
 refine loopA (γ := Nat × Int × (List Int) × (Option Addr) × Nat × Nat × Chunk) (fun ⟨i, iti, zs, azs, nzs, kzs, czs⟩ => [(0, Pt p 0), (1, I m), (4, Pt c0 0), (6, I ((i : Nat) : Int)), (5, .slice azs nzs kzs)]) (fun ⟨i, iti, zs, azs, nzs, kzs, czs⟩ w => Sat W w (czs :: [(c0, .cells #[.slice none 0 0, .slice none 0 0, .slice none 0 0, I 0] 28 (0, 0))] :: [(p, .cells #[.slice a n k, I iti] 47 (0, 0))] :: H :: F) ∧ i ≤ m.toNat ∧ (∀ x ∈ zs, 0 ≤ x ∧ x ≤ m) ∧ (zs.length = i) ∧ (0 ≤ iti ∧ iti ≤ n) ∧ OwnT encI 3 1 azs nzs kzs zs czs) (fun ⟨i, iti, zs, azs, nzs, kzs, czs⟩ => m.toNat - i) (0, i, [], none, 0, 0, []) ⟨s0, om, (fun x hx => by cases hx), by rfl, om, t0⟩ ?_
 rintro ⟨i, iti, zs, azs, nzs, kzs, czs⟩ ρ _ ⟨m0, hi, hzr, hzl, hiti, hOzs⟩
 have hn_zs := hOzs.len; have hl_zs := hOzs.le
 refine seqE <| sR <| pu3 <| nT ?_
 refine cD (((i : Nat) : Int) < m) (fun u0 => ?_) (fun u0 => ?_)
 ·refine kT <| seqE <| blockE <| regionE <| pu3 ?_
  refine sAdd m 1 ?_
  have v0 := (m0.pick 2 rfl)
  refine cX Try.call13 (tape_next (RdT.flat (hR.up 2 (by rfl))) om (Sat.flat1 v0) (m + 1) om) ?_
  rintro _ _ ⟨h0, rfl, _, w0, _, x0⟩
  have y0 := Sat.unflat1 x0
  refine sBS y0 #[I h0] Try.runUnderlying22 Try.sizeOf3 Try.zeroValue3 ?_
  intro _ _ z0
  refine sApp (nb := 8) z0 hOzs 2 (RdT.blk (enc := encI) (sz := 1) (xs := [h0]) fR 1 0 rfl rfl rfl om) Try.underlying22 (i := Try.t3) kr fR ?_
  intro a1 b1 c1 _ d1 e1
  refine pu1 <| nB <| regionE <| pu1 ?_
  refine sAdd ((i : Nat) : Int) 1 ?_
  refine pu1 <| nT ?_
  have f1 := ((e1.picks [3, 3]).dropAt 2 rfl)
  exact ⟨(i + 1, w0, (zs ++ [h0]), a1, (nzs + 1), b1, c1), od, alA, f1, om, (mem_snoc hzr om), by simp; omega, om, d1⟩
 refine exitE <| xB <| thenK_n <| sR <| pu1 ?_
 refine cX Try.call14 (l17_job (RdT.flat (hOzs.rdAt 0 (by rfl))) om (Sat.flat m0)) ?_
 rintro _ _ ⟨a0, g1, h1, d0, rfl, i1, j1, k1, l1, m1, ⟨n0, n1, _, o1⟩, p1⟩
 have q1 := Sat.unflat3 p1
 have hlk0 : LK m.toNat (a0.stages.l.map Stage.v) := by rw [show a0.stages.l.map Stage.v = zs.map safe from congrArg JobV.stages n0]; exact lk_safe om (fun x hx => by have := hzr x hx; omega)
 refine sAlloc q1 Try.zeroValue28 ?_
 intro f0 _ r1
 refine sT r1 0 0 (.agg (encJob a0).toArray) (encJob a0) (encJob a0).toArray Try.sizeOf28 ?_
 intro _ s1
 refine nT <| seqE <| sR <| pu1 <| nT <| blockE ?_
 have t1 := (s1.pick 1 rfl)
 have u1 := (t1.pick 2 rfl)
 refine loopA (γ := Nat × Int × (List Stage) × (Option Addr) × Nat × Nat × Chunk × Chunk) (fun ⟨i, iti, ss, ass, nss, kss, css, Gss⟩ => [(0, Pt p 0), (1, I m), (4, Pt c0 0), (7, Pt f0 0), (8, I ((i : Nat) : Int))]) (fun ⟨i, iti, ss, ass, nss, kss, css, Gss⟩ w => Sat W w (Gss :: css :: [(f0, .cells #[.slice a0.inputs.a a0.inputs.n a0.inputs.k, .slice ass nss kss, .slice a0.outputs.a a0.outputs.n a0.outputs.k, I a0.priority] 28 (0, 0))] :: d0 :: czs :: [(c0, .cells #[.slice none 0 0, .slice none 0 0, .slice none 0 0, I 0] 28 (0, 0))] :: [(p, .cells #[.slice a n k, I iti] 47 (0, 0))] :: H :: F) ∧ i ≤ m.toNat ∧ (LK m.toNat (ss.map Stage.v)) ∧ (0 ≤ iti ∧ iti ≤ n) ∧ OwnT encStage 40 18 ass nss kss ss css ∧ (∀ z ∈ ss, Stage.Ok [Gss] z)) (fun ⟨i, iti, ss, ass, nss, kss, css, Gss⟩ => m.toNat - i) (0, iti, a0.stages.l, a0.stages.a, a0.stages.n, a0.stages.k, g1, h1) ⟨u1, om, hlk0, om, i1, j1⟩ ?_
 rintro ⟨i, iti, ss, ass, nss, kss, css, Gss⟩ ρ _ ⟨i0, hi, hLK, hiti, hOss, hDss⟩
 have hn_ss := hOss.len; have hl_ss := hOss.le
 have hlk1 := hLK.1; rw [List.length_map] at hlk1
 refine seqE <| sR <| pu3 <| nT ?_
 refine cD (((i : Nat) : Int) < m) (fun v1 => ?_) (fun v1 => ?_)
 rotate_left
 ·refine exitE <| xB <| thenK_n <| sR ?_
  refine lA i0 2 0 4 (Try.isAgg28 _) (Try.sizeOf28 _) ?_
  refine sTw i0 5 [.slice a0.inputs.a a0.inputs.n a0.inputs.k, .slice ass nss kss, .slice a0.outputs.a a0.outputs.n a0.outputs.k, I a0.priority] Try.sizeOf28 ?_
  intro _ o0
  refine nT <| retE <| retN (vs := [.agg #[.slice a0.inputs.a a0.inputs.n a0.inputs.k, .slice ass nss kss, .slice a0.outputs.a a0.outputs.n a0.outputs.k, I a0.priority]]) rfl (.cons (.cell _ _ _ _ kr (lvA o0 5 0 [.slice a0.inputs.a a0.inputs.n a0.inputs.k, .slice ass nss kss, .slice a0.outputs.a a0.outputs.n a0.outputs.k, I a0.priority] (Try.isAgg28 _) (Try.sizeOf28 _) rfl rfl rfl)) .nil) ?_
  have w1 := ((o0.picks [1, 6]).drops [3, 4, 4])
  have x1 : Sat W _ ([(p, .cells #[.slice a n k, I iti] 47 (0, 0))] :: (css ++ Gss ++ d0) :: (H :: F)) := Sat.perm (show Sat W _ ([(p, .cells #[.slice a n k, I iti] 47 (0, 0))] :: css :: Gss :: d0 :: H :: F) from w1) (by simp [Value.cells])
  have hlk2 := hLK.1; rw [List.length_map] at hlk2; have hos := hOss.len
  exact ⟨(⟨a0.inputs, ⟨ass, nss, kss, ss⟩, a0.outputs, a0.priority⟩ : Job), (css ++ Gss ++ d0), rfl, ⟨(k1).of_mem mS, (fun z hz => (l1 z hz).of_mem mS), ((hOss.rdAt (cs := [css]) 0 rfl)).of_mem mS, (fun z hz => (hDss z hz).of_mem mS), (m1).of_mem mS⟩, ⟨ss.map Stage.v, hLK, job_v n0⟩, ⟨n1, (show nss = m.toNat by omega), o1⟩, _, om, x1⟩
 refine kT <| seqE <| blockE <| sR <| pu1 ?_
 have y1 := (i0.pick 6 rfl)
 refine cX Try.call13 (tape_next (RdT.flat (hR.up 6 (by rfl))) om (Sat.flat1 y1) 3 om) ?_
 rintro _ _ ⟨z1, rfl, _, a2, _, b2⟩
 have j0 := Sat.unflat1 b2
 refine pu1 <| nT ?_
 refine cE z1 0 (fun c2 => ?_) (fun c2 => ?_)
 rotate_left
 ·refine skipE <| blockK_n <| thenK_n <| regionE <| pu1 ?_
  refine sAdd ((i : Nat) : Int) 1 ?_
  refine pu1 <| nT ?_
  have d2 := (j0.picks [6, 6, 6, 6, 6, 6])
  exact ⟨(i + 1, a2, ss, ass, nss, kss, css, Gss), od, alA, d2, om, hLK, om, hOss, hDss⟩
 obtain ⟨b0, e2, f2, g0, g2, p0, h2⟩ := OwnT.elem hOss ((i : Nat) : Int)
 rw [Int.toNat_natCast] at g0 g2 p0
 refine drawE [6, 9] [(1, ⟨f0, 1, none⟩, .slice ass nss kss)] [(true, [0, 2, 3, 4]), (true, [5]), (true, [1]), (false, [6]), (true, [7]), (true, [8]), (false, [9])] rfl kr ⟨.inr (j0.cell 3 rfl rfl), trivial⟩ ?_
 have i2 := j0.drew
 refine wU [0, 2, 3, 4] ?_
 refine wAdd m 1 ?_
 refine wLd (.slice ass nss kss) 0 Try.isAgg26 ?_
 refine wO rfl ?_
 refine cX Try.call13 (tape_next (RdT.flat (hR.up 6 (by rfl))) om (Sat.flat1 i2) (m + 1) om) ?_
 rintro _ _ ⟨e0, rfl, _, k0, _, j2⟩
 have q0 := Sat.unflat1 j2
 refine nilO ⟨⟨.inr (q0.cell 3 rfl rfl), trivial⟩, ?_⟩
 refine wY (.pointer (some ⟨e2, f2 + i * 18, none⟩)) rfl (fun w _ => Y_idx (a := ass) (i := ((i : Nat) : Int)) (len := nss) (cap := kss) rfl Try.runUnderlying26 Try.sizeOf40 kr kr p0) ?_
 refine wU [8] ?_
 refine wO rfl ?_
 refine sStF q0 hOss h2 2 i 2 b0 (⟨b0.kind, b0.a, e0, b0.barrier, b0.edgePolicy, b0.edgeFill, b0.kW, b0.kH, b0.weights, b0.row, b0.col, b0.shift, b0.shift2, b0.x, b0.y, b0.bins, b0.ops, b0.max_⟩ : Stage) g0 (I e0) [I e0] Try.sizeOf3 ?_
 intro _ l0 k2 l2
 refine nilO ⟨dA, ?_⟩
 refine wN ?_
 refine blockK_n <| thenK_n <| regionE <| pu1 ?_
 refine sAdd ((i : Nat) : Int) 1 ?_
 refine pu1 <| nT ?_
 have m2 := (l2.picks [6, 6, 6, 6, 6, 6])
 have n2 := (Sat.perm (cs' := (Gss) :: (l0 :: [(f0, .cells #[.slice a0.inputs.a a0.inputs.n a0.inputs.k, .slice ass nss kss, .slice a0.outputs.a a0.outputs.n a0.outputs.k, I a0.priority] 28 (0, 0))] :: d0 :: czs :: [(c0, .cells #[.slice none 0 0, .slice none 0 0, .slice none 0 0, I 0] 28 (0, 0))] :: [(p, .cells #[.slice a n k, I k0] 47 (0, 0))] :: H :: F)) (show Sat W _ (Gss :: l0 :: [(f0, .cells #[.slice a0.inputs.a a0.inputs.n a0.inputs.k, .slice ass nss kss, .slice a0.outputs.a a0.outputs.n a0.outputs.k, I a0.priority] 28 (0, 0))] :: d0 :: czs :: [(c0, .cells #[.slice none 0 0, .slice none 0 0, .slice none 0 0, I 0] 28 (0, 0))] :: [(p, .cells #[.slice a n k, I k0] 47 (0, 0))] :: H :: F) from m2) (by simp))
 exact ⟨(i + 1, k0, (ss.set i (⟨b0.kind, b0.a, e0, b0.barrier, b0.edgePolicy, b0.edgeFill, b0.kW, b0.kH, b0.weights, b0.row, b0.col, b0.shift, b0.shift2, b0.x, b0.y, b0.bins, b0.ops, b0.max_⟩ : Stage)), ass, nss, kss, l0, (Gss)), od, alA, n2, om, (lk_set hLK g0 rfl rfl (show 0 ≤ e0 ∧ e0 ≤ ((m.toNat : Nat) : Int) from by omega)), om, k2, (mem_set (fun z hz => (hDss z hz).of_mem mS) (have h := hDss b0 (List.mem_of_getElem? g0); ⟨h.weights, h.row, h.col, h.x, h.xD, h.y, h.yD, h.ops⟩))⟩
end Go.Proofs.Ytbofcpnngniopaa

namespace Go.Proofs.Ytbofcpnngniopaa
open Go Go.E
set_option linter.unusedVariables false
set_option linter.unusedSimpArgs false
set_option linter.unnecessarySimpa false
set_option maxRecDepth 100000
set_option maxHeartbeats 2000000
variable {W w : World} {H : Chunk} {F : List Chunk}
/-! ### orders: sources first, the least first -/
def SP (ni : Int) (D : List (List Int)) (o : List Int) : Prop := ∀ (i : Nat) (x : Int), o[i]? = some x → ∃ m : Nat, x = ni + ((m : Nat) : Int) ∧ canG ni D (o.take i) m ∧ ∀ m', m' < m → ¬ canG ni D (o.take i) m'
theorem list_SP {ni : Int} (hni : 0 ≤ ni) {D : List (List Int)} : ∀ (k : Nat) {out : List Int}, SP ni D out → SP ni D (listG ni D k out)
 | 0, _, h => h
 | k + 1, out, h => by
  unfold listG
  by_cases c : pickG ni out D 0 < 0
  ·rw [if_pos c]; exact h
  ·rw [if_neg c]
   rcases pick0 hni (out := out) (D := D) with h1 | ⟨m, h1, h2, h3⟩
   ·exact absurd h1.1 c
   ·refine list_SP hni k fun i x hx => ?_
    by_cases hi : i < out.length
    ·rw [List.getElem?_append_left hi] at hx
     rw [List.take_append_of_le_length om]
     exact h i x hx
    ·have hl := (List.getElem?_eq_some_iff.1 hx).1
     rw [List.length_append, List.length_singleton] at hl
     obtain rfl : i = out.length := by omega
     rw [List.getElem?_append_right (Nat.le_refl _), Nat.sub_self] at hx
     have hx : pickG ni out D 0 = x := by simpa using hx
     rw [List.take_left]
     exact ⟨m, om, h2, h3⟩
theorem mem_full {ni : Int} {D : List (List Int)} {o : List Int} (h : OutG ni D o) (hl : o.length = D.length) {k : Nat} (hk : k < D.length) : (ni + ((k : Nat) : Int)) ∈ o := by
  apply Classical.byContradiction
  intro hc
  have h1 : OutG ni D (o ++ [ni + ((k : Nat) : Int)]) := by
    refine ⟨fun x hx => ?_, ?_⟩
    · rcases List.mem_append.1 hx with h2 | h2
      · exact h.r x h2
      · rw [List.mem_singleton.1 h2]; omega
    · rw [List.nodup_append]
      refine ⟨h.d, by simp, ?_⟩
      intro a ha b hb
      rw [List.mem_singleton.1 hb]
      rintro rfl; exact hc ha
  have := h1.len
  rw [List.length_append, List.length_singleton] at this
  omega
structure SO (n : Nat) (D : List (List Int)) (o : List Int) : Prop where
  len : o.length = n
  dl : D.length = n
  nd : o.Nodup
  rng : ∀ x ∈ o, 1 ≤ x ∧ x ≤ ((n : Nat) : Int)
  sp : SP 1 D o
  full : ∀ k : Nat, k < n → (1 + ((k : Nat) : Int)) ∈ o
def AT (o : List Int) (n i : Nat) (ats : List Int) : Prop := ats.length = n + 1 ∧ ∀ (x : Nat) (v : Int), ats[x]? = some v → (v = 0 ∧ ¬ ((x : Nat) : Int) ∈ o.take i) ∨ (∃ j : Nat, j < i ∧ o[j]? = some ((x : Nat) : Int) ∧ v = ((j : Nat) : Int) + 1)
theorem AT.start {o : List Int} {n N : Nat} (h : N = n + 1) : AT o n 0 (List.replicate N 0) := by
  subst h
  refine ⟨List.length_replicate, fun x v hv => .inl ⟨?_, by simp⟩⟩
  rw [List.getElem?_replicate] at hv
  split at hv
  · exact (Option.some.inj hv).symm
  · cases hv
theorem AT.step {o ats : List Int} {n i : Nat} {y : Int} (h : AT o n i ats) (hy : o[i]? = some y) (h0 : 0 ≤ y) : AT o n (i + 1) (ats.set y.toNat (((i : Nat) : Int) + 1)) := by
  refine ⟨by rw [List.length_set]; exact h.1, fun x v hv => ?_⟩
  rw [List.getElem?_set] at hv
  split at hv
  · rename_i e
    split at hv
    · exact .inr ⟨i, by omega, by rw [hy]; congr 1; omega, (Option.some.inj hv).symm⟩
    · cases hv
  · rename_i e
    rcases h.2 x v hv with ⟨h1, h2⟩ | ⟨j, h1, h2, h3⟩
    · refine .inl ⟨h1, ?_⟩
      rw [take_succ_at hy, List.mem_append, List.mem_singleton]
      rintro (h4 | h4)
      · exact h2 h4
      · omega
    · exact .inr ⟨j, by omega, h2, h3⟩
theorem AT.rng {o ats : List Int} {n i x : Nat} {v : Int} (h : AT o n i ats) (hv : ats[x]? = some v) : 0 ≤ v ∧ v ≤ ((i : Nat) : Int) := by
  rcases h.2 x v hv with h1 | ⟨j, h1, _, h2⟩ <;> omega
theorem at_stage {o ats : List Int} {n i : Nat} {D : List (List Int)} (hs : SO n D o) (h : AT o n i ats) (hi : i = n) {k : Nat} {v : Int} (h1 : 1 ≤ k) (h2 : k ≤ n) (hv : ats[k]? = some v) : ∃ j : Nat, j < n ∧ o[j]? = some ((k : Nat) : Int) ∧ v = ((j : Nat) : Int) + 1 := by
  subst hi
  rcases h.2 k v hv with ⟨_, h3⟩ | h3
  · refine absurd ?_ h3
    rw [List.take_of_length_le (by rw [hs.len]; exact Nat.le_refl _)]
    have := hs.full (k - 1) (by omega)
    rw [show (1 : Int) + ((k - 1 : Nat) : Int) = ((k : Nat) : Int) by omega] at this; exact this
  · exact h3
def RD (o l : List Int) (m : Nat) (rd : Int) : Prop := (0 ≤ rd ∧ rd ≤ 1000) ∧ ∀ s ∈ l.take m, s ≤ 0 ∨ ∃ j : Nat, o[j]? = some s ∧ ((j : Nat) : Int) + 1 ≤ rd
theorem RD.start {o l : List Int} : RD o l 0 0 := ⟨by omega, fun s hs => by simp at hs⟩
theorem RD.skip {o l : List Int} {m : Nat} {rd s : Int} (h : RD o l m rd) (hs : l[m]? = some s) (h0 : ¬ s > 0) : RD o l (m + 1) rd := by
  refine ⟨h.1, fun x hx => ?_⟩
  rw [take_succ_at hs] at hx
  rcases List.mem_append.1 hx with h1 | h1
  · exact h.2 x h1
  · rw [List.mem_singleton.1 h1]; exact .inl (by omega)
theorem RD.add {o l ats : List Int} {n i m : Nat} {D : List (List Int)} {rd s u : Int} (h : RD o l m rd) (hso : SO n D o) (ha : AT o n i ats) (hi : i = n) (hn : n ≤ 100) (hs : l[m]? = some s) (h0 : s > 0) (hr : s ≤ ((n : Nat) : Int)) (hu : ats[s.toNat]? = some u) : RD o l (m + 1) (max rd u) := by
 obtain ⟨j, hj1, hj2, hj3⟩ := at_stage hso ha hi (k := s.toNat) om om hu
 rw [show ((s.toNat : Nat) : Int) = s by omega] at hj2
 have hl := hso.len
 have hb := h.1
 refine ⟨om, fun x hx => ?_⟩
 rw [take_succ_at hs] at hx
 rcases List.mem_append.1 hx with h1 | h1
 ·rcases h.2 x h1 with h2 | ⟨j2, h2, h3⟩
  ·exact .inl h2
  ·exact .inr ⟨j2, h2, om⟩
 ·rw [List.mem_singleton.1 h1]; exact .inr ⟨j, hj2, om⟩
/-! ### a further stage at the end -/
theorem pick_app {ni : Int} {out s : List Int} : ∀ (l : List (List Int)) (i : Int), 0 ≤ ni + i → pickG ni out (l ++ [s]) i = if pickG ni out l i < 0 then (if (decide (¬ (ni + (i + ((l.length : Nat) : Int))) ∈ out) && okG ni out s) = true then ni + (i + ((l.length : Nat) : Int)) else -1) else pickG ni out l i
 | [], i, _ => by
  rw [List.nil_append]
  unfold pickG
  rw [if_pos (show (-1 : Int) < 0 by decide), show i + ((([] : List (List Int)).length : Nat) : Int) = i by simp]
  rfl
 | a :: l, i, h => by
  rw [List.cons_append]
  unfold pickG
  by_cases c : (decide (¬ (ni + i) ∈ out) && okG ni out a) = true
  ·rw [if_pos c, if_pos c, if_neg om]
  ·rw [if_neg c, if_neg c, pick_app l (i + 1) om]
   rw [List.length_cons, show i + 1 + ((l.length : Nat) : Int) = i + ((l.length + 1 : Nat) : Int) by omega]
theorem pick_more {ni : Int} (hni : 0 ≤ ni) {out : List Int} {D : List (List Int)} {y : Int} (hr : ∀ s ∈ D, ∀ x ∈ s, x < y) (h : pickG ni out D 0 < 0) : pickG ni (out ++ [y]) D 0 < 0 := by
 rcases pick0 hni (out := out) (D := D) with h1 | ⟨k, h1, _⟩
 ·rcases pick0 hni (out := out ++ [y]) (D := D) with h2 | ⟨k, h2, ⟨s, hs, h3, h4⟩, _⟩
  ·exact h2.1
  ·exfalso
   refine h1.2 k ⟨s, hs, fun hm => h3 (List.mem_append_left _ hm), fun x hx => ?_⟩
   rcases h4 x hx with h5 | h5
   ·exact .inl h5
   ·rcases List.mem_append.1 h5 with h6 | h6
    ·exact .inr h6
    ·have := hr s (List.mem_of_getElem? hs) x hx
     rw [List.mem_singleton.1 h6] at this; omega
 ·omega
theorem ext_list {ni : Int} (hni : 0 ≤ ni) {D : List (List Int)} {x : Int} (hr : ∀ s ∈ D, ∀ z ∈ s, z < ni + ((D.length : Nat) : Int)) : ∀ (k : Nat) {out : List Int}, OutG ni D out → D.length + 1 ≤ out.length + k →
  (listG ni (D ++ [[x]]) (k + 1) out = if x < ni ∨ x ∈ listG ni D k out then listG ni D k out ++ [ni + ((D.length : Nat) : Int)] else listG ni D k out)
 | 0, out, h, hl => by have := h.len; omega
 | k + 1, out, h, hl => by
  have hn : ¬ (ni + ((D.length : Nat) : Int)) ∈ out := fun hm => by have := h.r _ hm; omega
  have hp := pick_app (out := out) (s := [x]) D (0 : Int) (ni := ni) om
  rw [Int.zero_add] at hp
  have hok : (decide (¬ (ni + ((D.length : Nat) : Int)) ∈ out) && okG ni out [x]) = true ↔ (x < ni ∨ x ∈ out) := by
   rw [Bool.and_eq_true, decide_eq_true_eq, ok_iff]
   exact ⟨fun h => h.2 x (List.mem_singleton.2 rfl), fun h => ⟨hn, fun z hz => by rw [List.mem_singleton.1 hz]; exact h⟩⟩
  rw [listG]
  rw [hp]
  conv => rhs; unfold listG
  by_cases c : pickG ni out D 0 < 0
  ·rw [if_pos c, if_pos c]
   by_cases d : x < ni ∨ x ∈ out
   ·rw [if_pos (hok.2 d), if_pos d, if_neg om]
    unfold listG
    have hp2 := pick_app (out := out ++ [ni + ((D.length : Nat) : Int)]) (s := [x]) D (0 : Int) (ni := ni) om
    rw [Int.zero_add, if_pos (pick_more hni hr c), if_neg (by simp)] at hp2
    rw [hp2, if_pos om]
   ·rw [if_neg (fun h => d (hok.1 h)), if_neg d, if_pos om]
  ·rw [if_neg c, if_neg c]
   rcases pick0 hni (out := out) (D := D) with h1 | ⟨m, h1, h2, _⟩
   ·exact absurd h1.1 c
   ·rw [h1, if_neg (show ¬ (ni + ((m : Nat) : Int) < 0) by omega)]
    exact ext_list hni hr k (h.add h2) (by rw [List.length_append, List.length_singleton]; omega)
theorem lk_SO {n : Nat} {S : List StageV} {j : JobV} (hj : j = jobOf [pl0] S 0) (h : LK n S) (hc : chkCode j = 0) (h0 : (ordV j).2 = 0) : SO n (S.map srcs) (ordV j).1 := by
 have hl := ord_list hc
 have hi : j.inputs.length = 1 := by rw [hj]; rfl
 have hS : j.stages = S := by rw [hj]; rfl
 have hG := hl.2
 rw [hS, hi] at hG
 by_cases c : (listV j).length < j.stages.length
 ·have e : ordV j = ([], 7) := by rw [hl.1, if_pos c]
  rw [e] at h0; cases h0
 ·have e : ordV j = (listV j, 0) := by rw [hl.1, if_neg c]
  rw [e]
  have hlen := hG.len
  have hd : (S.map srcs).length = n := by rw [List.length_map]; exact h.1
  have hn : (listV j).length = (S.map srcs).length := by rw [hS] at c; rw [List.length_map] at hlen ⊢; omega
  refine ⟨(show (listV j).length = n by omega), hd, hG.d, fun x hx => ?_, ?_, fun k hk => ?_⟩
  ·have := hG.r x hx; omega
  ·have h1 := list_SP (ni := 1) om (D := S.map srcs) (S.length + 1) (out := []) (fun i x hx => by simp at hx)
   unfold listV
   rw [hi, hS]; exact h1
  ·exact mem_full hG hn om
theorem lk_more {n : Nat} {S : List StageV} {x : Int} (h : LK n S) (hx : 0 ≤ x ∧ x ≤ ((n : Nat) : Int)) : LK (n + 1) (S ++ [safe x]) := by
  refine ⟨by rw [List.length_append, h.1]; rfl, fun s hs => ?_⟩
  rcases List.mem_append.1 hs with h1 | h1
  · have := h.2 s h1
    refine ⟨this.1, by omega, this.2.2.imp id (fun h => by omega)⟩
  · rw [List.mem_singleton.1 h1]
    exact ⟨rfl, by show 0 ≤ x ∧ x ≤ _; omega, .inl rfl⟩
theorem lk_ext {n : Nat} {S : List StageV} {x : Int} (h : LK n S) (h1 : 1 ≤ n) (h8 : n ≤ 8) (hx : 0 ≤ x ∧ x < ((n : Nat) : Int) + 1) (hc : chkCode (jobOf [pl0] (S ++ [safe x]) 0) = 0) :
  ((ordV (jobOf [pl0] S 0)).2 = 0 → ordV (jobOf [pl0] (S ++ [safe x]) 0) = ((ordV (jobOf [pl0] S 0)).1 ++ [((n : Nat) : Int) + 1], 0)) ∧ ((ordV (jobOf [pl0] S 0)).2 = 7 → (ordV (jobOf [pl0] (S ++ [safe x]) 0)).2 = 7) := by
 have hc0 := lk_chk h h1 h8
 have ho := ord_list hc0
 have ho' := ord_list hc
 have hd : (S.map srcs).length = n := by rw [List.length_map]; exact h.1
 have hsx : srcs (safe x) = [x] := by unfold srcs; rw [if_neg (by unfold twoP safe; simp)]; rfl
 have he := ext_list (ni := 1) om (D := S.map srcs) (x := x) (fun s hs z hz => by
  obtain ⟨q, hq, rfl⟩ := List.mem_map.1 hs
  have := lk_src h hq z hz
  omega) (n + 1) (out := []) OutG.nil (by simp only [List.length_nil]; omega)
 have e1 : listV (jobOf [pl0] S 0) = listG 1 (S.map srcs) (n + 1) [] := by
  unfold listV; show listG 1 (S.map srcs) (S.length + 1) [] = _; rw [h.1]
 have e2 : listV (jobOf [pl0] (S ++ [safe x]) 0) = listG 1 (S.map srcs ++ [[x]]) (n + 1 + 1) [] := by
  unfold listV; show listG 1 ((S ++ [safe x]).map srcs) ((S ++ [safe x]).length + 1) [] = _
  rw [List.map_append, List.length_append, h.1, List.map_singleton, hsx]; rfl
 rw [← e1, ← e2, hd] at he
 have hl1 : (jobOf [pl0] S 0).stages.length = n := h.1
 have hl2 : (jobOf [pl0] (S ++ [safe x]) 0).stages.length = n + 1 := by show (S ++ [safe x]).length = _; rw [List.length_append, h.1]; rfl
 rw [hl1] at ho
 rw [hl2] at ho'
 have hlen : (listV (jobOf [pl0] S 0)).length ≤ n := by
  have := ho.2.len
  rw [List.length_map] at this
  omega
 constructor
 ·intro h0
  by_cases c : (listV (jobOf [pl0] S 0)).length < n
  ·rw [ho.1, if_pos c] at h0; cases h0
  ·have hm : x < 1 ∨ x ∈ listV (jobOf [pl0] S 0) := by
    by_cases d : x < 1
    ·exact .inl d
    ·right
     have hG : OutG 1 (S.map srcs) (listV (jobOf [pl0] S 0)) := ho.2
     have := mem_full hG om (k := x.toNat - 1) om
     rw [show (1 : Int) + ((x.toNat - 1 : Nat) : Int) = x by omega] at this; exact this
   rw [if_pos hm] at he
   rw [ho.1, if_neg c, ho'.1, he, if_neg (by rw [List.length_append, List.length_singleton]; omega)]
   simp only
   rw [Int.add_comm 1]
 ·intro h7
  by_cases c : (listV (jobOf [pl0] S 0)).length < n
  ·rw [ho'.1, he, if_pos]
   split
   ·rw [List.length_append, List.length_singleton]; omega
   ·omega
  ·rw [ho.1, if_neg c] at h7; cases h7
theorem lk_chk9 {n : Nat} {S : List StageV} (h : LK n S) (h1 : 1 ≤ n) (h8 : n ≤ 15) : chkCode (jobOf [pl0] S 0) = 0 := by
 have hl := h.1
 unfold chkCode jobOf
 dsimp only
 rw [if_pos (by simp only [List.length_singleton]; omega), if_pos om, if_pos, if_pos]
 ·unfold inR; simp; omega
 ·rw [List.all_eq_true]
  intro s hs
  unfold inR
  rw [List.all_eq_true]
  intro x hx
  have := lk_src h hs x hx
  simp only [List.length_singleton]
  exact decide_eq_true om
end Go.Proofs.Ytbofcpnngniopaa

namespace Go.Proofs.Ytbofcpnngniopaa
open Go Go.E
set_option linter.unusedVariables false
set_option linter.unusedSimpArgs false
set_option linter.unnecessarySimpa false
set_option maxRecDepth 100000
set_option maxHeartbeats 2000000
variable {W w : World} {H : Chunk} {F : List Chunk}
theorem job_more {q : Job} {S : List StageV} {z : Stage} {r : Int} (hqv : q.v = jobOf [pl0] S 0) (hz : z.v = safe r) {a1 a a3 : Option Addr} {n1 k1 n k n3 k3 : Nat} : Job.v ⟨⟨a1, n1, k1, q.inputs.l⟩, ⟨a, n, k, q.stages.l ++ [z]⟩, ⟨a3, n3, k3, q.outputs.l⟩, q.priority⟩ = jobOf [pl0] (S ++ [safe r]) 0 := by
  have h1 : q.inputs.l.map Plane.v = [pl0] := congrArg JobV.inputs hqv
  have h2 : q.outputs.l = [0] := congrArg JobV.outputs hqv
  have h3 : q.priority = 0 := congrArg JobV.priority hqv
  have h4 : q.stages.l.map Stage.v = S := congrArg JobV.stages hqv
  unfold Job.v jobOf
  simp only
  rw [h1, h2, h3, List.map_append, h4, List.map_singleton, hz]
theorem ext_at {o : List Int} {y x : Int} {k : Nat} (h : (o ++ [y])[k]? = some x) : (k < o.length ∧ o[k]? = some x) ∨ (k = o.length ∧ x = y) := by
  by_cases c : k < o.length
  · rw [List.getElem?_append_left c] at h; exact .inl ⟨c, h⟩
  · have hl := (List.getElem?_eq_some_iff.1 h).1
    rw [List.length_append, List.length_singleton] at hl
    obtain rfl : k = o.length := by omega
    rw [List.getElem?_append_right (Nat.le_refl _), Nat.sub_self] at h
    exact .inr ⟨rfl, by simpa using h.symm⟩
theorem l17_extends (W w : World) (H : Chunk) (F : List Chunk) (t : Option Addr) (nt kt : Nat) (xt : List Int) (size : Int) (a : Int) (ht : RdT encI 1 [H] t nt kt xt) (_hsize : -9223372036854775808 ≤ size ∧ size ≤ 9223372036854775807) (_ha : -9223372036854775808 ≤ a ∧ a ≤ 9223372036854775807) (hS : Sat W w (H :: F)) :
  Calls Try.prog 3 #[.slice t nt kt, I size, I a] w fun e w' => e = .returned (.bool true) ∧ Sat W w' (H :: F) := by
 have hlt := ht.le
 refine callsA 109 Try.func3 rfl ?_
 refine sR <| pu1 <| nT <| sR <| pu1 ?_
 refine cX Try.call5 (tape_new t nt kt hS) ?_
 rintro _ _ ⟨o1, rfl, p1⟩
 have g4 := ht.le
 refine pu1 <| nT <| sR <| pu2 ?_
 refine cX Try.call7 (mod_ok size 8 om om p1) ?_
 rintro _ _ ⟨m0, rfl, _, q1⟩
 refine sAdd 1 m0 ?_
 refine cX Try.call6 (l17_links (RdT.flat (ht.up 0 (by rfl))) om (Sat.flat1 q1) (1 + m0) om) ?_
 rintro _ _ ⟨a0, r1, rfl, b0, s1, t1, u1, _, v1⟩
 have w1 := Sat.unflat2 v1
 refine sAlloc w1 Try.zeroValue28 ?_
 intro x1 _ y1
 refine sT y1 0 0 (.agg (encJob a0).toArray) (encJob a0) (encJob a0).toArray Try.sizeOf28 ?_
 intro _ s0
 refine nilO ?_
 obtain ⟨S, hLK, hqv⟩ := s1; have hjn := t1
 have hch : chkCode a0.v = 0 := by rw [hqv]; exact lk_chk hLK om om
 have hb : a0.inputs.n ≤ 1000000 ∧ a0.stages.n ≤ 1000000 ∧ a0.outputs.n ≤ 1000000 := by omega
 have hcs := ord_cases hch; have hSl : a0.v.stages.length = a0.stages.n := by rw [hqv]; show S.length = _; rw [hLK.1]; omega
 have hqs : a0.stages.l.map Stage.v = S := congrArg JobV.stages hqv
 have hLn : LK a0.stages.n S := by have h := hLK; rw [show ((1 + m0)).toNat = a0.stages.n by omega] at h; exact h
 have hi1 := (b0).inputs.len; have hi2 := (b0).stages.len; have hi3 := (b0).outputs.len
 refine thenK_n <| sR ?_
 refine lA s0 0 0 4 (Try.isAgg28 _) (Try.sizeOf28 _) ?_
 refine cX Try.call8 (p17_order a0 ⟨(RdT.flat (b0.inputs.up 2 (by rfl))), (fun z hz => (b0.inputsD z hz).of_mem (mem_flat1 2 (by rfl))), (RdT.flat (b0.stages.up 2 (by rfl))), (fun z hz => (b0.stagesD z hz).of_mem (mem_flat1 2 (by rfl))), (RdT.flat (b0.outputs.up 2 (by rfl)))⟩ (od) (Sat.flat s0)) ?_
 rintro _ _ ⟨t0, c0, u0, z1, rfl, n0, a2⟩
 have v0 := Sat.unflat1 a2
 have hn_az_27 := n0.len; have hl_az_27 := n0.le
 refine pu5 <| nilO ?_
 have hcd : ((ordV a0.v).2 = 0 ∧ c0 = a0.stages.n) ∨ ((ordV a0.v).2 = 7 ∧ c0 = 0) := by
  have ho := hn_az_27
  rcases hcs with ⟨h1, h2, h3⟩ | ⟨h1, h2, _⟩
  ·exact .inl ⟨h1, om⟩
  ·right; rw [h2] at ho; exact ⟨h1, ho.symm⟩
 refine thenK_n <| sR ?_
 refine lA v0 1 0 4 (Try.isAgg28 _) (Try.sizeOf28 _) ?_
 refine sF #[.agg (encJob a0).toArray] Try.call9 (Calls.mono (tg_copyJob W _ _ [] a0 ⟨(RdT.flat (b0.inputs.up 3 (by rfl))), (fun z hz => (b0.inputsD z hz).of_mem (mem_flat1 3 (by rfl))), (RdT.flat (b0.stages.up 3 (by rfl))), (fun z hz => (b0.stagesD z hz).of_mem (mem_flat1 3 (by rfl))), (RdT.flat (b0.outputs.up 3 (by rfl)))⟩ om (Sat.flat v0)) ?_)
 rintro _ _ ⟨a1_34, a2_35, a3_36, n1_37, k1_38, n2_39, k2_40, n3_41, k3_42, c1_43, c2_44, c3_45, rfl, o0, p0, q0, w0⟩
 refine ⟨_, rfl, ?_⟩
 have b2 := Sat.unflatc w0; clear w0
 have hn_a1_34 := o0.len; have hl_a1_34 := o0.le
 have hn_a2_35 := p0.len; have hl_a2_35 := p0.le
 have hn_a3_36 := q0.len; have hl_a3_36 := q0.le
 refine sAlloc b2 Try.zeroValue28 ?_
 intro x0 _ c2
 refine sTw c2 0 [.slice a1_34 n1_37 k1_38, .slice a2_35 n2_39 k2_40, .slice a3_36 n3_41 k3_42, I a0.priority] Try.sizeOf28 ?_
 intro _ j0
 refine nT <| sR <| pu1 ?_
 refine sL j0 5 0 (.slice a0.inputs.a a0.inputs.n a0.inputs.k) (Try.isAgg25 _) ?_
 refine pu2 ?_
 refine sL j0 5 1 (.slice a0.stages.a a0.stages.n a0.stages.k) (Try.isAgg26 _) ?_
 refine pu1 ?_
 refine sAdd ((a0.inputs.n : Nat) : Int) ((a0.stages.n : Nat) : Int) ?_
 refine pu1 <| nT <| seqE ?_
 refine drawE [4, 5, 6, 7, 9] [(1, ⟨x0, 1, none⟩, .slice a2_35 n2_39 k2_40)] [(true, [0, 2, 3]), (true, [1]), (false, [4]), (false, [5]), (false, [6]), (false, [7]), (true, [8]), (false, [9])] rfl kr ⟨.inr (j0.cell 0 rfl rfl), trivial⟩ ?_
 have d2 := j0.drew
 refine wU [0, 2, 3] ?_
 refine wLd (.slice a2_35 n2_39 k2_40) 0 Try.isAgg26 ?_
 refine wO rfl ?_
 refine cX Try.call7 (mod_ok a (((a0.inputs.n : Nat) : Int) + ((a0.stages.n : Nat) : Int)) om om d2) ?_
 rintro _ _ ⟨k0, rfl, _, y0⟩
 refine nilO ⟨⟨.inr (y0.cell 0 rfl rfl), trivial⟩, ?_⟩
 refine wO rfl ?_
 refine cX Try.call10 (l17_point k0 y0) ?_
 rintro _ _ ⟨d0, e2, rfl, f2, g2, z0⟩
 refine nilO ⟨⟨.inr (z0.cell 1 rfl rfl), trivial⟩, ?_⟩
 refine wO rfl ?_
 refine sBS z0 (encStage d0).toArray Try.runUnderlying26 Try.sizeOf40 Try.zeroValue40 ?_
 intro i2 _ a1
 refine nilO ⟨⟨.inr (a1.cell 2 rfl rfl), trivial⟩, ?_⟩
 refine wO rfl ?_
 refine sApp (nb := 240) a1 p0 4 (RdT.blk (enc := encStage) (sz := 18) (xs := [d0]) fR 1 0 rfl rfl rfl om) Try.underlying26 (i := Try.t40) kr fR ?_
 intro e0 f0 j2 _ k2 l2
 refine nilO ⟨dA, ?_⟩
 refine wU [8] ?_
 refine wO rfl ?_
 refine tW l2 2 1 (.slice e0 (n2_39 + 1) f0) Try.sizeOf26 ?_
 intro _ b1
 refine nilO ⟨dA, ?_⟩
 refine wN ?_
 refine thenK_n <| sR ?_
 refine lA b1 2 0 4 (Try.isAgg28 _) (Try.sizeOf28 _) ?_
 refine cX Try.call8 (p17_order (⟨⟨a1_34, n1_37, k1_38, a0.inputs.l⟩, ⟨e0, (n2_39 + 1), f0, (a0.stages.l ++ [d0])⟩, ⟨a3_36, n3_41, k3_42, a0.outputs.l⟩, a0.priority⟩ : Job) ⟨(RdT.flat (o0.rdAt 3 (by rfl))), (fun z hz => ((b0).inputsD z hz).of_mem (mem_flat1 9 (by rfl))), (RdT.flat (k2.rdAt 4 (by rfl))), (mem_snoc (fun z hz => ((b0).stagesD z hz).of_mem (mem_flat1 9 (by rfl))) (f2.of_mem (mem_flat1 1 (by rfl)))), (RdT.flat (q0.rdAt 5 (by rfl)))⟩ (od) (Sat.flat b1)) ?_
 rintro _ _ ⟨c1, h0, d1, m2, rfl, l0, n2⟩
 have e1 := Sat.unflat1 n2
 have hn_az_80 := l0.len; have hl_az_80 := l0.le
 refine pu5 <| nilO ?_
 have hmv : Job.v (⟨⟨a1_34, n1_37, k1_38, a0.inputs.l⟩, ⟨e0, (n2_39 + 1), f0, (a0.stages.l ++ [d0])⟩, ⟨a3_36, n3_41, k3_42, a0.outputs.l⟩, a0.priority⟩ : Job) = jobOf [pl0] (S ++ [safe k0]) 0 := job_more hqv g2
 have hxt : ((ordV a0.v).2 = 0 → ordV (Job.v (⟨⟨a1_34, n1_37, k1_38, a0.inputs.l⟩, ⟨e0, (n2_39 + 1), f0, (a0.stages.l ++ [d0])⟩, ⟨a3_36, n3_41, k3_42, a0.outputs.l⟩, a0.priority⟩ : Job)) = ((ordV a0.v).1 ++ [((a0.stages.n : Nat) : Int) + 1], 0)) ∧ ((ordV a0.v).2 = 7 → (ordV (Job.v (⟨⟨a1_34, n1_37, k1_38, a0.inputs.l⟩, ⟨e0, (n2_39 + 1), f0, (a0.stages.l ++ [d0])⟩, ⟨a3_36, n3_41, k3_42, a0.outputs.l⟩, a0.priority⟩ : Job))).2 = 7) := by
  have hrr : 0 ≤ k0 ∧ k0 < ((a0.stages.n : Nat) : Int) + 1 := by omega
  rw [hmv, hqv]; exact lk_ext hLn om om hrr (lk_chk9 (lk_more hLn om) om om)
 refine thenK_n <| seqE <| sR <| pu2 <| nT ?_
 refine cN ((ordV a0.v).2) 0 (fun o2 => ?_) (fun o2 => ?_)
 rotate_left
 ·refine sR <| pu3 ?_
  have p2 : ((ordV a0.v).2 : Int) = 7 := by omega
  refine sFix 56 _ true (beq_iff_eq.2 p2) ?_
  refine pu4 ?_
  have q2 : ((ordV (⟨⟨a1_34, n1_37, k1_38, a0.inputs.l⟩, ⟨e0, (n2_39 + 1), f0, (a0.stages.l ++ [d0])⟩, ⟨a3_36, n3_41, k3_42, a0.outputs.l⟩, a0.priority⟩ : Job).v).2 : Int) = 7 := hxt.2 om
  refine sFix 60 _ true (beq_iff_eq.2 q2) ?_
  refine gY ?_
  refine cR Try.call11 (l17_sane  (Sat.flat e1)) ?_
  intro _ r2
  refine pu2 <| nT <| retE <| thenK_r <| retT [.bool true] ?_
  have s2 := (r2.pick 11 rfl)
  have t2 := s2.dropAt 1 rfl
  have u2 := t2.dropAt 1 rfl
  have v2 := u2.dropAt 1 rfl
  have w2 := v2.dropAt 1 rfl
  have x2 := w2.dropAt 1 rfl
  have y2 := x2.dropAt 1 rfl
  have z2 := y2.dropAt 1 rfl
  have a3 := z2.dropAt 1 rfl
  have b3 := a3.dropAt 1 rfl
  have c3 := b3.dropAt 1 rfl
  have d3 := c3.dropAt 1 rfl
  exact ⟨rfl, d3⟩
 refine kT <| seqE <| seqE ?_
 have he0 := hxt.1 om
 have hso : SO a0.stages.n (S.map srcs) ((ordV a0.v).1) := lk_SO hqv hLn hch om
 have hol := hso.len; have hpl : h0 = a0.stages.n + 1 := by have h := hn_az_80; rw [he0] at h; simp only [List.length_append, List.length_singleton] at h; omega
 refine regionE <| pu3 ?_
 have e3 : ((ordV (⟨⟨a1_34, n1_37, k1_38, a0.inputs.l⟩, ⟨e0, (n2_39 + 1), f0, (a0.stages.l ++ [d0])⟩, ⟨a3_36, n3_41, k3_42, a0.outputs.l⟩, a0.priority⟩ : Job).v).2 : Int) = 0 := by rw [he0]
 refine sFix 65 _ false (bne_eq_false_iff_eq.2 e3) ?_
 refine pu4 <| gY ?_
 refine sAdd ((c0 : Nat) : Int) 1 ?_
 refine pu2 <| nT ?_
 have f3 : (((h0 : Nat) : Int) : Int) = (((c0 : Nat) : Int) + 1) := by omega
 refine cF _ (bne_eq_false_iff_eq.2 f3) ?_
 refine kT <| sR <| pu1 <| nT <| seqE <| sR <| pu1 <| nT <| blockE ?_
 refine loopA (γ := Nat × Int) (fun ⟨k, ii⟩ => [(9, .slice t0 c0 u0), (12, I (((a0.inputs.n : Nat) : Int) + ((a0.stages.n : Nat) : Int))), (13, .slice c1 h0 d1), (16, I ((k : Nat) : Int)), (15, I ii)]) (fun ⟨k, ii⟩ w => Sat W w (m2 :: [(i2, .cells (encStage d0).toArray 40 (0, 0))] :: e2 :: [(x0, .cells #[.slice a1_34 n1_37 k1_38, .slice e0 (n2_39 + 1) f0, .slice a3_36 n3_41 k3_42, I a0.priority] 28 (0, 0))] :: c1_43 :: j2 :: c3_45 :: z1 :: [(x1, .cells (encJob a0).toArray 28 (0, 0))] :: [(o1, .cells #[.slice t nt kt, I u1] 47 (0, 0))] :: r1 :: H :: F) ∧ k ≤ h0 ∧ (((k ≤ c0 ∧ ii = ((k : Nat) : Int)) ∨ (c0 < k ∧ ii = ((c0 : Nat) : Int))))) (fun ⟨k, ii⟩ => h0 - k) (0, 0) ⟨e1, om, om⟩ ?_
 rintro ⟨k, ii⟩ ρ _ ⟨i0, hk, hii⟩
 refine seqE <| sR <| pu4 <| nT ?_
 refine cD (((k : Nat) : Int) < ((h0 : Nat) : Int)) (fun g3 => ?_) (fun g3 => ?_)
 rotate_left
 ·refine exitE <| xB <| thenK_n <| sR <| pu5 ?_
  have i3 : (ii : Int) = ((c0 : Nat) : Int) := by omega
  refine sFix 106 _ true (beq_iff_eq.2 i3) ?_
  refine gY ?_
  refine cR Try.call11 (l17_sane  (Sat.flat i0)) ?_
  intro _ j3
  refine pu2 <| nT <| retE <| retT [.bool true] ?_
  have k3 := (j3.pick 11 rfl)
  have l3 := k3.dropAt 1 rfl
  have m3 := l3.dropAt 1 rfl
  have n3 := m3.dropAt 1 rfl
  have o3 := n3.dropAt 1 rfl
  have p3 := o3.dropAt 1 rfl
  have q3 := p3.dropAt 1 rfl
  have r3 := q3.dropAt 1 rfl
  have s3 := r3.dropAt 1 rfl
  have t3 := s3.dropAt 1 rfl
  have u3 := t3.dropAt 1 rfl
  have v3 := u3.dropAt 1 rfl
  exact ⟨rfl, v3⟩
 refine kT <| seqE <| blockE <| seqE <| sR <| pu2 ?_
 refine sIdxO l0 ((k : Nat) : Int) k Try.runUnderlying22 Try.sizeOf3 ?_
 intro g0 _ _ f1 w3 _
 have hpx_x_91 := ext_at (by have h := f1; rw [he0] at h; exact h)
 have hkx_x_91 : (k < a0.stages.n ∧ g0 ≤ ((a0.stages.n : Nat) : Int)) ∨ (k = a0.stages.n ∧ g0 = ((a0.stages.n : Nat) : Int) + 1) := by
  rcases hpx_x_91 with ⟨h1, h2⟩ | ⟨h1, h2⟩
  ·have := hso.rng _ (List.mem_of_getElem? h2); exact .inl ⟨om, this.2⟩
  ·exact .inr ⟨om, h2⟩
 refine sLp i0 (w3.up 0 rfl) 0 (I g0) (Try.isAgg3 _) ?_
 refine pu2 <| nT ?_
 refine cE g0 (((a0.inputs.n : Nat) : Int) + ((a0.stages.n : Nat) : Int)) (fun x3 => ?_) (fun x3 => ?_)
 ·refine exitE <| thenK_x <| blockK_x <| thenK_n <| regionE <| pu1 ?_
  refine sAdd ((k : Nat) : Int) 1 ?_
  refine pu1 <| nT ?_
  exact ⟨(k + 1, ii), od, alA, i0, om, om⟩
 refine kT <| seqE <| seqE ?_
 have y3 : ¬ ((ii : Int) ≥ ((c0 : Nat) : Int)) := by omega
 obtain ⟨z3, g1, i1, j1, k1, l1, e5⟩ := OwnT.elem l0 ((k : Nat) : Int)
 rw [Int.toNat_natCast] at j1 k1 l1
 obtain rfl : g0 = z3 := Option.some.inj (f1.symm.trans j1)
 obtain ⟨r0, m1, n1, a4, b4, c4, f5⟩ := OwnT.elem n0 ii
 refine drawE [] [(8, ⟨g1, i1 + k * 1, none⟩, I g0), (12, ⟨m1, n1 + (ii).toNat * 1, none⟩, I r0)] [(true, [0, 1, 2, 3, 4]), (true, [5, 6]), (true, [7]), (true, [9, 10]), (true, [11]), (true, [8]), (true, [12]), (true, [13, 14])] rfl kr ⟨.inr ((k1.up 0 rfl).cell i0 (k := 0) rfl), .inr ((b4.up 7 rfl).cell i0 (k := 0) rfl), trivial⟩ ?_
 have d4 := i0.drew
 refine wU [0, 1, 2, 3, 4] ?_
 refine wFix 89 _ false (decide_eq_false y3) ?_
 refine wU [5, 6] ?_
 refine wY (.pointer (some ⟨g1, i1 + k * 1, none⟩)) rfl (fun w _ => Y_idx (a := c1) (i := ((k : Nat) : Int)) (len := h0) (cap := d1) rfl Try.runUnderlying22 Try.sizeOf3 kr kr l1) ?_
 refine wU [9, 10] ?_
 refine wY (.pointer (some ⟨m1, n1 + (ii).toNat * 1, none⟩)) rfl (fun w _ => Y_idx (a := t0) (i := ii) (len := c0) (cap := u0) rfl Try.runUnderlying22 Try.sizeOf3 kr kr c4) ?_
 refine wLd (I g0) 0 Try.isAgg3 ?_
 refine wLd (I r0) 1 Try.isAgg3 ?_
 refine wU [13, 14] ?_
 refine wN ?_
 refine thenK_n ?_
 have e4 : (g0 : Int) = r0 := by
  rcases hpx_x_91 with ⟨h1, h2⟩ | ⟨h1, h2⟩
  ·rw [show k = ii.toNat by omega] at h2; exact Option.some.inj (h2.symm.trans a4)
  ·omega
 refine cF _ (bne_eq_false_iff_eq.2 e4) ?_
 refine kT <| regionE <| pu1 ?_
 refine sAdd ii 1 ?_
 refine pu1 <| nB <| regionE <| pu1 ?_
 refine sAdd ((k : Nat) : Int) 1 ?_
 refine pu1 <| nT ?_
 exact ⟨(k + 1, (ii + 1)), od, alA, d4, om, om⟩
end Go.Proofs.Ytbofcpnngniopaa
