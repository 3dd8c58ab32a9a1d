import Derived.Test.YtbofcpnngniopaaP2Cy
namespace Go.Proofs.Ytbofcpnngniopaa
open Go Go.E
set_option linter.unusedVariables false
set_option linter.unusedSimpArgs false
set_option linter.unnecessarySimpa false
set_option maxRecDepth 100000
set_option maxHeartbeats 2000000
variable {W w : World} {H : Chunk} {F : List Chunk}
/-! ### what cycles are -/
-- squeezed
theorem cover_le : ∀ {n : Nat} {l : List Nat}, (∀ k, k < n → k ∈ l) → n ≤ l.length
  | 0, _, _ => Nat.zero_le _
  | n + 1, l, h => by
    have h1 := h n (by omega)
    have h2 := cover_le (n := n) (l := l.erase n) (fun k hk => (List.mem_erase_of_ne (by omega)).2 (h k (by omega)))
    rw [List.length_erase_of_mem h1] at h2
    have : 0 < l.length := List.length_pos_of_mem h1
    omega
theorem closed_walk {e : Nat → Nat → Bool} {P : Nat → Prop} {N a0 : Nat} (hU : ∀ a, P a → ∃ b, e a b = true ∧ P b) (hb : ∀ a, P a → a < N) (h0 : P a0) : ∃ L a, walkG e L a a := by
 classical
 let f : Nat → Nat := fun a => if h : P a then Classical.choose (hU a h) else 0
 have hf : ∀ a, P a → e a (f a) = true ∧ P (f a) := by
  intro a h
  have := Classical.choose_spec (hU a h)
  simp only [f, h, dif_pos]
  exact this
 let s : Nat → Nat := fun k => Nat.rec a0 (fun _ x => f x) k
 have hs : ∀ k, P (s k) := by
  intro k
  induction k with
  | zero => exact h0
  | succ k ih => exact (hf _ ih).2
 have hw : ∀ d i, walkG e d (s i) (s (i + d + 1)) := by
  intro d
  induction d with
  | zero => intro i; exact (hf _ (hs i)).1
  | succ d ih =>
   intro i
   refine ⟨s (i + 1), (hf _ (hs i)).1, ?_⟩
   rw [show i + (d + 1) + 1 = (i + 1) + d + 1 by omega]
   exact ih (i + 1)
 by_cases hc : ∃ i j, i < j ∧ s i = s j
 ·obtain ⟨i, j, hij, he⟩ := hc
  refine ⟨j - i - 1, s i, ?_⟩
  have := hw (j - i - 1) i
  rw [show i + (j - i - 1) + 1 = j by omega, ← he] at this
  exact this
 ·exfalso
  have hn : ((List.range (N + 1)).map s).Nodup := by
   rw [List.nodup_iff_pairwise_ne, List.pairwise_map]
   exact List.pairwise_lt_range.imp (fun h he => hc ⟨_, _, h, he⟩)
  have := nodup_le (n := N) hn (fun x hx => by
   obtain ⟨y, _, rfl⟩ := List.mem_map.1 hx
   exact hb _ (hs y)) rfl
  rw [List.length_map, List.length_range] at this
  omega
theorem list_stuck {ni : Int} (hni : 0 ≤ ni) {D : List (List Int)} : ∀ (k : Nat) {out : List Int}, OutG ni D out → D.length + 1 ≤ out.length + k → pickG ni (listG ni D k out) D 0 < 0
  | 0, out, h, hl => by have := h.len; omega
  | k + 1, out, h, hl => by
    unfold listG
    by_cases c : pickG ni out D 0 < 0
    · rw [if_pos c]; exact c
    · rw [if_neg c]
      rcases pick0 hni (out := out) (D := D) with h1 | ⟨m, h1, h2, _⟩
      · exact absurd h1.1 c
      · rw [h1]
        exact list_stuck hni k (h.add h2) (by rw [List.length_append, List.length_singleton]; omega)
/-- Where not every stage could be listed there is a cycle. -/
theorem stuck_cyc {ni : Nat} {D : List (List Int)} {out : List Int} (hR : RngG ni D) (hp : pickG ni out D 0 < 0) (hl : out.length < D.length) : ∃ L a, walkG (edgG ni D) L a a := by
 have hno : ∀ k, ¬ canG ni D out k := by
  rcases pick0 (ni := ni) om (out := out) (D := D) with h | ⟨k, h, _⟩
  ·exact h.2
  ·omega
 obtain ⟨k0, hk0, hk1⟩ : ∃ k, k < D.length ∧ ¬ ((ni : Int) + ((k : Nat) : Int)) ∈ out := by
  apply Classical.byContradiction
  intro hc
  have := cover_le (n := D.length) (l := out.map fun x => (x - ((ni : Nat) : Int)).toNat) (fun k hk => by
   refine List.mem_map.2 ⟨((ni : Nat) : Int) + ((k : Nat) : Int), Classical.byContradiction fun h => hc ⟨k, hk, h⟩, om⟩)
  rw [List.length_map] at this
  omega
 refine closed_walk (P := fun a => ni ≤ a ∧ a < ni + D.length ∧ ¬ ((a : Nat) : Int) ∈ out) (N := ni + D.length) (a0 := ni + k0) ?_ (fun a h => h.2.1) ⟨om, om, by rw [show (((ni + k0 : Nat)) : Int) = ((ni : Nat) : Int) + ((k0 : Nat) : Int) by omega]; exact hk1⟩
 rintro a ⟨h1, h2, h3⟩
 have hs : D[a - ni]? = some (D[a - ni]'om) := List.getElem?_eq_getElem om
 have hc : ∃ x ∈ D[a - ni]'om, ¬ (x < ((ni : Nat) : Int) ∨ x ∈ out) := by
  apply Classical.byContradiction
  intro h
  refine hno (a - ni) ⟨_, hs, ?_, fun x hx => Classical.byContradiction fun hn => h ⟨x, hx, hn⟩⟩
  rw [show ((ni : Nat) : Int) + ((a - ni : Nat) : Int) = ((a : Nat) : Int) by omega]; exact h3
 obtain ⟨x, hx, hn⟩ := hc
 have hr := hR _ (List.mem_of_getElem? hs) x hx
 have hx1 : ¬ x < ((ni : Nat) : Int) := fun h => hn (.inl h)
 have hx2 : ¬ x ∈ out := fun h => hn (.inr h)
 refine ⟨x.toNat, edg_iff.2 ⟨h1, _, hs, by rw [show ((x.toNat : Nat) : Int) = x by omega]; exact hx⟩, om, om, by rw [show ((x.toNat : Nat) : Int) = x by omega]; exact hx2⟩
theorem cyc_ex {ni : Nat} {D : List (List Int)} (hR : RngG ni D) (hN : ni + D.length ≤ 16) (h : ∃ L a, walkG (edgG ni D) L a a) : ∃ rt bs, minV (fwG (edgG ni D) 16) 16 = (rt, bs) ∧ 0 ≤ rt := by
 obtain ⟨L, a, hw⟩ := h
 obtain ⟨M, _, hM⟩ := lst_ex hw
 have h1 := lst_lt edg_src hM
 have h2 := lst_fw (edg_dst hR hN) hM om
 obtain ⟨y, hy⟩ := walk_out hw
 have h3 := edg_src a y hy
 rcases minV_spec (f := fwG (edgG ni D) 16) 16 with ⟨_, _, h4⟩ | ⟨i, _, h5, _⟩
 ·have := h4 a om; omega
 ·cases hm : minV (fwG (edgG ni D) 16) 16 with
  | mk rt bs => rw [hm] at h5; exact ⟨rt, bs, rfl, by simp only at h5; omega⟩
attribute [local irreducible] fwG minV
/-- A way of k steps, as a list of its nodes. -/
def WO (f : Nat → Int) (S : Int → List Int) : Nat → Int → List Int → Prop
  | 0, _, l => l = []
  | k + 1, a, l => ∃ n t, l = n :: t ∧ (n ∈ S a ∧ 0 ≤ n ∧ f n.toNat = ((k : Nat) : Int) + 1) ∧ WO f S k n t
theorem src_edg {ni : Nat} {D : List (List Int)} {a y : Int} (h0 : 0 ≤ a) (hy : 0 ≤ y) (ha : ((ni : Nat) : Int) ≤ a) (h : y ∈ srcG ni D a) : edgG ni D a.toNat y.toNat = true := by
  unfold srcG at h
  rw [List.getD_eq_getElem?_getD] at h
  cases hs : D[(a - ((ni : Nat) : Int)).toNat]? with
  | none => rw [hs] at h; cases h
  | some s =>
    rw [hs] at h
    exact edg_iff.2 ⟨by omega, s, by rw [show a.toNat - ni = (a - ((ni : Nat) : Int)).toNat by omega]; exact hs, by rw [show ((y.toNat : Nat) : Int) = y by omega]; exact h⟩
theorem WO.at {ni rt : Nat} {D : List (List Int)} : ∀ {k : Nat} {a : Int} {l : List Int}, WO (fun x => fwG (edgG ni D) 16 x rt) (srcG ni D) k a l → 0 ≤ a → fwG (edgG ni D) 16 a.toNat rt = ((k : Nat) : Int) + 1 → k + 1 < 1000 →
  (a :: l).length = k + 1 ∧ ∀ i x, (a :: l)[i]? = some x → 0 ≤ x ∧ fwG (edgG ni D) 16 x.toNat rt + ((i : Nat) : Int) = ((k : Nat) : Int) + 1 ∧ (∀ y, (a :: l)[i + 1]? = some y → y ∈ srcG ni D x) ∧ ((i = 0 ∧ x = a) ∨ ∃ j, i = j + 1 ∧ walkG (edgG ni D) j a.toNat x.toNat)
 | 0, a, l, h, h0, hf, _ => by
  have h : l = [] := h
  subst h
  refine ⟨rfl, fun i x hx => ?_⟩
  cases i with
  | zero =>
   obtain rfl : a = x := by simpa using hx
   exact ⟨h0, om, fun y hy => by simp at hy, .inl ⟨rfl, rfl⟩⟩
  | succ i => simp at hx
 | k + 1, a, l, h, h0, hf, hk => by
  obtain ⟨n, t, rfl, ⟨h1, h2, h3⟩, h4⟩ := h
  have h3 : fwG (edgG ni D) 16 n.toNat rt = ((k : Nat) : Int) + 1 := h3
  obtain ⟨hl, hr⟩ := WO.at h4 h2 h3 om
  have hst := fw_stage (ni := ni) (D := D) (N := 16) (a := a.toNat) (b := rt) om
  have he := src_edg h0 h2 om h1
  refine ⟨by rw [List.length_cons, hl], fun i x hx => ?_⟩
  cases i with
  | zero =>
   obtain rfl : a = x := by simpa using hx
   exact ⟨h0, om, fun y hy => by
    have e : n = y := by simpa using hy
    rw [← e]; exact h1, .inl ⟨rfl, rfl⟩⟩
  | succ i =>
   obtain ⟨q1, q2, q3, q4⟩ := hr i x (by simpa using hx)
   refine ⟨q1, om, fun y hy => q3 y (by simpa using hy), .inr ⟨i, rfl, ?_⟩⟩
   rcases q4 with ⟨rfl, rfl⟩ | ⟨j, rfl, q5⟩
   ·exact he
   ·exact ⟨n.toNat, he, q5⟩
/-! ### jobs of copies with freely chosen sources -/
def LK (n : Nat) (S : List StageV) : Prop := S.length = n ∧ ∀ s ∈ S, s.kind = 6 ∧ (0 ≤ s.a ∧ s.a ≤ ((n : Nat) : Int)) ∧ (s.b = -1 ∨ (0 ≤ s.b ∧ s.b ≤ ((n : Nat) : Int)))
theorem lk_safe {n : Nat} {xs : List Int} (hl : xs.length = n) (h : ∀ x ∈ xs, 0 ≤ x ∧ x ≤ ((n : Nat) : Int)) : LK n (xs.map safe) := by
  refine ⟨by rw [List.length_map]; exact hl, fun s hs => ?_⟩
  obtain ⟨x, hx, rfl⟩ := List.mem_map.1 hs
  exact ⟨rfl, h x hx, .inl rfl⟩
theorem lk_set {n : Nat} {ss : List Stage} {i : Nat} {x y : Stage} (h : LK n (ss.map Stage.v)) (hx : ss[i]? = some x) (e1 : y.v.kind = x.v.kind) (e2 : y.v.a = x.v.a) (e3 : 0 ≤ y.v.b ∧ y.v.b ≤ ((n : Nat) : Int)) : LK n ((ss.set i y).map Stage.v) := by
  refine ⟨by have := h.1; simpa using this, fun s hs => ?_⟩
  obtain ⟨z, hz, rfl⟩ := List.mem_map.1 hs
  rcases List.mem_or_eq_of_mem_set hz with h1 | h1
  · exact h.2 _ (List.mem_map_of_mem h1)
  · have := h.2 _ (List.mem_map_of_mem (List.mem_of_getElem? hx))
    subst h1
    rw [e1, e2]
    exact ⟨this.1, this.2.1, .inr e3⟩
theorem job_v {q : Job} {xs : List Int} (hv : q.v = jobL xs) {t : Sl Stage} : Job.v ⟨q.inputs, t, q.outputs, q.priority⟩ = jobOf [pl0] (t.l.map Stage.v) 0 := by
  have h1 : q.inputs.l.map Plane.v = [pl0] := congrArg JobV.inputs hv
  have h2 : q.outputs.l = [0] := congrArg JobV.outputs hv
  have h3 : q.priority = 0 := congrArg JobV.priority hv
  unfold Job.v jobOf
  rw [h1, h2, h3]
theorem lk_src {n : Nat} {S : List StageV} (h : LK n S) {s : StageV} (hs : s ∈ S) : ∀ x ∈ srcs s, 0 ≤ x ∧ x < ((n : Nat) : Int) + 1 := by
  intro x hx
  have h1 := h.2 s hs
  unfold srcs at hx
  split at hx
  · rename_i ht
    have ht : s.kind = 6 ∧ ¬ s.b = -1 := ht
    simp only [List.mem_cons, List.not_mem_nil, or_false] at hx
    rcases hx with rfl | rfl <;> omega
  · rw [List.mem_singleton.1 hx]; omega
theorem lk_chk {n : Nat} {S : List StageV} (h : LK n S) (h1 : 1 ≤ n) (h8 : n ≤ 8) : chkCode (jobOf [pl0] S 0) = 0 := by
  have hl := h.1
  unfold chkCode jobOf
  dsimp only
  rw [if_pos (by simp only [List.length_singleton]; omega), if_pos (by omega), if_pos, if_pos]
  · unfold inR; simp; omega
  · rw [List.all_eq_true]
    intro s hs
    unfold inR
    rw [List.all_eq_true]
    intro x hx
    have := lk_src h hs x hx
    simp only [List.length_singleton]
    exact decide_eq_true (by omega)
theorem ord_cases {j : JobV} (h : chkCode j = 0) : ((ordV j).2 = 0 ∧ (ordV j).1.length = j.stages.length ∧ cycV j = []) ∨ ((ordV j).2 = 7 ∧ (ordV j).1 = [] ∧ ∃ rt bs, minV (fwG (edgG j.inputs.length (j.stages.map srcs)) 16) 16 = (rt, bs) ∧ 0 ≤ rt ∧ cycV j = cycG j.inputs.length (j.stages.map srcs)) := by
 have hl := ord_list h
 have hc := go_list (ni := j.inputs.length) om (D := j.stages.map srcs) j.stages.length OutG.nil (by simp)
 have hb := chk_len h
 by_cases c : (listV j).length < j.stages.length
 ·right
  have e : ordV j = ([], 7) := by rw [hl.1, if_pos c]
  have hst := list_stuck (ni := j.inputs.length) om (D := j.stages.map srcs) (j.stages.length + 1) OutG.nil (by simp)
  have hR := chk_rng h
  obtain ⟨rt, bs, h1, h2⟩ := cyc_ex hR (by rw [List.length_map]; omega) (stuck_cyc hR hst (by rw [List.length_map]; exact c))
  exact ⟨by rw [e], by rw [e], rt, bs, h1, h2, by unfold cycV; rw [e, if_pos rfl]⟩
 ·left
  have e : ordV j = (listV j, 0) := by rw [hl.1, if_neg c]
  have hlen : (listV j).length = j.stages.length := by
   have := hl.2.len
   rw [List.length_map] at this; omega
  exact ⟨by rw [e], by rw [e]; exact hlen, by unfold cycV; rw [e, if_neg (by simp)]⟩
theorem l17_links {p : Nat} {a : Option Addr} {n k : Nat} {i : Int} {xs : List Int} (hR : RdT encI 1 [H] a n k xs) (hi : 0 ≤ i ∧ i ≤ n) (hS : Sat W w ([(p, .cells #[.slice a n k, I i] 47 (0, 0))] :: H :: F)) (m : Int) (hm : 1 ≤ m ∧ m ≤ 8) :
  Calls Try.prog 6 #[Pt p 0, I m] w fun e w' => ∃ (q : Job) (G : Chunk), e = .returned (.agg (encJob q).toArray) ∧ (Job.Ok [G] q) ∧ (∃ S, LK m.toNat S ∧ q.v = jobOf [pl0] S 0) ∧ (q.inputs.n = 1 ∧ q.stages.n = m.toNat ∧ q.outputs.n = 1) ∧ ∃ i' : Int, (0 ≤ i' ∧ i' ≤ n) ∧ Sat W w' ([(p, .cells #[.slice a n k, I i'] 47 (0, 0))] :: G :: H :: F) := by
 have hle := hR.le
 refine callsA 41 Try.func6 rfl ?_
 refine sR ?_
 refine sAlloc hS Try.zeroValue28 ?_
 intro c0 _ r0
 refine nT <| sR <| pu1 <| nT <| seqE <| sR <| pu1 <| nT <| blockE ?_
 have s0 := Sat.nilc r0
 have t0 := OwnT.nil (enc := encI) (E := 3) (sz := 1) fR
 refine loopA (γ := Nat × Int × (List Int) × (Option Addr) × Nat × Nat × Chunk) (fun ⟨i, iti, zs, azs, nzs, kzs, czs⟩ => [(0, Pt p 0), (1, I m), (4, Pt c0 0), (6, I ((i : Nat) : Int)), (5, .slice azs nzs kzs)]) (fun ⟨i, iti, zs, azs, nzs, kzs, czs⟩ w => Sat W w (czs :: [(c0, .cells #[.slice none 0 0, .slice none 0 0, .slice none 0 0, I 0] 28 (0, 0))] :: [(p, .cells #[.slice a n k, I iti] 47 (0, 0))] :: H :: F) ∧ i ≤ m.toNat ∧ (∀ x ∈ zs, 0 ≤ x ∧ x ≤ m) ∧ (zs.length = i) ∧ (0 ≤ iti ∧ iti ≤ n) ∧ OwnT encI 3 1 azs nzs kzs zs czs) (fun ⟨i, iti, zs, azs, nzs, kzs, czs⟩ => m.toNat - i) (0, i, [], none, 0, 0, []) ⟨s0, om, (fun x hx => by cases hx), by rfl, om, t0⟩ ?_
 rintro ⟨i, iti, zs, azs, nzs, kzs, czs⟩ ρ _ ⟨m0, hi, hzr, hzl, hiti, hOzs⟩
 have hn_zs := hOzs.len; have hl_zs := hOzs.le
 refine seqE <| sR <| pu3 <| nT ?_
 refine cD (((i : Nat) : Int) < m) (fun u0 => ?_) (fun u0 => ?_)
 ·refine kT <| seqE <| blockE <| regionE <| pu3 ?_
  refine sAdd m 1 ?_
  have v0 := (m0.pick 2 rfl)
  refine cX Try.call13 (tape_next (RdT.flat (hR.up 2 (by rfl))) om (Sat.flat1 v0) (m + 1) om) ?_
  rintro _ _ ⟨h0, rfl, _, w0, _, x0⟩
  have y0 := Sat.unflat1 x0
  refine sBS y0 #[I h0] Try.runUnderlying22 Try.sizeOf3 Try.zeroValue3 ?_
  intro _ _ z0
  refine sApp (nb := 8) z0 hOzs 2 (RdT.blk (enc := encI) (sz := 1) (xs := [h0]) fR 1 0 rfl rfl rfl om) Try.underlying22 (i := Try.t3) kr fR ?_
  intro a1 b1 c1 _ d1 e1
  refine pu1 <| nB <| regionE <| pu1 ?_
  refine sAdd ((i : Nat) : Int) 1 ?_
  refine pu1 <| nT ?_
  have f1 := ((e1.picks [3, 3]).dropAt 2 rfl)
  exact ⟨(i + 1, w0, (zs ++ [h0]), a1, (nzs + 1), b1, c1), od, alA, f1, om, (mem_snoc hzr om), by simp; omega, om, d1⟩
 refine exitE <| xB <| thenK_n <| sR <| pu1 ?_
 refine cX Try.call14 (l17_job (RdT.flat (hOzs.rdAt 0 (by rfl))) om (Sat.flat m0)) ?_
 rintro _ _ ⟨a0, g1, h1, d0, rfl, i1, j1, k1, l1, m1, ⟨n0, n1, _, o1⟩, p1⟩
 have q1 := Sat.unflat3 p1
 have hlk0 : LK m.toNat (a0.stages.l.map Stage.v) := by rw [show a0.stages.l.map Stage.v = zs.map safe from congrArg JobV.stages n0]; exact lk_safe om (fun x hx => by have := hzr x hx; omega)
 refine sAlloc q1 Try.zeroValue28 ?_
 intro f0 _ r1
 refine sT r1 0 0 (.agg (encJob a0).toArray) (encJob a0) (encJob a0).toArray Try.sizeOf28 ?_
 intro _ s1
 refine nT <| seqE <| sR <| pu1 <| nT <| blockE ?_
 have t1 := (s1.pick 1 rfl)
 have u1 := (t1.pick 2 rfl)
 refine loopA (γ := Nat × Int × (List Stage) × (Option Addr) × Nat × Nat × Chunk × Chunk) (fun ⟨i, iti, ss, ass, nss, kss, css, Gss⟩ => [(0, Pt p 0), (1, I m), (4, Pt c0 0), (7, Pt f0 0), (8, I ((i : Nat) : Int))]) (fun ⟨i, iti, ss, ass, nss, kss, css, Gss⟩ w => Sat W w (Gss :: css :: [(f0, .cells #[.slice a0.inputs.a a0.inputs.n a0.inputs.k, .slice ass nss kss, .slice a0.outputs.a a0.outputs.n a0.outputs.k, I a0.priority] 28 (0, 0))] :: d0 :: czs :: [(c0, .cells #[.slice none 0 0, .slice none 0 0, .slice none 0 0, I 0] 28 (0, 0))] :: [(p, .cells #[.slice a n k, I iti] 47 (0, 0))] :: H :: F) ∧ i ≤ m.toNat ∧ (LK m.toNat (ss.map Stage.v)) ∧ (0 ≤ iti ∧ iti ≤ n) ∧ OwnT encStage 40 18 ass nss kss ss css ∧ (∀ z ∈ ss, Stage.Ok [Gss] z)) (fun ⟨i, iti, ss, ass, nss, kss, css, Gss⟩ => m.toNat - i) (0, iti, a0.stages.l, a0.stages.a, a0.stages.n, a0.stages.k, g1, h1) ⟨u1, om, hlk0, om, i1, j1⟩ ?_
 rintro ⟨i, iti, ss, ass, nss, kss, css, Gss⟩ ρ _ ⟨i0, hi, hLK, hiti, hOss, hDss⟩
 have hn_ss := hOss.len; have hl_ss := hOss.le
 have hlk1 := hLK.1; rw [List.length_map] at hlk1
 refine seqE <| sR <| pu3 <| nT ?_
 refine cD (((i : Nat) : Int) < m) (fun v1 => ?_) (fun v1 => ?_)
 rotate_left
 ·refine exitE <| xB <| thenK_n <| sR ?_
  refine lA i0 2 0 4 (Try.isAgg28 _) (Try.sizeOf28 _) ?_
  refine sTw i0 5 [.slice a0.inputs.a a0.inputs.n a0.inputs.k, .slice ass nss kss, .slice a0.outputs.a a0.outputs.n a0.outputs.k, I a0.priority] Try.sizeOf28 ?_
  intro _ o0
  refine nT <| retE <| retN (vs := [.agg #[.slice a0.inputs.a a0.inputs.n a0.inputs.k, .slice ass nss kss, .slice a0.outputs.a a0.outputs.n a0.outputs.k, I a0.priority]]) rfl (.cons (.cell _ _ _ _ kr (lvA o0 5 0 [.slice a0.inputs.a a0.inputs.n a0.inputs.k, .slice ass nss kss, .slice a0.outputs.a a0.outputs.n a0.outputs.k, I a0.priority] (Try.isAgg28 _) (Try.sizeOf28 _) rfl rfl rfl)) .nil) ?_
  have w1 := ((o0.picks [1, 6]).drops [3, 4, 4])
  have x1 : Sat W _ ([(p, .cells #[.slice a n k, I iti] 47 (0, 0))] :: (css ++ Gss ++ d0) :: (H :: F)) := Sat.perm (show Sat W _ ([(p, .cells #[.slice a n k, I iti] 47 (0, 0))] :: css :: Gss :: d0 :: H :: F) from w1) (by simp [Value.cells])
  have hlk2 := hLK.1; rw [List.length_map] at hlk2; have hos := hOss.len
  exact ⟨(⟨a0.inputs, ⟨ass, nss, kss, ss⟩, a0.outputs, a0.priority⟩ : Job), (css ++ Gss ++ d0), rfl, ⟨(k1).of_mem mS, (fun z hz => (l1 z hz).of_mem mS), ((hOss.rdAt (cs := [css]) 0 rfl)).of_mem mS, (fun z hz => (hDss z hz).of_mem mS), (m1).of_mem mS⟩, ⟨ss.map Stage.v, hLK, job_v n0⟩, ⟨n1, (show nss = m.toNat by omega), o1⟩, _, om, x1⟩
 refine kT <| seqE <| blockE <| sR <| pu1 ?_
 have y1 := (i0.pick 6 rfl)
 refine cX Try.call13 (tape_next (RdT.flat (hR.up 6 (by rfl))) om (Sat.flat1 y1) 3 om) ?_
 rintro _ _ ⟨z1, rfl, _, a2, _, b2⟩
 have j0 := Sat.unflat1 b2
 refine pu1 <| nT ?_
 refine cE z1 0 (fun c2 => ?_) (fun c2 => ?_)
 rotate_left
 ·refine skipE <| blockK_n <| thenK_n <| regionE <| pu1 ?_
  refine sAdd ((i : Nat) : Int) 1 ?_
  refine pu1 <| nT ?_
  have d2 := (j0.picks [6, 6, 6, 6, 6, 6])
  exact ⟨(i + 1, a2, ss, ass, nss, kss, css, Gss), od, alA, d2, om, hLK, om, hOss, hDss⟩
 obtain ⟨b0, e2, f2, g0, g2, p0, h2⟩ := OwnT.elem hOss ((i : Nat) : Int)
 rw [Int.toNat_natCast] at g0 g2 p0
 refine drawE [6, 9] [(1, ⟨f0, 1, none⟩, .slice ass nss kss)] [(true, [0, 2, 3, 4]), (true, [5]), (true, [1]), (false, [6]), (true, [7]), (true, [8]), (false, [9])] rfl kr ⟨.inr (j0.cell 3 rfl rfl), trivial⟩ ?_
 have i2 := j0.drew
 refine wU [0, 2, 3, 4] ?_
 refine wAdd m 1 ?_
 refine wLd (.slice ass nss kss) 0 Try.isAgg26 ?_
 refine wO rfl ?_
 refine cX Try.call13 (tape_next (RdT.flat (hR.up 6 (by rfl))) om (Sat.flat1 i2) (m + 1) om) ?_
 rintro _ _ ⟨e0, rfl, _, k0, _, j2⟩
 have q0 := Sat.unflat1 j2
 refine nilO ⟨⟨.inr (q0.cell 3 rfl rfl), trivial⟩, ?_⟩
 refine wY (.pointer (some ⟨e2, f2 + i * 18, none⟩)) rfl (fun w _ => Y_idx (a := ass) (i := ((i : Nat) : Int)) (len := nss) (cap := kss) rfl Try.runUnderlying26 Try.sizeOf40 kr kr p0) ?_
 refine wU [8] ?_
 refine wO rfl ?_
 refine sStF q0 hOss h2 2 i 2 b0 (⟨b0.kind, b0.a, e0, b0.barrier, b0.edgePolicy, b0.edgeFill, b0.kW, b0.kH, b0.weights, b0.row, b0.col, b0.shift, b0.shift2, b0.x, b0.y, b0.bins, b0.ops, b0.max_⟩ : Stage) g0 (I e0) [I e0] Try.sizeOf3 ?_
 intro _ l0 k2 l2
 refine nilO ⟨dA, ?_⟩
 refine wN ?_
 refine blockK_n <| thenK_n <| regionE <| pu1 ?_
 refine sAdd ((i : Nat) : Int) 1 ?_
 refine pu1 <| nT ?_
 have m2 := (l2.picks [6, 6, 6, 6, 6, 6])
 have n2 := (Sat.perm (cs' := (Gss) :: (l0 :: [(f0, .cells #[.slice a0.inputs.a a0.inputs.n a0.inputs.k, .slice ass nss kss, .slice a0.outputs.a a0.outputs.n a0.outputs.k, I a0.priority] 28 (0, 0))] :: d0 :: czs :: [(c0, .cells #[.slice none 0 0, .slice none 0 0, .slice none 0 0, I 0] 28 (0, 0))] :: [(p, .cells #[.slice a n k, I k0] 47 (0, 0))] :: H :: F)) (show Sat W _ (Gss :: l0 :: [(f0, .cells #[.slice a0.inputs.a a0.inputs.n a0.inputs.k, .slice ass nss kss, .slice a0.outputs.a a0.outputs.n a0.outputs.k, I a0.priority] 28 (0, 0))] :: d0 :: czs :: [(c0, .cells #[.slice none 0 0, .slice none 0 0, .slice none 0 0, I 0] 28 (0, 0))] :: [(p, .cells #[.slice a n k, I k0] 47 (0, 0))] :: H :: F) from m2) (by simp))
 exact ⟨(i + 1, k0, (ss.set i (⟨b0.kind, b0.a, e0, b0.barrier, b0.edgePolicy, b0.edgeFill, b0.kW, b0.kH, b0.weights, b0.row, b0.col, b0.shift, b0.shift2, b0.x, b0.y, b0.bins, b0.ops, b0.max_⟩ : Stage)), ass, nss, kss, l0, (Gss)), od, alA, n2, om, (lk_set hLK g0 rfl rfl (show 0 ≤ e0 ∧ e0 ≤ ((m.toNat : Nat) : Int) from by omega)), om, k2, (mem_set (fun z hz => (hDss z hz).of_mem mS) (have h := hDss b0 (List.mem_of_getElem? g0); ⟨h.weights, h.row, h.col, h.x, h.xD, h.y, h.yD, h.ops⟩))⟩
end Go.Proofs.Ytbofcpnngniopaa

namespace Go.Proofs.Ytbofcpnngniopaa
open Go Go.E
set_option linter.unusedVariables false
set_option linter.unusedSimpArgs false
set_option linter.unnecessarySimpa false
set_option maxRecDepth 100000
set_option maxHeartbeats 2000000
variable {W w : World} {H : Chunk} {F : List Chunk}
/-! ### orders: sources first, the least first -/
def SP (ni : Int) (D : List (List Int)) (o : List Int) : Prop := ∀ (i : Nat) (x : Int), o[i]? = some x → ∃ m : Nat, x = ni + ((m : Nat) : Int) ∧ canG ni D (o.take i) m ∧ ∀ m', m' < m → ¬ canG ni D (o.take i) m'
theorem list_SP {ni : Int} (hni : 0 ≤ ni) {D : List (List Int)} : ∀ (k : Nat) {out : List Int}, SP ni D out → SP ni D (listG ni D k out)
 | 0, _, h => h
 | k + 1, out, h => by
  unfold listG
  by_cases c : pickG ni out D 0 < 0
  ·rw [if_pos c]; exact h
  ·rw [if_neg c]
   rcases pick0 hni (out := out) (D := D) with h1 | ⟨m, h1, h2, h3⟩
   ·exact absurd h1.1 c
   ·refine list_SP hni k fun i x hx => ?_
    by_cases hi : i < out.length
    ·rw [List.getElem?_append_left hi] at hx
     rw [List.take_append_of_le_length om]
     exact h i x hx
    ·have hl := (List.getElem?_eq_some_iff.1 hx).1
     rw [List.length_append, List.length_singleton] at hl
     obtain rfl : i = out.length := by omega
     rw [List.getElem?_append_right (Nat.le_refl _), Nat.sub_self] at hx
     have hx : pickG ni out D 0 = x := by simpa using hx
     rw [List.take_left]
     exact ⟨m, om, h2, h3⟩
theorem mem_full {ni : Int} {D : List (List Int)} {o : List Int} (h : OutG ni D o) (hl : o.length = D.length) {k : Nat} (hk : k < D.length) : (ni + ((k : Nat) : Int)) ∈ o := by
  apply Classical.byContradiction
  intro hc
  have h1 : OutG ni D (o ++ [ni + ((k : Nat) : Int)]) := by
    refine ⟨fun x hx => ?_, ?_⟩
    · rcases List.mem_append.1 hx with h2 | h2
      · exact h.r x h2
      · rw [List.mem_singleton.1 h2]; omega
    · rw [List.nodup_append]
      refine ⟨h.d, by simp, ?_⟩
      intro a ha b hb
      rw [List.mem_singleton.1 hb]
      rintro rfl; exact hc ha
  have := h1.len
  rw [List.length_append, List.length_singleton] at this
  omega
structure SO (n : Nat) (D : List (List Int)) (o : List Int) : Prop where
  len : o.length = n
  dl : D.length = n
  nd : o.Nodup
  rng : ∀ x ∈ o, 1 ≤ x ∧ x ≤ ((n : Nat) : Int)
  sp : SP 1 D o
  full : ∀ k : Nat, k < n → (1 + ((k : Nat) : Int)) ∈ o
theorem at_inj {o : List Int} (h : o.Nodup) {i j : Nat} {y : Int} (hi : o[i]? = some y) (hj : o[j]? = some y) : i = j :=
  (List.getElem?_inj (List.getElem?_eq_some_iff.1 hi).1 h).1 (hi.trans hj.symm)
theorem mem_take_at {o : List Int} {i : Nat} {y : Int} : y ∈ o.take i ↔ ∃ j, j < i ∧ o[j]? = some y := by
  rw [List.mem_iff_getElem?]
  constructor
  · rintro ⟨j, hj⟩
    rw [List.getElem?_take] at hj
    split at hj
    · exact ⟨j, by assumption, hj⟩
    · cases hj
  · rintro ⟨j, h1, h2⟩
    exact ⟨j, by rw [List.getElem?_take, if_pos h1]; exact h2⟩
def AT (o : List Int) (n i : Nat) (ats : List Int) : Prop := ats.length = n + 1 ∧ ∀ (x : Nat) (v : Int), ats[x]? = some v → (v = 0 ∧ ¬ ((x : Nat) : Int) ∈ o.take i) ∨ (∃ j : Nat, j < i ∧ o[j]? = some ((x : Nat) : Int) ∧ v = ((j : Nat) : Int) + 1)
theorem AT.start {o : List Int} {n N : Nat} (h : N = n + 1) : AT o n 0 (List.replicate N 0) := by
  subst h
  refine ⟨List.length_replicate, fun x v hv => .inl ⟨?_, by simp⟩⟩
  rw [List.getElem?_replicate] at hv
  split at hv
  · exact (Option.some.inj hv).symm
  · cases hv
theorem AT.step {o ats : List Int} {n i : Nat} {y : Int} (h : AT o n i ats) (hy : o[i]? = some y) (h0 : 0 ≤ y) : AT o n (i + 1) (ats.set y.toNat (((i : Nat) : Int) + 1)) := by
  refine ⟨by rw [List.length_set]; exact h.1, fun x v hv => ?_⟩
  rw [List.getElem?_set] at hv
  split at hv
  · rename_i e
    split at hv
    · exact .inr ⟨i, by omega, by rw [hy]; congr 1; omega, (Option.some.inj hv).symm⟩
    · cases hv
  · rename_i e
    rcases h.2 x v hv with ⟨h1, h2⟩ | ⟨j, h1, h2, h3⟩
    · refine .inl ⟨h1, ?_⟩
      rw [take_succ_at hy, List.mem_append, List.mem_singleton]
      rintro (h4 | h4)
      · exact h2 h4
      · omega
    · exact .inr ⟨j, by omega, h2, h3⟩
theorem AT.fresh {o ats : List Int} {n i : Nat} {y v : Int} (h : AT o n i ats) (hd : o.Nodup) (hy : o[i]? = some y) (h0 : 0 ≤ y) (hv : ats[y.toNat]? = some v) : v = 0 := by
  rcases h.2 _ v hv with h1 | ⟨j, h1, h2, _⟩
  · exact h1.1
  · rw [show ((y.toNat : Nat) : Int) = y by omega] at h2
    have := at_inj hd hy h2; omega
theorem AT.rng {o ats : List Int} {n i x : Nat} {v : Int} (h : AT o n i ats) (hv : ats[x]? = some v) : 0 ≤ v ∧ v ≤ ((i : Nat) : Int) := by
  rcases h.2 x v hv with h1 | ⟨j, h1, _, h2⟩ <;> omega
theorem at_stage {o ats : List Int} {n i : Nat} {D : List (List Int)} (hs : SO n D o) (h : AT o n i ats) (hi : i = n) {k : Nat} {v : Int} (h1 : 1 ≤ k) (h2 : k ≤ n) (hv : ats[k]? = some v) : ∃ j : Nat, j < n ∧ o[j]? = some ((k : Nat) : Int) ∧ v = ((j : Nat) : Int) + 1 := by
  subst hi
  rcases h.2 k v hv with ⟨_, h3⟩ | h3
  · refine absurd ?_ h3
    rw [List.take_of_length_le (by rw [hs.len]; exact Nat.le_refl _)]
    have := hs.full (k - 1) (by omega)
    rw [show (1 : Int) + ((k - 1 : Nat) : Int) = ((k : Nat) : Int) by omega] at this; exact this
  · exact h3
/-- Sources stand ahead. -/
theorem srt_src {o ats l : List Int} {n i k : Nat} {D : List (List Int)} {s u v : Int} (hs : SO n D o) (h : AT o n i ats) (hi : i = n) (h1 : 1 ≤ k) (h2 : k ≤ n) (hl : D[k - 1]? = some l) (hm : s ∈ l) (h0 : s > 0) (hu : ats[s.toNat]? = some u) (hv : ats[k]? = some v) : u < v := by
 obtain ⟨j, hj1, hj2, hj3⟩ := at_stage hs h hi h1 h2 hv
 obtain ⟨m, hm1, ⟨l', hm2, _, hm3⟩, _⟩ := hs.sp j _ hj2
 rw [show m = k - 1 by omega, hl] at hm2
 obtain rfl := Option.some.inj hm2
 rcases hm3 s hm with h3 | h3
 ·omega
 ·obtain ⟨i', hi1, hi2⟩ := mem_take_at.1 h3
  have hr := hs.rng s (List.mem_of_getElem? hi2)
  obtain ⟨j', _, hj5, hj6⟩ := at_stage hs h hi om om hu
  rw [show ((s.toNat : Nat) : Int) = s by omega] at hj5
  have := at_inj hs.nd hi2 hj5
  omega
def RD (o l : List Int) (m : Nat) (rd : Int) : Prop := (0 ≤ rd ∧ rd ≤ 1000) ∧ ∀ s ∈ l.take m, s ≤ 0 ∨ ∃ j : Nat, o[j]? = some s ∧ ((j : Nat) : Int) + 1 ≤ rd
theorem RD.start {o l : List Int} : RD o l 0 0 := ⟨by omega, fun s hs => by simp at hs⟩
theorem RD.skip {o l : List Int} {m : Nat} {rd s : Int} (h : RD o l m rd) (hs : l[m]? = some s) (h0 : ¬ s > 0) : RD o l (m + 1) rd := by
  refine ⟨h.1, fun x hx => ?_⟩
  rw [take_succ_at hs] at hx
  rcases List.mem_append.1 hx with h1 | h1
  · exact h.2 x h1
  · rw [List.mem_singleton.1 h1]; exact .inl (by omega)
theorem RD.add {o l ats : List Int} {n i m : Nat} {D : List (List Int)} {rd s u : Int} (h : RD o l m rd) (hso : SO n D o) (ha : AT o n i ats) (hi : i = n) (hn : n ≤ 100) (hs : l[m]? = some s) (h0 : s > 0) (hr : s ≤ ((n : Nat) : Int)) (hu : ats[s.toNat]? = some u) : RD o l (m + 1) (max rd u) := by
 obtain ⟨j, hj1, hj2, hj3⟩ := at_stage hso ha hi (k := s.toNat) om om hu
 rw [show ((s.toNat : Nat) : Int) = s by omega] at hj2
 have hl := hso.len
 have hb := h.1
 refine ⟨om, fun x hx => ?_⟩
 rw [take_succ_at hs] at hx
 rcases List.mem_append.1 hx with h1 | h1
 ·rcases h.2 x h1 with h2 | ⟨j2, h2, h3⟩
  ·exact .inl h2
  ·exact .inr ⟨j2, h2, om⟩
 ·rw [List.mem_singleton.1 h1]; exact .inr ⟨j, hj2, om⟩
/-- Of the stages that can come next the least one does. -/
theorem srt_least {o ats l : List Int} {n i k m : Nat} {D : List (List Int)} {rd u v x : Int} (hs : SO n D o) (h : AT o n i ats) (hi : i = n) (h1 : 1 ≤ k) (h2 : k ≤ n) (hl : D[k - 1]? = some l) (hm : l.length ≤ m) (hrd : RD o l m rd) (hv : ats[k]? = some v) (hu : rd ≤ u) (huv : u < v - 1) (hx : o[u.toNat]? = some x) : x ≤ ((k : Nat) : Int) := by
 obtain ⟨j, hj1, hj2, hj3⟩ := at_stage hs h hi h1 h2 hv
 obtain ⟨m', hm1, _, hm3⟩ := hs.sp u.toNat x hx
 have hb := hrd.1
 apply Classical.byContradiction
 intro hc
 refine hm3 (k - 1) om ⟨l, hl, ?_, fun s hsl => ?_⟩
 ·rw [show (1 : Int) + ((k - 1 : Nat) : Int) = ((k : Nat) : Int) by omega]
  intro hk
  obtain ⟨j', h3, h4⟩ := mem_take_at.1 hk
  have := at_inj hs.nd h4 hj2
  omega
 ·rcases hrd.2 s (by rw [List.take_of_length_le hm]; exact hsl) with h3 | ⟨j', h3, h4⟩
  ·exact .inl om
  ·exact .inr (mem_take_at.2 ⟨j', om, h3⟩)
/-! ### a further stage at the end -/
theorem lk_SO {n : Nat} {S : List StageV} {j : JobV} (hj : j = jobOf [pl0] S 0) (h : LK n S) (hc : chkCode j = 0) (h0 : (ordV j).2 = 0) : SO n (S.map srcs) (ordV j).1 := by
 have hl := ord_list hc
 have hi : j.inputs.length = 1 := by rw [hj]; rfl
 have hS : j.stages = S := by rw [hj]; rfl
 have hG := hl.2
 rw [hS, hi] at hG
 by_cases c : (listV j).length < j.stages.length
 ·have e : ordV j = ([], 7) := by rw [hl.1, if_pos c]
  rw [e] at h0; cases h0
 ·have e : ordV j = (listV j, 0) := by rw [hl.1, if_neg c]
  rw [e]
  have hlen := hG.len
  have hd : (S.map srcs).length = n := by rw [List.length_map]; exact h.1
  have hn : (listV j).length = (S.map srcs).length := by rw [hS] at c; rw [List.length_map] at hlen ⊢; omega
  refine ⟨(show (listV j).length = n by omega), hd, hG.d, fun x hx => ?_, ?_, fun k hk => ?_⟩
  ·have := hG.r x hx; omega
  ·have h1 := list_SP (ni := 1) om (D := S.map srcs) (S.length + 1) (out := []) (fun i x hx => by simp at hx)
   unfold listV
   rw [hi, hS]; exact h1
  ·exact mem_full hG hn om
end Go.Proofs.Ytbofcpnngniopaa

namespace Go.Proofs.Ytbofcpnngniopaa
open Go Go.E
set_option linter.unusedVariables false
set_option linter.unusedSimpArgs false
set_option linter.unnecessarySimpa false
set_option maxRecDepth 100000
set_option maxHeartbeats 2000000
variable {W w : World} {H : Chunk} {F : List Chunk}
theorem l17_sorted (W w : World) (H : Chunk) (F : List Chunk) (t : Option Addr) (nt kt : Nat) (xt : List Int) (size : Int) (ht : RdT encI 1 [H] t nt kt xt) (_hsize : -9223372036854775808 ≤ size ∧ size ≤ 9223372036854775807) (hS : Sat W w (H :: F)) :
  Calls Try.prog 4 #[.slice t nt kt, I size] w fun e w' => e = .returned (.bool true) ∧ Sat W w' (H :: F) := by
 have hlt := ht.le
 refine callsA 155 Try.func4 rfl ?_
 refine sR <| pu1 <| nT <| sR <| pu1 ?_
 refine cX Try.call5 (tape_new t nt kt hS) ?_
 rintro _ _ ⟨y0, rfl, p2⟩
 have d5 := ht.le
 refine pu1 <| nT <| sR <| pu2 ?_
 refine cX Try.call7 (mod_ok size 8 om om p2) ?_
 rintro _ _ ⟨l1, rfl, _, q2⟩
 refine sAdd 1 l1 ?_
 refine cX Try.call6 (l17_links (RdT.flat (ht.up 0 (by rfl))) om (Sat.flat1 q2) (1 + l1) om) ?_
 rintro _ _ ⟨a0, z0, rfl, e0, r2, s2, a1, _, t2⟩
 have u2 := Sat.unflat2 t2
 refine sAlloc u2 Try.zeroValue28 ?_
 intro h0 _ v2
 refine sT v2 0 0 (.agg (encJob a0).toArray) (encJob a0) (encJob a0).toArray Try.sizeOf28 ?_
 intro _ w1
 refine nilO ?_
 obtain ⟨S, hLK, hqv⟩ := r2; have hjn := s2
 have hch : chkCode a0.v = 0 := by rw [hqv]; exact lk_chk hLK om om
 have hb : a0.inputs.n ≤ 1000000 ∧ a0.stages.n ≤ 1000000 ∧ a0.outputs.n ≤ 1000000 := by omega
 have hcs := ord_cases hch; have hSl : a0.v.stages.length = a0.stages.n := by rw [hqv]; show S.length = _; rw [hLK.1]; omega
 have hqs : a0.stages.l.map Stage.v = S := congrArg JobV.stages hqv
 have hLn : LK a0.stages.n S := by have h := hLK; rw [show ((1 + l1)).toNat = a0.stages.n by omega] at h; exact h
 refine thenK_n <| sR ?_
 refine lA w1 0 0 4 (Try.isAgg28 _) (Try.sizeOf28 _) ?_
 refine cX Try.call8 (p17_order a0 ⟨(RdT.flat (e0.inputs.up 2 (by rfl))), (fun z hz => (e0.inputsD z hz).of_mem (mem_flat1 2 (by rfl))), (RdT.flat (e0.stages.up 2 (by rfl))), (fun z hz => (e0.stagesD z hz).of_mem (mem_flat1 2 (by rfl))), (RdT.flat (e0.outputs.up 2 (by rfl)))⟩ (od) (Sat.flat w1)) ?_
 rintro _ _ ⟨l0, d0, m0, b1, rfl, w0, w2⟩
 have m1 := Sat.unflat1 w2
 have hn_az_27 := w0.len; have hl_az_27 := w0.le
 refine pu5 <| nilO ?_
 have hcd : ((ordV a0.v).2 = 0 ∧ d0 = a0.stages.n) ∨ ((ordV a0.v).2 = 7 ∧ d0 = 0) := by
  have ho := hn_az_27
  rcases hcs with ⟨h1, h2, h3⟩ | ⟨h1, h2, _⟩
  ·exact .inl ⟨h1, om⟩
  ·right; rw [h2] at ho; exact ⟨h1, ho.symm⟩
 refine thenK_n <| seqE <| sR <| pu2 <| nT ?_
 refine cN ((ordV a0.v).2) 0 (fun x2 => ?_) (fun x2 => ?_)
 rotate_left
 ·refine sR <| pu4 ?_
  have y2 : (((d0 : Nat) : Int) : Int) = 0 := by omega
  refine sFix 33 _ true (beq_iff_eq.2 y2) ?_
  refine gY ?_
  refine cR Try.call11 (l17_sane  (Sat.flat m1)) ?_
  intro _ z2
  refine pu2 <| nT <| retE <| thenK_r <| retT [.bool true] ?_
  have a3 := (z2.pick 4 rfl)
  have b3 := a3.dropAt 1 rfl
  have c3 := b3.dropAt 1 rfl
  have d3 := c3.dropAt 1 rfl
  have e3 := d3.dropAt 1 rfl
  exact ⟨rfl, e3⟩
 refine kT <| seqE ?_
 have hso : SO a0.stages.n (S.map srcs) ((ordV a0.v).1) := lk_SO hqv hLn hch om
 refine regionE <| pu1 ?_
 refine sL m1 1 1 (.slice a0.stages.a a0.stages.n a0.stages.k) (Try.isAgg26 _) ?_
 refine pu1 ?_
 refine sAdd ((a0.stages.n : Nat) : Int) 1 ?_
 refine sMake (kl := .i64) (kc := .i64) (enc := encI) (sz := 1) (nb := 8) m1 0 ((((a0.stages.n : Nat) : Int) + 1)).toNat (((a0.stages.n : Nat) : Int) + 1) (om : (((a0.stages.n : Nat) : Int) + 1) = ((((((a0.stages.n : Nat) : Int) + 1)).toNat : Nat) : Int)) Try.underlying22 (i := Try.t3) kr fR ?_
 intro f3 g3 _ i3 j3
 refine pu1 <| nT <| seqE <| sR <| pu1 <| nT <| blockE ?_
 refine loopA (γ := Nat × (List Int) × (Option Addr) × Nat × Nat × Chunk) (fun ⟨i, ats, aats, nats, kats, cats⟩ => [(6, Pt h0 0), (7, .slice l0 d0 m0), (10, I ((i : Nat) : Int)), (9, .slice aats nats kats)]) (fun ⟨i, ats, aats, nats, kats, cats⟩ w => Sat W w (cats :: b1 :: [(h0, .cells (encJob a0).toArray 28 (0, 0))] :: [(y0, .cells #[.slice t nt kt, I a1] 47 (0, 0))] :: z0 :: H :: F) ∧ i ≤ d0 ∧ (AT ((ordV a0.v).1) a0.stages.n i ats) ∧ OwnT encI 3 1 aats nats kats ats cats) (fun ⟨i, ats, aats, nats, kats, cats⟩ => d0 - i) (0, (List.replicate ((((a0.stages.n : Nat) : Int) + 1)).toNat 0), (At f3 0), ((((a0.stages.n : Nat) : Int) + 1)).toNat, ((((a0.stages.n : Nat) : Int) + 1)).toNat, g3) ⟨j3, om, (AT.start om), i3⟩ ?_
 rintro ⟨i, ats, aats, nats, kats, cats⟩ ρ _ ⟨n0, hi, hAT, hOats⟩
 have hn_ats := hOats.len; have hl_ats := hOats.le
 have hal := hAT.1
 refine seqE <| sR <| pu4 <| nT ?_
 refine cD (((i : Nat) : Int) < ((d0 : Nat) : Int)) (fun k3 => ?_) (fun k3 => ?_)
 ·refine kT <| seqE <| blockE <| seqE <| seqE ?_
  obtain ⟨c0, q0, r0, s0, c1, d1, o5⟩ := OwnT.elem w0 ((i : Nat) : Int)
  rw [Int.toNat_natCast] at s0 c1 d1
  have hox_x_41 := hso.rng c0 (List.mem_of_getElem? s0)
  have l3 : ¬ ((c0 : Int) < 1) := by omega
  have m3 : ¬ ((c0 : Int) > ((a0.stages.n : Nat) : Int)) := by omega
  obtain ⟨o0, x1, y1, z1, n3, o3, p5⟩ := OwnT.elem hOats c0
  have hfr_x_50 : o0 = 0 := hAT.fresh hso.nd s0 om z1
  refine drawE [] [(3, ⟨q0, r0 + i * 1, none⟩, I c0), (9, ⟨q0, r0 + i * 1, none⟩, I c0), (11, ⟨h0, 1, none⟩, .slice a0.stages.a a0.stages.n a0.stages.k), (20, ⟨q0, r0 + i * 1, none⟩, I c0), (22, ⟨x1, y1 + (c0).toNat * 1, none⟩, I o0)] [(true, [0, 1]), (true, [2]), (true, [3]), (true, [4, 5]), (true, [6, 7]), (true, [8]), (true, [10]), (true, [9]), (true, [11]), (true, [12, 13, 14, 15]), (true, [16, 17, 18]), (true, [19]), (true, [20]), (true, [21]), (true, [22]), (true, [23, 24])] rfl kr ⟨.inr ((c1.up 1 rfl).cell n0 (k := 0) rfl), .inr ((c1.up 1 rfl).cell n0 (k := 0) rfl), .inr (n0.cell 2 rfl rfl), .inr ((c1.up 1 rfl).cell n0 (k := 0) rfl), .inr ((n3.up 0 rfl).cell n0 (k := 0) rfl), trivial⟩ ?_
  have a2 := n0.drew
  refine wU [0, 1] ?_
  refine wY (.pointer (some ⟨q0, r0 + i * 1, none⟩)) rfl (fun w _ => Y_idx (a := l0) (i := ((i : Nat) : Int)) (len := d0) (cap := m0) rfl Try.runUnderlying22 Try.sizeOf3 kr kr d1) ?_
  refine wLd (I c0) 0 Try.isAgg3 ?_
  refine wU [4, 5] ?_
  refine wFix 52 _ false (decide_eq_false l3) ?_
  refine wU [6, 7] ?_
  refine wY (.pointer (some ⟨q0, r0 + i * 1, none⟩)) rfl (fun w _ => Y_idx (a := l0) (i := ((i : Nat) : Int)) (len := d0) (cap := m0) rfl Try.runUnderlying22 Try.sizeOf3 kr kr d1) ?_
  refine wU [10] ?_
  refine wLd (I c0) 1 Try.isAgg3 ?_
  refine wLd (.slice a0.stages.a a0.stages.n a0.stages.k) 2 Try.isAgg26 ?_
  refine wU [12, 13, 14, 15] ?_
  refine wFix 62 _ false (decide_eq_false m3) ?_
  refine wU [16, 17, 18] ?_
  refine wY (.pointer (some ⟨q0, r0 + i * 1, none⟩)) rfl (fun w _ => Y_idx (a := l0) (i := ((i : Nat) : Int)) (len := d0) (cap := m0) rfl Try.runUnderlying22 Try.sizeOf3 kr kr d1) ?_
  refine wLd (I c0) 3 Try.isAgg3 ?_
  refine wY (.pointer (some ⟨x1, y1 + (c0).toNat * 1, none⟩)) rfl (fun w _ => Y_idx (a := aats) (i := c0) (len := nats) (cap := kats) rfl Try.runUnderlying22 Try.sizeOf3 kr kr o3) ?_
  refine wLd (I o0) 4 Try.isAgg3 ?_
  refine wU [23, 24] ?_
  refine wN ?_
  refine thenK_n ?_
  have p3 : (o0 : Int) = 0 := by omega
  refine cF _ (bne_eq_false_iff_eq.2 p3) ?_
  refine kT <| regionE <| pu3 ?_
  refine sIdxO w0 ((i : Nat) : Int) i Try.runUnderlying22 Try.sizeOf3 ?_
  intro q3 _ _ b2 r3 _
  obtain rfl : c0 = q3 := Option.some.inj (s0.symm.trans b2)
  have hox_x_41 := hso.rng c0 (List.mem_of_getElem? b2)
  refine sLp a2 (r3.up 1 rfl) 0 (I c0) (Try.isAgg3 _) ?_
  refine pu1 ?_
  refine sAdd ((i : Nat) : Int) 1 ?_
  refine sIdxO hOats c0 (c0).toNat Try.runUnderlying22 Try.sizeOf3 ?_
  intro s3 _ _ n1 _ u3
  obtain rfl : o0 = s3 := Option.some.inj (z1.symm.trans n1)
  have hfr_x_50 : o0 = 0 := hAT.fresh hso.nd s0 om n1
  refine sStF a2 hOats u3 0 (c0).toNat 0 o0 (((i : Nat) : Int) + 1) n1 (I (((i : Nat) : Int) + 1)) [I (((i : Nat) : Int) + 1)] Try.sizeOf3 ?_
  intro _ v3 w3 x3
  refine nB <| regionE <| pu1 ?_
  refine sAdd ((i : Nat) : Int) 1 ?_
  refine pu1 <| nT ?_
  exact ⟨(i + 1, (ats.set ((c0).toNat) (((i : Nat) : Int) + 1)), aats, nats, kats, v3), od, alA, x3, om, (hAT.step s0 om), w3⟩
 refine exitE <| xB <| thenK_n <| seqE <| seqE ?_
 have hin : i = a0.stages.n := by omega
 refine regionE <| pu1 <| nT <| blockE ?_
 refine loopA (γ := Nat) (fun k => [(6, Pt h0 0), (7, .slice l0 d0 m0), (9, .slice aats nats kats), (11, I ((k : Nat) : Int))]) (fun k w => Sat W w (cats :: b1 :: [(h0, .cells (encJob a0).toArray 28 (0, 0))] :: [(y0, .cells #[.slice t nt kt, I a1] 47 (0, 0))] :: z0 :: H :: F) ∧ k ≤ max nats 1 ∧ (1 ≤ k)) (fun k => (max nats 1) - k) 1 ⟨n0, om, om⟩ ?_
 rintro k ρ _ ⟨e1, hk, hk1⟩
 refine seqE <| sR <| pu4 <| nT ?_
 refine cD (((k : Nat) : Int) < ((nats : Nat) : Int)) (fun y3 => ?_) (fun y3 => ?_)
 rotate_left
 ·refine exitE <| xB <| thenK_n <| sR ?_
  refine cR Try.call11 (l17_sane  (Sat.flat e1)) ?_
  intro _ z3
  refine pu1 <| nT <| retE <| retT [.bool true] ?_
  have a4 := (z3.pick 5 rfl)
  have b4 := a4.dropAt 1 rfl
  have c4 := b4.dropAt 1 rfl
  have d4 := c4.dropAt 1 rfl
  have e4 := d4.dropAt 1 rfl
  have f4 := e4.dropAt 1 rfl
  exact ⟨rfl, f4⟩
 refine kT <| seqE <| blockE <| sR <| pu1 <| nT <| sR <| pu1 ?_
 refine sL e1 2 1 (.slice a0.stages.a a0.stages.n a0.stages.k) (Try.isAgg26 _) ?_
 refine pu1 ?_
 refine sSub ((k : Nat) : Int) 1 ?_
 refine sIdx e0.stages (((k : Nat) : Int) - 1) Try.runUnderlying26 Try.sizeOf40 ?_
 intro f0 _ _ g0 g4
 refine sLpA e1 (g4.up 4 rfl) 0 (encStage f0) (Try.isAgg40 _) (Try.sizeOf40 _) ?_
 refine cX Try.call12 (r15_sources f0 ⟨(RdT.flat ((e0.stagesD f0 (List.mem_of_getElem? g0)).weights.up 4 (by rfl))), (RdT.flat ((e0.stagesD f0 (List.mem_of_getElem? g0)).row.up 4 (by rfl))), (RdT.flat ((e0.stagesD f0 (List.mem_of_getElem? g0)).col.up 4 (by rfl))), (RdT.flat ((e0.stagesD f0 (List.mem_of_getElem? g0)).x.up 4 (by rfl))), (fun z hz => ((e0.stagesD f0 (List.mem_of_getElem? g0)).xD z hz).of_mem (mem_flat1 4 (by rfl))), (RdT.flat ((e0.stagesD f0 (List.mem_of_getElem? g0)).y.up 4 (by rfl))), (fun z hz => ((e0.stagesD f0 (List.mem_of_getElem? g0)).yD z hz).of_mem (mem_flat1 4 (by rfl))), (RdT.flat ((e0.stagesD f0 (List.mem_of_getElem? g0)).ops.up 4 (by rfl)))⟩ (Sat.flat e1)) ?_
 rintro _ _ ⟨f1, p0, g1, c2, rfl, t0, h4⟩
 have i4 := Sat.unflat1 h4
 have hn_az_86 := t0.len; have hl_az_86 := t0.le
 have c6 : 1 ≤ (srcs f0.v).length ∧ (srcs f0.v).length ≤ 2 := srcs_len _
 refine pu1 <| nT <| seqE <| sR <| pu1 <| nT <| blockE ?_
 refine loopA (γ := Nat × Int) (fun ⟨m, rd⟩ => [(6, Pt h0 0), (7, .slice l0 d0 m0), (9, .slice aats nats kats), (11, I ((k : Nat) : Int)), (13, .slice f1 p0 g1), (14, I ((m : Nat) : Int)), (12, I rd)]) (fun ⟨m, rd⟩ w => Sat W w (c2 :: cats :: b1 :: [(h0, .cells (encJob a0).toArray 28 (0, 0))] :: [(y0, .cells #[.slice t nt kt, I a1] 47 (0, 0))] :: z0 :: H :: F) ∧ m ≤ p0 ∧ (RD ((ordV a0.v).1) (srcs f0.v) m rd)) (fun ⟨m, rd⟩ => p0 - m) (0, 0) ⟨i4, om, RD.start⟩ ?_
 rintro ⟨m, rd⟩ ρ _ ⟨i0, hm, hRD⟩
 have hrd0 := hRD.1
 refine seqE <| sR <| pu4 <| nT ?_
 refine cD (((m : Nat) : Int) < ((p0 : Nat) : Int)) (fun j4 => ?_) (fun j4 => ?_)
 rotate_left
 ·refine exitE <| xB <| thenK_n <| sR <| pu2 <| nT <| blockE ?_
  refine loopA (γ := Nat × Int) (fun ⟨j, u⟩ => [(6, Pt h0 0), (7, .slice l0 d0 m0), (9, .slice aats nats kats), (11, I ((k : Nat) : Int)), (15, I u)]) (fun ⟨j, u⟩ w => Sat W w (c2 :: cats :: b1 :: [(h0, .cells (encJob a0).toArray 28 (0, 0))] :: [(y0, .cells #[.slice t nt kt, I a1] 47 (0, 0))] :: z0 :: H :: F) ∧ j ≤ d0 ∧ (u = rd + ((j : Nat) : Int))) (fun ⟨j, u⟩ => d0 - j) (0, rd) ⟨i0, om, om⟩ ?_
  rintro ⟨j, u⟩ ρ _ ⟨x0, hj, hu⟩
  refine seqE <| sR <| pu3 ?_
  refine sIdxO hOats ((k : Nat) : Int) k Try.runUnderlying22 Try.sizeOf3 ?_
  intro o1 _ _ d2 k4 _
  have hrg_x_142 := hAT.rng d2
  refine sLp x0 (k4.up 1 rfl) 0 (I o1) (Try.isAgg3 _) ?_
  refine sSub o1 1 ?_
  refine pu2 ?_
  refine sD 140 (u < (o1 - 1)) (fun l4 => ?_) (fun l4 => ?_)
  rotate_left
  ·refine pu5 <| nT <| cFf <| exitE <| xB <| blockK_n <| thenK_n <| regionE <| pu1 ?_
   refine sAdd ((k : Nat) : Int) 1 ?_
   refine pu1 <| nT ?_
   have m4 := (x0.dropAt 0 rfl)
   exact ⟨k + 1, od, alA, m4, om, om⟩
  refine pu5 <| nT ?_
  refine cD (u < ((d0 : Nat) : Int)) (fun n4 => ?_) (fun n4 => ?_)
  rotate_left
  ·refine exitE <| xB <| blockK_n <| thenK_n <| regionE <| pu1 ?_
   refine sAdd ((k : Nat) : Int) 1 ?_
   refine pu1 <| nT ?_
   have o4 := (x0.dropAt 0 rfl)
   exact ⟨k + 1, od, alA, o4, om, om⟩
  refine kT <| seqE <| blockE <| sR <| pu2 ?_
  refine sIdxO w0 u (u).toNat Try.runUnderlying22 Try.sizeOf3 ?_
  intro p1 _ _ e2 p4 _
  have hox_x_150 := hso.rng p1 (List.mem_of_getElem? e2)
  refine sLp x0 (p4.up 2 rfl) 0 (I p1) (Try.isAgg3 _) ?_
  refine pu2 <| nT ?_
  have q4 : ¬ ((p1 : Int) > ((k : Nat) : Int)) := by have h := srt_least hso hAT hin hk1 om (by rw [← hqs]; exact map_at (f := srcs) (map_at (f := Stage.v) (by rw [show k - 1 = (((k : Nat) : Int) - 1).toNat by omega]; exact g0))) om hRD d2 om om e2; omega
  refine cF _ (decide_eq_false q4) ?_
  refine skipE <| blockK_n <| thenK_n <| regionE <| pu1 ?_
  refine sAdd u 1 ?_
  refine pu1 <| nT ?_
  exact ⟨(j + 1, (u + 1)), od, alA, x0, om, om⟩
 refine kT <| seqE <| blockE <| seqE <| seqE ?_
 obtain ⟨b0, u0, v0, j0, q1, r1⟩ := RdT.elem t0 ((m : Nat) : Int)
 rw [Int.toNat_natCast] at j0
 have hsx_x_95 := lk_src hLn (by rw [← hqs]; exact List.mem_map_of_mem (List.mem_of_getElem? g0)) b0 (List.mem_of_getElem? j0)
 by_cases i1 : (b0 : Int) > 0
 rotate_left
 ·refine drawE [] [(3, ⟨u0, v0, none⟩, I b0)] [(true, [0, 1]), (true, [2]), (true, [3]), (true, [4, 5]), (true, [6, 7, 8, 9, 13, 14, 15, 10, 11, 12, 16, 17, 18])] rfl kr ⟨.inr ((q1.up 0 rfl).cell i0 (k := 0) rfl), trivial⟩ ?_
  have f2 := i0.drew
  refine wU [0, 1] ?_
  refine wY (.pointer (some ⟨u0, v0, none⟩)) rfl (fun w _ => Y_idx (a := f1) (i := ((m : Nat) : Int)) (len := p0) (cap := g1) rfl Try.runUnderlying22 Try.sizeOf3 kr kr r1) ?_
  refine wLd (I b0) 0 Try.isAgg3 ?_
  refine wU [4, 5] ?_
  refine wFix 104 _ false (decide_eq_false i1) ?_
  refine wU [6, 7, 8, 9, 13, 14, 15, 10, 11, 12, 16, 17, 18] ?_
  refine wN ?_
  refine thenK_n <| cFf <| kT <| sR <| pu2 ?_
  refine sIdx t0 ((m : Nat) : Int) Try.runUnderlying22 Try.sizeOf3 ?_
  intro r4 _ _ s1 s4
  rw [Int.toNat_natCast] at s1
  obtain rfl : b0 = r4 := Option.some.inj (j0.symm.trans s1)
  have hsx_x_95 := lk_src hLn (by rw [← hqs]; exact List.mem_map_of_mem (List.mem_of_getElem? g0)) b0 (List.mem_of_getElem? s1)
  refine sLp f2 (s4.up 0 rfl) 0 (I b0) (Try.isAgg3 _) ?_
  refine pu1 <| nT ?_
  refine cF _ (decide_eq_false i1) ?_
  refine skipE <| blockK_n <| thenK_n <| regionE <| pu1 ?_
  refine sAdd ((m : Nat) : Int) 1 ?_
  refine pu1 <| nT ?_
  exact ⟨(m + 1, rd), od, alA, f2, om, (hRD.skip j0 om)⟩
 obtain ⟨t1, g2, i2, u1, j2, k2, n6⟩ := OwnT.elem hOats ((k : Nat) : Int)
 rw [Int.toNat_natCast] at u1 j2 k2
 have hrg_x_102 := hAT.rng u1
 obtain ⟨k0, l2, m2, j1, t4, u4, o6⟩ := OwnT.elem hOats b0
 have hrg_x_109 := hAT.rng j1
 refine drawE [] [(3, ⟨u0, v0, none⟩, I b0), (10, ⟨u0, v0, none⟩, I b0), (12, ⟨l2, m2 + (b0).toNat * 1, none⟩, I k0), (16, ⟨g2, i2 + k * 1, none⟩, I t1)] [(true, [0, 1]), (true, [2]), (true, [3]), (true, [4, 5]), (true, [6, 7, 8]), (true, [9]), (true, [13, 14]), (true, [15]), (true, [10]), (true, [11]), (true, [12]), (true, [16]), (true, [17, 18])] rfl kr ⟨.inr ((q1.up 0 rfl).cell i0 (k := 0) rfl), .inr ((q1.up 0 rfl).cell i0 (k := 0) rfl), .inr ((t4.up 1 rfl).cell i0 (k := 0) rfl), .inr ((j2.up 1 rfl).cell i0 (k := 0) rfl), trivial⟩ ?_
 have k1 := i0.drew
 refine wU [0, 1] ?_
 refine wY (.pointer (some ⟨u0, v0, none⟩)) rfl (fun w _ => Y_idx (a := f1) (i := ((m : Nat) : Int)) (len := p0) (cap := g1) rfl Try.runUnderlying22 Try.sizeOf3 kr kr r1) ?_
 refine wLd (I b0) 0 Try.isAgg3 ?_
 refine wU [4, 5] ?_
 refine wFix 104 _ true (decide_eq_true i1) ?_
 refine wU [6, 7, 8] ?_
 refine wY (.pointer (some ⟨u0, v0, none⟩)) rfl (fun w _ => Y_idx (a := f1) (i := ((m : Nat) : Int)) (len := p0) (cap := g1) rfl Try.runUnderlying22 Try.sizeOf3 kr kr r1) ?_
 refine wU [13, 14] ?_
 refine wY (.pointer (some ⟨g2, i2 + k * 1, none⟩)) rfl (fun w _ => Y_idx (a := aats) (i := ((k : Nat) : Int)) (len := nats) (cap := kats) rfl Try.runUnderlying22 Try.sizeOf3 kr kr k2) ?_
 refine wLd (I b0) 1 Try.isAgg3 ?_
 refine wY (.pointer (some ⟨l2, m2 + (b0).toNat * 1, none⟩)) rfl (fun w _ => Y_idx (a := aats) (i := b0) (len := nats) (cap := kats) rfl Try.runUnderlying22 Try.sizeOf3 kr kr u4) ?_
 refine wLd (I k0) 2 Try.isAgg3 ?_
 refine wLd (I t1) 3 Try.isAgg3 ?_
 refine wU [17, 18] ?_
 refine wN ?_
 refine thenK_n ?_
 have v4 : ¬ ((k0 : Int) ≥ t1) := by have h := srt_src hso hAT hin hk1 om (by rw [← hqs]; exact map_at (f := srcs) (map_at (f := Stage.v) (by rw [show k - 1 = (((k : Nat) : Int) - 1).toNat by omega]; exact g0))) (List.mem_of_getElem? j0) om j1 u1; omega
 refine cF _ (decide_eq_false v4) ?_
 refine kT <| sR <| pu2 ?_
 refine sIdx t0 ((m : Nat) : Int) Try.runUnderlying22 Try.sizeOf3 ?_
 intro w4 _ _ v1 x4
 rw [Int.toNat_natCast] at v1
 obtain rfl : b0 = w4 := Option.some.inj (j0.symm.trans v1)
 have hsx_x_95 := lk_src hLn (by rw [← hqs]; exact List.mem_map_of_mem (List.mem_of_getElem? g0)) b0 (List.mem_of_getElem? v1)
 refine sLp k1 (x4.up 0 rfl) 0 (I b0) (Try.isAgg3 _) ?_
 refine pu1 <| nT ?_
 refine cT _ (decide_eq_true i1) ?_
 refine regionE <| pu4 ?_
 refine sIdx t0 ((m : Nat) : Int) Try.runUnderlying22 Try.sizeOf3 ?_
 intro y4 _ _ n2 z4
 rw [Int.toNat_natCast] at n2
 obtain rfl : b0 = y4 := Option.some.inj (j0.symm.trans n2)
 refine sLp k1 (z4.up 0 rfl) 0 (I b0) (Try.isAgg3 _) ?_
 refine sIdxO hOats b0 (b0).toNat Try.runUnderlying22 Try.sizeOf3 ?_
 intro a5 _ _ o2 b5 _
 obtain rfl : k0 = a5 := Option.some.inj (j1.symm.trans o2)
 have hrg_x_109 := hAT.rng o2
 refine sLp k1 (b5.up 1 rfl) 0 (I k0) (Try.isAgg3 _) ?_
 refine stepY (I (max rd k0)) rfl rfl (Y_max2 rd k0 rfl rfl kr kr) ?_
 refine pu1 <| nB <| regionE <| pu1 ?_
 refine sAdd ((m : Nat) : Int) 1 ?_
 refine pu1 <| nT ?_
 exact ⟨(m + 1, (max rd k0)), od, alA, k1, om, (hRD.add hso hAT hin om j0 om om j1)⟩
end Go.Proofs.Ytbofcpnngniopaa
