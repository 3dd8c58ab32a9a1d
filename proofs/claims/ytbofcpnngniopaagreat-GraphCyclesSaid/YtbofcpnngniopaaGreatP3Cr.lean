import Derived.Test.YtbofcpnngniopaaGreatP3Srt
import Derived.Test.YtbofcpnngniopaaGreatP3Short
import Derived.Test.YtbofcpnngniopaaGreatProg
import Derived.Test.YtbofcpnngniopaaGreatP3RefS
import Derived.Test.YtbofcpnngniopaaGreatP3Graph
namespace Go.Proofs.YtbofcpnngniopaaGreat
open Go Go.E
set_option linter.unusedVariables false
set_option linter.unusedSimpArgs false
set_option linter.unnecessarySimpa false
set_option maxRecDepth 100000
set_option maxHeartbeats 2000000
variable {W w : World} {H : Chunk} {F : List Chunk}
/-! ### the reference's steps and Cycle -/
section
variable {ni t : Nat} {D : List (List Int)}
-- squeezed
def PS (ni t : Nat) (D : List (List Int)) (L i : Nat) (xs : List Int) : Prop := xs.length = D.length ∧ ∀ j, j < D.length → xs.getD j 0 = if j < i then (rndG ni t D ((L : Nat) : Int) (stG ni t D (L - 1))).getD j 0 else (stG ni t D (L - 1)).getD j 0
theorem PS.start {L : Nat} {xs : List Int} (h : xs = stG ni t D (L - 1)) : PS ni t D L 0 xs := ⟨by rw [h, st_len], fun j _ => by rw [h, if_neg (by omega)]⟩
theorem getD_ext {xs ys : List Int} (h : xs.length = ys.length) (e : ∀ j, j < xs.length → xs.getD j 0 = ys.getD j 0) : xs = ys := by
  refine List.ext_getElem h fun j h1 h2 => ?_
  have := e j h1
  rw [List.getD_eq_getElem?_getD, List.getD_eq_getElem?_getD, List.getElem?_eq_getElem h1, List.getElem?_eq_getElem h2] at this
  exact this
theorem PS.fin {L i : Nat} {xs : List Int} (h : PS ni t D L i xs) (hi : i = D.length) (hL : 1 ≤ L) : xs = stG ni t D L := by
  refine getD_ext (by rw [h.1, st_len]) fun j hj => ?_
  rw [h.1] at hj
  rw [h.2 j hj, if_pos (by omega)]
  obtain ⟨k, rfl⟩ : ∃ k, L = k + 1 := ⟨L - 1, by omega⟩
  rw [show k + 1 - 1 = k by omega]
  show _ = (rndG ni t D _ _).getD j 0
  rw [show (((k + 1 : Nat)) : Int) = ((k : Nat) : Int) + 1 by omega]
def hitP (ni t : Nat) (L : Int) (xs : List Int) (x : Int) : Prop := ((ni : Nat) : Int) ≤ x ∧ ((L = 1 ∧ x - ((ni : Nat) : Int) = ((t : Nat) : Int)) ∨ (1 < L ∧ xs.getD (x - ((ni : Nat) : Int)).toNat 0 = L - 1))
theorem PS.same {L i : Nat} {xs : List Int} (h : PS ni t D L i xs) {s : Nat} (hs : s < D.length) (hL : 1 < L) : xs.getD s 0 = ((L : Nat) : Int) - 1 ↔ (stG ni t D (L - 1)).getD s 0 = ((L : Nat) : Int) - 1 := by
  rw [h.2 s hs]
  split
  · rw [rnd_at hs]
    split
    · rename_i h1; omega
    · exact Iff.rfl
  · exact Iff.rfl
theorem PS.hit {L i : Nat} {xs : List Int} (h : PS ni t D L i xs) {x : Int} (hx : x < ((ni + D.length : Nat) : Int)) (hL : 1 ≤ L) : hitP ni t ((L : Nat) : Int) xs x ↔ hitP ni t ((L : Nat) : Int) (stG ni t D (L - 1)) x := by
  unfold hitP
  by_cases c : ((ni : Nat) : Int) ≤ x ∧ 1 < L
  · have := h.same (s := (x - ((ni : Nat) : Int)).toNat) (by omega) c.2
    rw [this]
  · constructor
    · rintro ⟨h1, h2 | h2⟩
      · exact ⟨h1, .inl h2⟩
      · exact absurd ⟨h1, by omega⟩ c
    · rintro ⟨h1, h2 | h2⟩
      · exact ⟨h1, .inl h2⟩
      · exact absurd ⟨h1, by omega⟩ c
def QS (ni t : Nat) (D : List (List Int)) (L i k : Nat) (s : List Int) (xs : List Int) : Prop :=
  (PS ni t D L i xs ∧ ∀ x ∈ s.take k, ¬ hitP ni t ((L : Nat) : Int) (stG ni t D (L - 1)) x) ∨ (PS ni t D L (i + 1) xs ∧ ¬ xs.getD i 0 = 0)
theorem QS.start {L i : Nat} {s xs : List Int} (h : PS ni t D L i xs) : QS ni t D L i 0 s xs := .inl ⟨h, fun x hx => by simp at hx⟩
theorem QS.len {L i k : Nat} {s xs : List Int} (h : QS ni t D L i k s xs) : xs.length = D.length := by rcases h with h | h <;> exact h.1.1
theorem hit_any {L : Int} {out s : List Int} : hitG ni t out L s = true ↔ ∃ x ∈ s, hitP ni t L out x := by
  unfold hitG hitP
  rw [List.any_eq_true]
  simp only [decide_eq_true_eq]
theorem QS.fin {L i k : Nat} {s xs : List Int} (h : QS ni t D L i k s xs) (hs : D[i]? = some s) (he : s.length ≤ k ∨ ¬ xs.getD i 0 = 0) : PS ni t D L (i + 1) xs := by
 rcases h with ⟨h1, h2⟩ | h
 ·refine ⟨h1.1, fun j hj => ?_⟩
  rw [h1.2 j hj]
  by_cases c : j < i
  ·rw [if_pos c, if_pos om]
  ·rw [if_neg c]
   by_cases e : j = i
   ·subst e
    rw [if_pos om, rnd_at hj]
    have hx := h1.2 j hj
    rw [if_neg c] at hx
    rw [if_neg]
    rintro ⟨h3, h4⟩
    rw [hx] at he
    rw [List.getD_eq_getElem?_getD, hs] at h4
    obtain ⟨x, hm, hp⟩ := hit_any.1 h4
    rcases he with he | he
    ·exact h2 x (by rw [List.take_of_length_le he]; exact hm) hp
    ·exact he h3
   ·rw [if_neg om]
 ·exact h.1
theorem QS.zero {L i k : Nat} {s xs : List Int} (h : QS ni t D L i k s xs) (hx : xs[i]? = some 0) : PS ni t D L i xs ∧ ∀ x ∈ s.take k, ¬ hitP ni t ((L : Nat) : Int) (stG ni t D (L - 1)) x := by
  rcases h with h | h
  · exact h
  · refine absurd ?_ h.2
    rw [List.getD_eq_getElem?_getD, hx]; rfl
theorem QS.hit {L i k : Nat} {s xs : List Int} {x : Int} (h : QS ni t D L i k s xs) (hs : D[i]? = some s) (h0 : xs[i]? = some 0) (hx : s[k]? = some x) (hL : 1 ≤ L) (hr : x < ((ni + D.length : Nat) : Int)) (hp : hitP ni t ((L : Nat) : Int) xs x) : QS ni t D L i (k + 1) s (xs.set i ((L : Nat) : Int)) := by
 obtain ⟨h1, _⟩ := h.zero h0
 have hi := (List.getElem?_eq_some_iff.1 hs).1
 have hl := h1.1
 have e : (xs.set i ((L : Nat) : Int)).getD i 0 = ((L : Nat) : Int) := by rw [List.getD_eq_getElem?_getD, List.getElem?_set, if_pos rfl, if_pos om]; rfl
 refine .inr ⟨⟨by rw [List.length_set]; exact hl, fun j hj => ?_⟩, by rw [e]; omega⟩
 by_cases c : j = i
 ·subst c
  rw [e, if_pos om, rnd_at hj, if_pos]
  refine ⟨?_, ?_⟩
  ·have := h1.2 j hj
   rw [if_neg om] at this
   rw [← this, List.getD_eq_getElem?_getD, h0]; rfl
  ·rw [List.getD_eq_getElem?_getD, hs]
   exact hit_any.2 ⟨x, List.mem_of_getElem? hx, (h1.hit hr hL).1 hp⟩
 ·have e2 : (xs.set i ((L : Nat) : Int)).getD j 0 = xs.getD j 0 := by rw [List.getD_eq_getElem?_getD, List.getElem?_set, if_neg om, List.getD_eq_getElem?_getD]
  rw [e2, h1.2 j hj]
  by_cases d : j < i
  ·rw [if_pos d, if_pos om]
  ·rw [if_neg d, if_neg om]
theorem QS.miss {L i k : Nat} {s xs : List Int} {x : Int} (h : QS ni t D L i k s xs) (h0 : xs[i]? = some 0) (hx : s[k]? = some x) (hL : 1 ≤ L) (hr : x < ((ni + D.length : Nat) : Int)) (hp : ¬ hitP ni t ((L : Nat) : Int) xs x) : QS ni t D L i (k + 1) s xs := by
  obtain ⟨h1, h2⟩ := h.zero h0
  refine .inl ⟨h1, fun y hy => ?_⟩
  rw [take_succ_at hx] at hy
  rcases List.mem_append.1 hy with hy | hy
  · exact h2 y hy
  · rw [List.mem_singleton.1 hy]; exact fun hq => hp ((h1.hit hr hL).2 hq)
end
/-- The reference's search for the best first stage. -/
def RB (ni : Nat) (D : List (List Int)) (i : Nat) (first best : Int) : Prop :=
  (first = -1 ∧ best = 0 ∧ minV (fwG (edgG ni D) 16) (ni + i) = (-1, 1000)) ∨ (0 ≤ first ∧ first < ((D.length : Nat) : Int) ∧ 1 ≤ best ∧ best < 1000 ∧ minV (fwG (edgG ni D) 16) (ni + i) = (((ni : Nat) : Int) + first, best))
theorem minV_in {ni : Nat} {D : List (List Int)} : ∀ (k : Nat), k ≤ ni → minV (fwG (edgG ni D) 16) k = (-1, 1000)
  | 0, _ => rfl
  | k + 1, h => by
    unfold minV
    rw [minV_in k (by omega), fw_input (.inl (by omega)), if_neg (by omega)]
theorem RB.start {ni : Nat} {D : List (List Int)} : RB ni D 0 (-1) 0 := .inl ⟨rfl, rfl, minV_in ni (Nat.le_refl _)⟩
theorem st_val {ni t i : Nat} {D : List (List Int)} (hR : RngG ni D) (hN : ni + D.length ≤ 16) (ht : t < D.length) (hi : i < D.length) :
    ((stG ni t D D.length).getD i 0 = 0 ∧ fwG (edgG ni D) 16 (ni + i) (ni + t) = 1000) ∨ (1 ≤ (stG ni t D D.length).getD i 0 ∧ (stG ni t D D.length).getD i 0 < 1000 ∧ fwG (edgG ni D) 16 (ni + i) (ni + t) = (stG ni t D D.length).getD i 0) := by
  rcases st_fw hR hN (Nat.le_refl _) ht hi with ⟨h1, h2, _⟩ | ⟨M, h0, h1, h2, _⟩
  · exact .inl ⟨h1, h2⟩
  · exact .inr ⟨by omega, by omega, by omega⟩
theorem RB.take {ni i : Nat} {D : List (List Int)} {first best v : Int} (h : RB ni D i first best) (hR : RngG ni D) (hN : ni + D.length ≤ 16) (hi : i < D.length) (hv : (stG ni i D D.length)[i]? = some v) (h0 : v > 0) (hc : first < 0 ∨ v < best) : RB ni D (i + 1) ((i : Nat) : Int) v := by
 have hd : (stG ni i D D.length).getD i 0 = v := by rw [List.getD_eq_getElem?_getD, hv]; rfl
 have hs := st_val hR hN hi hi
 rw [hd] at hs
 rcases hs with hs | hs
 ·omega
 ·refine .inr ⟨om, om, om, om, ?_⟩
  rw [show ni + (i + 1) = (ni + i) + 1 by omega]
  unfold minV
  rcases h with ⟨_, _, h3⟩ | ⟨h1, _, _, h4, h5⟩
  ·rw [h3, hs.2.2, if_pos (by show v < 1000; omega)]
   rw [show (((ni + i : Nat)) : Int) = ((ni : Nat) : Int) + ((i : Nat) : Int) by omega]
  ·rw [h5, hs.2.2, if_pos (by show v < best; omega)]
   rw [show (((ni + i : Nat)) : Int) = ((ni : Nat) : Int) + ((i : Nat) : Int) by omega]
theorem RB.skip {ni i : Nat} {D : List (List Int)} {first best v : Int} (h : RB ni D i first best) (hR : RngG ni D) (hN : ni + D.length ≤ 16) (hi : i < D.length) (hv : (stG ni i D D.length)[i]? = some v) (hc : ¬ (v > 0 ∧ (first < 0 ∨ v < best))) : RB ni D (i + 1) first best := by
 have hd : (stG ni i D D.length).getD i 0 = v := by rw [List.getD_eq_getElem?_getD, hv]; rfl
 have hs := st_val hR hN hi hi
 rw [hd] at hs
 have e : ∀ r : Int × Int, minV (fwG (edgG ni D) 16) (ni + i) = r → ¬ fwG (edgG ni D) 16 (ni + i) (ni + i) < r.2 → minV (fwG (edgG ni D) 16) (ni + (i + 1)) = r := by
  intro r hr hn
  rw [show ni + (i + 1) = (ni + i) + 1 by omega]
  unfold minV
  rw [hr, if_neg hn]
 rcases h with ⟨h1, h2, h3⟩ | ⟨h1, h2, h3, h4, h5⟩
 ·exact .inl ⟨h1, h2, e _ h3 (by simp only; omega)⟩
 ·exact .inr ⟨h1, h2, h3, h4, e _ h5 (by simp only; omega)⟩
theorem minV_out {ni : Nat} {D : List (List Int)} {r : Int × Int} (hr : r.2 ≤ 1000) : ∀ (k : Nat), minV (fwG (edgG ni D) 16) (ni + D.length) = r → minV (fwG (edgG ni D) 16) (ni + D.length + k) = r
  | 0, h => h
  | k + 1, h => by
    rw [show ni + D.length + (k + 1) = (ni + D.length + k) + 1 by omega]
    unfold minV
    rw [minV_out hr k h, fw_input (.inr (by omega)), if_neg (by omega)]
theorem RB.fin {ni i : Nat} {D : List (List Int)} {first best : Int} (h : RB ni D i first best) (hi : i = D.length) (hN : ni + D.length ≤ 16) :
  (first = -1 ∧ minV (fwG (edgG ni D) 16) 16 = (-1, 1000)) ∨ (0 ≤ first ∧ first < ((D.length : Nat) : Int) ∧ 1 ≤ best ∧ best < 1000 ∧ minV (fwG (edgG ni D) 16) 16 = (((ni : Nat) : Int) + first, best)) := by
 subst hi
 have e : ∀ r : Int × Int, r.2 ≤ 1000 → minV (fwG (edgG ni D) 16) (ni + D.length) = r → minV (fwG (edgG ni D) 16) 16 = r := by
  intro r hr hm
  have := minV_out hr (16 - (ni + D.length)) hm
  rw [show ni + D.length + (16 - (ni + D.length)) = 16 by omega] at this; exact this
 rcases h with ⟨h1, h2, h3⟩ | ⟨h1, h2, h3, h4, h5⟩
 ·exact .inl ⟨h1, e _ (by simp) h3⟩
 ·exact .inr ⟨h1, h2, h3, h4, e _ (by simp only; omega) h5⟩
/-- The reference's search for the next stage. -/
def NS (f : Nat → Int) (lf : Int) (s : List Int) (ni k : Nat) (nx : Int) : Prop :=
  (nx = -1 ∧ ∀ u ∈ s.take k, ¬ f u.toNat = lf) ∨ (0 ≤ nx ∧ NX f lf (s.take k) (((ni : Nat) : Int) + nx))
section
variable {f : Nat → Int} {lf nx x : Int} {s : List Int} {ni k : Nat}
theorem NS.start : NS f lf s ni 0 (-1) := .inl ⟨rfl, fun u hu => by simp at hu⟩
theorem NS.hit (h : NS f lf s ni k nx) (hx : s[k]? = some x) (hf : f x.toNat = lf) (h0 : ((ni : Nat) : Int) ≤ x) (hc : nx < 0 ∨ x - ((ni : Nat) : Int) < nx) : NS f lf s ni (k + 1) (x - ((ni : Nat) : Int)) := by
  refine .inr ⟨by omega, ?_⟩
  rw [take_succ_at hx, show ((ni : Nat) : Int) + (x - ((ni : Nat) : Int)) = x by omega]
  refine ⟨by simp, hf, fun m hm hfm => ?_⟩
  rcases List.mem_append.1 hm with hm | hm
  · rcases h with ⟨_, h2⟩ | ⟨h1, h2⟩
    · exact absurd hfm (h2 m hm)
    · have := h2.2.2 m hm hfm; omega
  · rw [List.mem_singleton.1 hm]; exact Int.le_refl _
theorem NS.miss (h : NS f lf s ni k nx) (hx : s[k]? = some x) (hf : ¬ f x.toNat = lf) : NS f lf s ni (k + 1) nx := by
  rcases h with ⟨h1, h2⟩ | ⟨h1, h2⟩
  · refine .inl ⟨h1, fun u hu => ?_⟩
    rw [take_succ_at hx] at hu
    rcases List.mem_append.1 hu with hu | hu
    · exact h2 u hu
    · rw [List.mem_singleton.1 hu]; exact hf
  · refine .inr ⟨h1, ?_⟩
    rw [take_succ_at hx]
    refine ⟨List.mem_append_left _ h2.1, h2.2.1, fun m hm hfm => ?_⟩
    rcases List.mem_append.1 hm with hm | hm
    · exact h2.2.2 m hm hfm
    · rw [List.mem_singleton.1 hm] at hfm; exact absurd hfm hf
theorem NS.more (h : NS f lf s ni k nx) (hx : s[k]? = some x) (hc : ¬ (nx < 0 ∨ x - ((ni : Nat) : Int) < nx)) : NS f lf s ni (k + 1) nx := by
  rcases h with ⟨h1, h2⟩ | ⟨h1, h2⟩
  · omega
  · refine .inr ⟨h1, ?_⟩
    rw [take_succ_at hx]
    refine ⟨List.mem_append_left _ h2.1, h2.2.1, fun m hm hfm => ?_⟩
    rcases List.mem_append.1 hm with hm | hm
    · exact h2.2.2 m hm hfm
    · rw [List.mem_singleton.1 hm]; omega
theorem NS.fin (h : NS f lf s ni k nx) (hk : s.length ≤ k) (he : ∃ c ∈ s, 0 ≤ c ∧ f c.toNat = lf) : 0 ≤ nx ∧ NX f lf s (((ni : Nat) : Int) + nx) := by
  unfold NS at h
  rw [List.take_of_length_le hk] at h
  rcases h with ⟨_, h2⟩ | h
  · obtain ⟨c, h3, _, h4⟩ := he
    exact absurd h4 (h2 c h3)
  · exact h
end
/-- What the reference's steps say of a source. -/
theorem st_src {ni first : Nat} {D : List (List Int)} {x v lf : Int} (hR : RngG ni D) (hN : ni + D.length ≤ 16) (ht : first < D.length) (hx : ((ni : Nat) : Int) ≤ x) (hr : x < ((ni + D.length : Nat) : Int)) (hv : (stG ni first D D.length)[(x - ((ni : Nat) : Int)).toNat]? = some v) (h1 : 1 ≤ lf) (h2 : lf < 1000) : fwG (edgG ni D) 16 x.toNat (ni + first) = lf ↔ v = lf := by
  have hd : (stG ni first D D.length).getD (x - ((ni : Nat) : Int)).toNat 0 = v := by rw [List.getD_eq_getElem?_getD, hv]; rfl
  have hs := st_val hR hN ht (i := (x - ((ni : Nat) : Int)).toNat) (by omega)
  rw [hd, show ni + (x - ((ni : Nat) : Int)).toNat = x.toNat by omega] at hs
  omega
theorem st_inp {ni first : Nat} {D : List (List Int)} {x lf : Int} (hx : ¬ ((ni : Nat) : Int) ≤ x) (h0 : 0 ≤ x) (h2 : lf < 1000) : ¬ fwG (edgG ni D) 16 x.toNat (ni + first) = lf := by
  rw [fw_input (.inl (by omega))]; omega
theorem r17_steps (p : Job) (t : Int) (hp : Job.Ok [H] p) (hb : p.inputs.n + p.stages.n ≤ 16) (hsr : ∀ z ∈ p.stages.l, ∀ x ∈ srcs z.v, 0 ≤ x ∧ x < ((p.inputs.n + p.stages.n : Nat) : Int)) (ht : 0 ≤ t ∧ t < ((p.stages.n : Nat) : Int)) (hS : Sat W w (H :: F)) :
  Calls Tryz.prog 66 #[.agg (encJob p).toArray, I t] w fun e w' => ∃ (az : Option Addr) (nz kz : Nat) (G : Chunk), e = .returned (.slice az nz kz) ∧ OwnT encI 3 1 az nz kz (stG p.inputs.n (t).toNat ((p.stages.l.map Stage.v).map srcs) ((p.stages.l.map Stage.v).map srcs).length) G ∧ Sat W w' (G :: H :: F) := by
 have hl_p_inputs := hp.inputs.le; have hn_p_inputs := hp.inputs.len
 have hl_p_stages := hp.stages.le; have hn_p_stages := hp.stages.len
 have hl_p_outputs := hp.outputs.le; have hn_p_outputs := hp.outputs.len
 have hmi : (p.inputs.l.map Plane.v).length = p.inputs.n := by simp [hn_p_inputs]
 have hms : (p.stages.l.map Stage.v).length = p.stages.n := by simp [hn_p_stages]
 have hDl : ((p.stages.l.map Stage.v).map srcs).length = p.stages.n := by rw [List.length_map, hms]
 refine callsA 84 Tryz.func66 rfl ?_
 refine sR ?_
 refine sBox hS (.agg (encJob p).toArray) (encJob p).toArray ?_
 intro h0 _ p0
 refine pu1 <| nT <| sR <| pu1 ?_
 refine sL p0 0 1 (.slice p.stages.a p.stages.n p.stages.k) (Tryz.isAgg26 _) ?_
 refine pu1 ?_
 refine sMake (kl := .i64) (kc := .i64) (enc := encI) (sz := 1) (nb := 8) p0 0 p.stages.n ((p.stages.n : Nat) : Int) (rfl : ((p.stages.n : Nat) : Int) = ((p.stages.n : Nat) : Int)) Tryz.underlying22 (i := Tryz.t3) kr fR ?_
 intro x0 y0 _ z0 a1
 refine pu1 <| nT <| seqE <| sR <| pu1 <| nT <| blockE ?_
 refine loopA (γ := Nat × (List Int) × (Option Addr) × Nat × Nat × Chunk) (fun ⟨L, us, aus, nus, kus, cus⟩ => [(1, I t), (2, Pt h0 0), (6, I ((L : Nat) : Int)), (5, .slice aus nus kus)]) (fun ⟨L, us, aus, nus, kus, cus⟩ w => Sat W w (cus :: [(h0, .cells (encJob p).toArray 28 (0, 0))] :: H :: F) ∧ L ≤ p.stages.n + 1 ∧ (1 ≤ L) ∧ (us = stG p.inputs.n t.toNat ((p.stages.l.map Stage.v).map srcs) (L - 1)) ∧ OwnT encI 3 1 aus nus kus us cus) (fun ⟨L, us, aus, nus, kus, cus⟩ => (p.stages.n + 1) - L) (1, (List.replicate p.stages.n 0), (At x0 0), p.stages.n, p.stages.n, y0) ⟨a1, om, om, by show _ = List.replicate _ 0; rw [hDl], z0⟩ ?_
 rintro ⟨L, us, aus, nus, kus, cus⟩ ρ _ ⟨l0, hL, hL1, hA, hOus⟩
 have hn_us := hOus.len; have hl_us := hOus.le
 have hul := st_len (ni := p.inputs.n) (t := t.toNat) (D := ((p.stages.l.map Stage.v).map srcs)) (L := L - 1); rw [← hA, hDl] at hul
 refine seqE <| sR <| pu2 ?_
 refine sL l0 1 1 (.slice p.stages.a p.stages.n p.stages.k) (Tryz.isAgg26 _) ?_
 refine pu2 <| nT ?_
 refine cD (((L : Nat) : Int) ≤ ((p.stages.n : Nat) : Int)) (fun b1 => ?_) (fun b1 => ?_)
 rotate_left
 ·refine exitE <| xB <| thenK_n <| sR <| pu2 <| nT <| retE <| retT [.slice aus nus kus] ?_
  have c1 := (l0.dropAt 1 rfl)
  have hl : us = stG p.inputs.n (t).toNat ((p.stages.l.map Stage.v).map srcs) ((p.stages.l.map Stage.v).map srcs).length := (by rw [hA, hDl, show L - 1 = p.stages.n by omega])
  have hrd := hOus
  rw [hl] at hrd
  exact ⟨_, _, _, _, rfl, hrd, c1⟩
 refine kT <| seqE <| blockE <| sR <| pu1 <| nT <| blockE ?_
 refine loopA (γ := Nat × (List Int) × (Option Addr) × Nat × Nat × Chunk) (fun ⟨i, vs, avs, nvs, kvs, cvs⟩ => [(1, I t), (2, Pt h0 0), (6, I ((L : Nat) : Int)), (7, I ((i : Nat) : Int)), (5, .slice avs nvs kvs)]) (fun ⟨i, vs, avs, nvs, kvs, cvs⟩ w => Sat W w (cvs :: [(h0, .cells (encJob p).toArray 28 (0, 0))] :: H :: F) ∧ i ≤ p.stages.n ∧ (PS p.inputs.n t.toNat ((p.stages.l.map Stage.v).map srcs) L i vs) ∧ OwnT encI 3 1 avs nvs kvs vs cvs) (fun ⟨i, vs, avs, nvs, kvs, cvs⟩ => p.stages.n - i) (0, us, aus, nus, kus, cus) ⟨l0, om, (PS.start hA), hOus⟩ ?_
 rintro ⟨i, vs, avs, nvs, kvs, cvs⟩ ρ _ ⟨k0, hi, hB, hOvs⟩
 have hn_vs := hOvs.len; have hl_vs := hOvs.le
 have hvl := hB.1; rw [hDl] at hvl
 refine seqE <| sR <| pu4 <| nT ?_
 refine cD (((i : Nat) : Int) < ((nvs : Nat) : Int)) (fun d1 => ?_) (fun d1 => ?_)
 rotate_left
 ·refine exitE <| xB <| blockK_n <| thenK_n <| regionE <| pu1 ?_
  refine sAdd ((L : Nat) : Int) 1 ?_
  refine pu1 <| nT ?_
  exact ⟨(L + 1, vs, avs, nvs, kvs, cvs), od, alA, k0, om, om, by rw [show L + 1 - 1 = L by omega]; exact hB.fin om hL1, hOvs⟩
 refine kT <| seqE <| blockE <| sR <| pu1 ?_
 refine sL k0 1 1 (.slice p.stages.a p.stages.n p.stages.k) (Tryz.isAgg26 _) ?_
 refine pu1 ?_
 refine sIdx hp.stages ((i : Nat) : Int) Tryz.runUnderlying26 Tryz.sizeOf44 ?_
 intro d0 _ _ c0 e1
 rw [Int.toNat_natCast] at c0
 refine sLpA k0 (e1.up 2 rfl) 0 (encStage d0) (Tryz.isAgg44 _) (Tryz.sizeOf44 _) ?_
 refine cX Tryz.call10 (r15_sources d0 ⟨(RdT.flat ((hp.stagesD d0 (List.mem_of_getElem? c0)).weights.up 2 (by rfl))), (RdT.flat ((hp.stagesD d0 (List.mem_of_getElem? c0)).row.up 2 (by rfl))), (RdT.flat ((hp.stagesD d0 (List.mem_of_getElem? c0)).col.up 2 (by rfl))), (RdT.flat ((hp.stagesD d0 (List.mem_of_getElem? c0)).x.up 2 (by rfl))), (fun z hz => ((hp.stagesD d0 (List.mem_of_getElem? c0)).xD z hz).of_mem (mem_flat1 2 (by rfl))), (RdT.flat ((hp.stagesD d0 (List.mem_of_getElem? c0)).y.up 2 (by rfl))), (fun z hz => ((hp.stagesD d0 (List.mem_of_getElem? c0)).yD z hz).of_mem (mem_flat1 2 (by rfl))), (RdT.flat ((hp.stagesD d0 (List.mem_of_getElem? c0)).ops.up 2 (by rfl)))⟩ (Sat.flat k0)) ?_
 rintro _ _ ⟨q0, j0, r0, f1, rfl, m0, g1⟩
 have i1 := Sat.unflat1 g1
 have hn_az_23 := m0.len; have hl_az_23 := m0.le
 have z2 : 1 ≤ (srcs d0.v).length ∧ (srcs d0.v).length ≤ 2 := srcs_len _
 refine pu1 <| nT <| sR <| pu1 <| nT <| blockE ?_
 have j1 := (i1.pick 1 rfl)
 refine loopA (γ := Nat × (List Int) × (Option Addr) × Nat × Nat × Chunk) (fun ⟨k, ws, aws, nws, kws, cws⟩ => [(1, I t), (2, Pt h0 0), (6, I ((L : Nat) : Int)), (7, I ((i : Nat) : Int)), (8, .slice q0 j0 r0), (9, I ((k : Nat) : Int)), (5, .slice aws nws kws)]) (fun ⟨k, ws, aws, nws, kws, cws⟩ w => Sat W w (cws :: f1 :: [(h0, .cells (encJob p).toArray 28 (0, 0))] :: H :: F) ∧ k ≤ j0 ∧ (QS p.inputs.n t.toNat ((p.stages.l.map Stage.v).map srcs) L i k (srcs d0.v) ws) ∧ OwnT encI 3 1 aws nws kws ws cws) (fun ⟨k, ws, aws, nws, kws, cws⟩ => j0 - k) (0, vs, avs, nvs, kvs, cvs) ⟨j1, om, (QS.start hB), hOvs⟩ ?_
 rintro ⟨k, ws, aws, nws, kws, cws⟩ ρ _ ⟨i0, hk, hC, hOws⟩
 have hn_ws := hOws.len; have hl_ws := hOws.le
 have hwl := hC.len; rw [hDl] at hwl
 refine seqE <| sR <| pu5 ?_
 refine sD 38 (((k : Nat) : Int) < ((j0 : Nat) : Int)) (fun k1 => ?_) (fun k1 => ?_)
 rotate_left
 ·refine pu6 <| nT <| cFf <| exitE <| xB <| blockK_n <| thenK_n <| regionE <| pu1 ?_
  refine sAdd ((i : Nat) : Int) 1 ?_
  refine pu1 <| nT ?_
  have l1 := (i0.dropAt 1 rfl)
  exact ⟨(i + 1, ws, aws, nws, kws, cws), od, alA, l1, om, (hC.fin (map_at (f := srcs) (map_at (f := Stage.v) c0)) om), hOws⟩
 refine pu2 <| gY ?_
 refine sIdxO hOws ((i : Nat) : Int) i Tryz.runUnderlying22 Tryz.sizeOf3 ?_
 intro b0 _ _ e0 m1 _
 refine gY ?_
 refine sLp i0 (m1.up 0 rfl) 0 (I b0) (Tryz.isAgg3 _) ?_
 refine pu2 <| nT ?_
 refine cE b0 0 (fun n1 => ?_) (fun n1 => ?_)
 rotate_left
 ·refine exitE <| xB <| blockK_n <| thenK_n <| regionE <| pu1 ?_
  refine sAdd ((i : Nat) : Int) 1 ?_
  refine pu1 <| nT ?_
  have hgi : ws.getD i 0 = b0 := by rw [List.getD_eq_getElem?_getD, e0]; rfl
  have o1 := (i0.dropAt 1 rfl)
  exact ⟨(i + 1, ws, aws, nws, kws, cws), od, alA, o1, om, (hC.fin (map_at (f := srcs) (map_at (f := Stage.v) c0)) om), hOws⟩
 refine kT <| seqE <| blockE <| seqE ?_
 obtain ⟨a0, s0, t0, f0, p1, q1⟩ := RdT.elem m0 ((k : Nat) : Int)
 rw [Int.toNat_natCast] at f0
 have hsx_x_40 := hsr d0 (List.mem_of_getElem? c0) a0 (List.mem_of_getElem? f0)
 refine drawE [] [(3, ⟨s0, t0, none⟩, I a0), (5, ⟨h0, 0, none⟩, .slice p.inputs.a p.inputs.n p.inputs.k)] [(true, [0, 1]), (true, [2]), (true, [4]), (true, [3]), (true, [5]), (true, [6]), (true, [7]), (true, [8])] rfl kr ⟨.inr ((p1.up 1 rfl).cell i0 (k := 0) rfl), .inr (i0.cell 2 rfl rfl), trivial⟩ ?_
 have g0 := i0.drew
 refine wU [0, 1] ?_
 refine wY (.pointer (some ⟨s0, t0, none⟩)) rfl (fun w _ => Y_idx (a := q0) (i := ((k : Nat) : Int)) (len := j0) (cap := r0) rfl Tryz.runUnderlying22 Tryz.sizeOf3 kr kr q1) ?_
 refine wU [4] ?_
 refine wLd (I a0) 0 Tryz.isAgg3 ?_
 refine wLd (.slice p.inputs.a p.inputs.n p.inputs.k) 1 Tryz.isAgg25 ?_
 refine wU [6] ?_
 refine wSub a0 ((p.inputs.n : Nat) : Int) ?_
 refine wU [8] ?_
 refine wN ?_
 refine thenK_n <| sR <| pu3 ?_
 refine sD 57 ((a0 - ((p.inputs.n : Nat) : Int)) ≥ 0) (fun r1 => ?_) (fun r1 => ?_)
 rotate_left
 ·refine pu16 <| pu5 <| nT <| cFf <| skipE <| blockK_n <| thenK_n <| regionE <| pu1 ?_
  refine sAdd ((k : Nat) : Int) 1 ?_
  refine pu1 <| nT ?_
  have hz0 : ws[i]? = some 0 := by rw [e0, show b0 = (0 : Int) by omega]
  have hpp : ¬ hitP p.inputs.n t.toNat ((L : Nat) : Int) ws a0 := fun h => by obtain ⟨h1, h2⟩ := h; omega
  exact ⟨(k + 1, ws, aws, nws, kws, cws), od, alA, g0, om, (hC.miss hz0 f0 hL1 om hpp), hOws⟩
 refine pu3 ?_
 refine sE 60 ((L : Nat) : Int) 1 (fun s1 => ?_) (fun s1 => ?_)
 rotate_left
 ·refine pu8 ?_
  refine sD 68 (((L : Nat) : Int) > 1) (fun t1 => ?_) (fun t1 => ?_)
  rotate_left
  ·refine pu10 <| nT <| cFf <| skipE <| blockK_n <| thenK_n <| regionE <| pu1 ?_
   refine sAdd ((k : Nat) : Int) 1 ?_
   refine pu1 <| nT ?_
   have hz0 : ws[i]? = some 0 := by rw [e0, show b0 = (0 : Int) by omega]
   have hpp : ¬ hitP p.inputs.n t.toNat ((L : Nat) : Int) ws a0 := fun h => by obtain ⟨h1, h2⟩ := h; omega
   exact ⟨(k + 1, ws, aws, nws, kws, cws), od, alA, g0, om, (hC.miss hz0 f0 hL1 om hpp), hOws⟩
  refine pu2 <| gY ?_
  refine sIdxO hOws (a0 - ((p.inputs.n : Nat) : Int)) ((a0 - ((p.inputs.n : Nat) : Int))).toNat Tryz.runUnderlying22 Tryz.sizeOf3 ?_
  intro n0 _ _ u1 v1 _
  have hgd : ws.getD ((a0 - ((p.inputs.n : Nat) : Int))).toNat 0 = n0 := by rw [List.getD_eq_getElem?_getD, u1]; rfl
  refine gY ?_
  refine sLp g0 (v1.up 0 rfl) 0 (I n0) (Tryz.isAgg3 _) ?_
  refine pu1 <| gY ?_
  refine sSub ((L : Nat) : Int) 1 ?_
  refine pu4 <| nT ?_
  refine cE n0 (((L : Nat) : Int) - 1) (fun w1 => ?_) (fun w1 => ?_)
  rotate_left
  ·refine skipE <| blockK_n <| thenK_n <| regionE <| pu1 ?_
   refine sAdd ((k : Nat) : Int) 1 ?_
   refine pu1 <| nT ?_
   have hz0 : ws[i]? = some 0 := by rw [e0, show b0 = (0 : Int) by omega]
   have hpp : ¬ hitP p.inputs.n t.toNat ((L : Nat) : Int) ws a0 := fun h => by obtain ⟨h1, h2⟩ := h; omega
   exact ⟨(k + 1, ws, aws, nws, kws, cws), od, alA, g0, om, (hC.miss hz0 f0 hL1 om hpp), hOws⟩
  refine regionE <| pu3 ?_
  refine sIdxO hOws ((i : Nat) : Int) i Tryz.runUnderlying22 Tryz.sizeOf3 ?_
  intro x1 _ _ u0 _ y1
  obtain rfl : b0 = x1 := Option.some.inj (e0.symm.trans u0)
  refine sStF g0 hOws y1 0 i 0 b0 ((L : Nat) : Int) u0 (I ((L : Nat) : Int)) [I ((L : Nat) : Int)] Tryz.sizeOf3 ?_
  intro _ z1 a2 b2
  refine nB <| regionE <| pu1 ?_
  refine sAdd ((k : Nat) : Int) 1 ?_
  refine pu1 <| nT ?_
  have hz0 : ws[i]? = some 0 := by rw [e0, show b0 = (0 : Int) by omega]
  have hpp : hitP p.inputs.n t.toNat ((L : Nat) : Int) ws a0 := ⟨om, om⟩
  exact ⟨(k + 1, (ws.set i ((L : Nat) : Int)), aws, nws, kws, z1), od, alA, b2, om, (hC.hit (map_at (f := srcs) (map_at (f := Stage.v) c0)) hz0 f0 hL1 om hpp), a2⟩
 refine pu5 ?_
 refine sE 65 (a0 - ((p.inputs.n : Nat) : Int)) t (fun c2 => ?_) (fun c2 => ?_)
 ·refine pu13 <| nT <| cTt <| regionE <| pu3 ?_
  refine sIdxO hOws ((i : Nat) : Int) i Tryz.runUnderlying22 Tryz.sizeOf3 ?_
  intro d2 _ _ v0 _ e2
  obtain rfl : b0 = d2 := Option.some.inj (e0.symm.trans v0)
  refine sStF g0 hOws e2 0 i 0 b0 ((L : Nat) : Int) v0 (I ((L : Nat) : Int)) [I ((L : Nat) : Int)] Tryz.sizeOf3 ?_
  intro _ f2 g2 i2
  refine nB <| regionE <| pu1 ?_
  refine sAdd ((k : Nat) : Int) 1 ?_
  refine pu1 <| nT ?_
  have hz0 : ws[i]? = some 0 := by rw [e0, show b0 = (0 : Int) by omega]
  have hpp : hitP p.inputs.n t.toNat ((L : Nat) : Int) ws a0 := ⟨om, om⟩
  exact ⟨(k + 1, (ws.set i ((L : Nat) : Int)), aws, nws, kws, f2), od, alA, i2, om, (hC.hit (map_at (f := srcs) (map_at (f := Stage.v) c0)) hz0 f0 hL1 om hpp), g2⟩
 refine pu3 ?_
 refine sD 68 (((L : Nat) : Int) > 1) (fun j2 => ?_) (fun j2 => ?_)
 rotate_left
 ·refine pu10 <| nT <| cFf <| skipE <| blockK_n <| thenK_n <| regionE <| pu1 ?_
  refine sAdd ((k : Nat) : Int) 1 ?_
  refine pu1 <| nT ?_
  have hz0 : ws[i]? = some 0 := by rw [e0, show b0 = (0 : Int) by omega]
  have hpp : ¬ hitP p.inputs.n t.toNat ((L : Nat) : Int) ws a0 := fun h => by obtain ⟨h1, h2⟩ := h; omega
  exact ⟨(k + 1, ws, aws, nws, kws, cws), od, alA, g0, om, (hC.miss hz0 f0 hL1 om hpp), hOws⟩
 refine pu2 <| gY ?_
 refine sIdxO hOws (a0 - ((p.inputs.n : Nat) : Int)) ((a0 - ((p.inputs.n : Nat) : Int))).toNat Tryz.runUnderlying22 Tryz.sizeOf3 ?_
 intro o0 _ _ k2 l2 _
 have hgd : ws.getD ((a0 - ((p.inputs.n : Nat) : Int))).toNat 0 = o0 := by rw [List.getD_eq_getElem?_getD, k2]; rfl
 refine gY ?_
 refine sLp g0 (l2.up 0 rfl) 0 (I o0) (Tryz.isAgg3 _) ?_
 refine pu1 <| gY ?_
 refine sSub ((L : Nat) : Int) 1 ?_
 refine pu4 <| nT ?_
 refine cE o0 (((L : Nat) : Int) - 1) (fun m2 => ?_) (fun m2 => ?_)
 rotate_left
 ·refine skipE <| blockK_n <| thenK_n <| regionE <| pu1 ?_
  refine sAdd ((k : Nat) : Int) 1 ?_
  refine pu1 <| nT ?_
  have hz0 : ws[i]? = some 0 := by rw [e0, show b0 = (0 : Int) by omega]
  have hpp : ¬ hitP p.inputs.n t.toNat ((L : Nat) : Int) ws a0 := fun h => by obtain ⟨h1, h2⟩ := h; omega
  exact ⟨(k + 1, ws, aws, nws, kws, cws), od, alA, g0, om, (hC.miss hz0 f0 hL1 om hpp), hOws⟩
 refine regionE <| pu3 ?_
 refine sIdxO hOws ((i : Nat) : Int) i Tryz.runUnderlying22 Tryz.sizeOf3 ?_
 intro n2 _ _ w0 _ o2
 obtain rfl : b0 = n2 := Option.some.inj (e0.symm.trans w0)
 refine sStF g0 hOws o2 0 i 0 b0 ((L : Nat) : Int) w0 (I ((L : Nat) : Int)) [I ((L : Nat) : Int)] Tryz.sizeOf3 ?_
 intro _ p2 q2 r2
 refine nB <| regionE <| pu1 ?_
 refine sAdd ((k : Nat) : Int) 1 ?_
 refine pu1 <| nT ?_
 have hz0 : ws[i]? = some 0 := by rw [e0, show b0 = (0 : Int) by omega]
 have hpp : hitP p.inputs.n t.toNat ((L : Nat) : Int) ws a0 := ⟨om, om⟩
 exact ⟨(k + 1, (ws.set i ((L : Nat) : Int)), aws, nws, kws, p2), od, alA, r2, om, (hC.hit (map_at (f := srcs) (map_at (f := Stage.v) c0)) hz0 f0 hL1 om hpp), q2⟩
theorem r17_cycle (p : Job) (hp : Job.Ok [H] p) (hb : p.inputs.n ≤ 1000000 ∧ p.stages.n ≤ 1000000 ∧ p.outputs.n ≤ 1000000) (hS : Sat W w (H :: F)) :
  Calls Tryz.prog 43 #[.agg (encJob p).toArray] w fun e w' => ∃ (az : Option Addr) (nz kz : Nat) (G : Chunk), e = .returned (.slice az nz kz) ∧ OwnT encI 3 1 az nz kz (cycV p.v) G ∧ Sat W w' (G :: H :: F) := by
 have hl_p_inputs := hp.inputs.le; have hn_p_inputs := hp.inputs.len
 have hl_p_stages := hp.stages.le; have hn_p_stages := hp.stages.len
 have hl_p_outputs := hp.outputs.le; have hn_p_outputs := hp.outputs.len
 have hmi : (p.inputs.l.map Plane.v).length = p.inputs.n := by simp [hn_p_inputs]
 have hms : (p.stages.l.map Stage.v).length = p.stages.n := by simp [hn_p_stages]
 refine callsA 118 Tryz.func43 rfl ?_
 refine sR ?_
 refine sBox hS (.agg (encJob p).toArray) (encJob p).toArray ?_
 intro d0 _ t0
 refine pu1 <| nT <| seqE <| sR ?_
 refine lA t0 0 0 4 (Tryz.isAgg28 _) (Tryz.sizeOf28 _) ?_
 refine cX Tryz.call39 (r17_order p ⟨(RdT.flat (hp.inputs.up 1 (by rfl))), (fun z hz => (hp.inputsD z hz).of_mem (mem_flat1 1 (by rfl))), (RdT.flat (hp.stages.up 1 (by rfl))), (fun z hz => (hp.stagesD z hz).of_mem (mem_flat1 1 (by rfl))), (RdT.flat (hp.outputs.up 1 (by rfl)))⟩ (od) (Sat.flat t0)) ?_
 rintro _ _ ⟨_, _, _, o0, rfl, u0, g1⟩
 have v0 := Sat.unflat1 g1
 have hn_az_7 := u0.len; have hl_az_7 := u0.le
 refine pu5 <| nT <| sR <| pu2 <| nT ?_
 refine cN ((ordV p.v).2) 7 (fun h1 => ?_) (fun h1 => ?_)
 rotate_left
 ·refine seqE ?_
  have hk : cycV p.v = [] := by unfold cycV; rw [if_neg om]
  refine regionE <| pu1 <| nT <| retE <| thenK_r <| retT [.slice none 0 0] ?_
  have i1 := (v0.drops [0, 0])
  have j1 : Sat W _ ([] :: H :: F) := Sat.nilc i1
  have hl : ([] : List Int) = cycV p.v := (by rw [hk])
  have hrd := OwnT.nil (enc := encI) (E := 3) (sz := 1) fR
  rw [hl] at hrd
  exact ⟨_, _, _, _, rfl, hrd, j1⟩
 refine kT <| seqE ?_
 have ho7 : (ordV p.v).2 = 7 := by omega
 have hch := ord7_chk ho7; have hlb := chk_len hch; have hlb2 : p.inputs.n + p.stages.n ≤ 16 := (by have h := hlb; simp only [Job.v] at h; omega)
 have hsr : ∀ z ∈ p.stages.l, ∀ x ∈ srcs z.v, 0 ≤ x ∧ x < ((p.inputs.n + p.stages.n : Nat) : Int) := fun z hz x hx => by have h := chk_srcs hch (s := z.v) (List.mem_map_of_mem hz) x hx; simp only [Job.v] at h; omega
 have hR : RngG p.inputs.n ((p.stages.l.map Stage.v).map srcs) := by have h := chk_rng hch; rw [show p.v.inputs.length = p.inputs.n from hmi] at h; exact h
 have hDl : ((p.stages.l.map Stage.v).map srcs).length = p.stages.n := by rw [List.length_map, hms]
 have hN16 : p.inputs.n + ((p.stages.l.map Stage.v).map srcs).length ≤ 16 := by omega
 have hk0 : cycV p.v = cycG p.inputs.n ((p.stages.l.map Stage.v).map srcs) := by unfold cycV; rw [if_pos ho7, show p.v.inputs.length = p.inputs.n from hmi]; rfl
 refine regionE <| pu2 <| nT <| seqE <| sR <| pu1 <| nT <| blockE ?_
 refine loopA (γ := Nat × Int × Int) (fun ⟨i, fi, be⟩ => [(1, Pt d0 0), (7, I ((i : Nat) : Int)), (6, I fi), (5, I be)]) (fun ⟨i, fi, be⟩ w => Sat W w (o0 :: [(d0, .cells (encJob p).toArray 28 (0, 0))] :: H :: F) ∧ i ≤ p.stages.n ∧ (RB p.inputs.n ((p.stages.l.map Stage.v).map srcs) i fi be)) (fun ⟨i, fi, be⟩ => p.stages.n - i) (0, -1, 0) ⟨v0, om, RB.start⟩ ?_
 rintro ⟨i, fi, be⟩ ρ _ ⟨f0, hi, hRB⟩
 refine seqE <| sR <| pu2 ?_
 refine sL f0 1 1 (.slice p.stages.a p.stages.n p.stages.k) (Tryz.isAgg26 _) ?_
 refine pu2 <| nT ?_
 refine cD (((i : Nat) : Int) < ((p.stages.n : Nat) : Int)) (fun k1 => ?_) (fun k1 => ?_)
 ·refine kT <| seqE <| blockE <| sR ?_
  refine lA f0 1 0 4 (Tryz.isAgg28 _) (Tryz.sizeOf28 _) ?_
  refine pu1 ?_
  refine cX Tryz.call66 (r17_steps p ((i : Nat) : Int) ⟨(RdT.flat (hp.inputs.up 2 (by rfl))), (fun z hz => (hp.inputsD z hz).of_mem (mem_flat1 2 (by rfl))), (RdT.flat (hp.stages.up 2 (by rfl))), (fun z hz => (hp.stagesD z hz).of_mem (mem_flat1 2 (by rfl))), (RdT.flat (hp.outputs.up 2 (by rfl)))⟩ hlb2 hsr om (Sat.flat f0)) ?_
  rintro _ _ ⟨_, _, _, _, rfl, p0, l1⟩
  have h0 := Sat.unflat1 l1
  have hn_az_19 := p0.len; have hl_az_19 := p0.le
  have g3 : (stG p.inputs.n (((i : Nat) : Int)).toNat ((p.stages.l.map Stage.v).map srcs) ((p.stages.l.map Stage.v).map srcs).length).length = p.stages.n := (by rw [st_len]; exact hDl)
  refine pu1 ?_
  refine sIdxO p0 ((i : Nat) : Int) i Tryz.runUnderlying22 Tryz.sizeOf3 ?_
  intro i0 _ _ l0 m1 _
  refine sLp h0 (m1.up 0 rfl) 0 (I i0) (Tryz.isAgg3 _) ?_
  refine pu1 <| nT <| sR <| pu3 ?_
  refine sD 39 (i0 > 0) (fun n1 => ?_) (fun n1 => ?_)
  rotate_left
  ·refine pu8 <| nT <| cFf <| skipE <| blockK_n <| thenK_n <| regionE <| pu1 ?_
   refine sAdd ((i : Nat) : Int) 1 ?_
   refine pu1 <| nT ?_
   have o1 := (h0.dropAt 0 rfl)
   exact ⟨(i + 1, fi, be), od, alA, o1, om, (hRB.skip hR hN16 om l0 om)⟩
  refine pu3 ?_
  refine sD 42 (fi < 0) (fun p1 => ?_) (fun p1 => ?_)
  ·refine pu5 <| nT <| cTt <| regionE <| pu4 <| nB <| regionE <| pu1 ?_
   refine sAdd ((i : Nat) : Int) 1 ?_
   refine pu1 <| nT ?_
   have q1 := (h0.dropAt 0 rfl)
   exact ⟨(i + 1, ((i : Nat) : Int), i0), od, alA, q1, om, (hRB.take hR hN16 om l0 om om)⟩
  refine pu5 <| nT ?_
  refine cD (i0 < be) (fun r1 => ?_) (fun r1 => ?_)
  rotate_left
  ·refine skipE <| blockK_n <| thenK_n <| regionE <| pu1 ?_
   refine sAdd ((i : Nat) : Int) 1 ?_
   refine pu1 <| nT ?_
   have s1 := (h0.dropAt 0 rfl)
   exact ⟨(i + 1, fi, be), od, alA, s1, om, (hRB.skip hR hN16 om l0 om)⟩
  refine regionE <| pu4 <| nB <| regionE <| pu1 ?_
  refine sAdd ((i : Nat) : Int) 1 ?_
  refine pu1 <| nT ?_
  have t1 := (h0.dropAt 0 rfl)
  exact ⟨(i + 1, ((i : Nat) : Int), i0), od, alA, t1, om, (hRB.take hR hN16 om l0 om om)⟩
 refine exitE <| xB <| thenK_n <| seqE <| seqE ?_
 have hrf := hRB.fin om hN16
 refine regionE <| pu2 <| nT ?_
 refine cD (fi < 0) (fun u1 => ?_) (fun u1 => ?_)
 ·refine seqE ?_
  have hk : cycV p.v = [] := by rw [hk0]; exact cyc_none (hrf.resolve_right om).2 om
  refine regionE <| pu1 <| nT <| retE <| thenK_r <| retT [.slice none 0 0] ?_
  have v1 := (f0.drops [0, 0])
  have w1 : Sat W _ ([] :: H :: F) := Sat.nilc v1
  have hl : ([] : List Int) = cycV p.v := (by rw [hk])
  have hrd := OwnT.nil (enc := encI) (E := 3) (sz := 1) fR
  rw [hl] at hrd
  exact ⟨_, _, _, _, rfl, hrd, w1⟩
 refine kT <| seqE ?_
 have hrg := hrf.resolve_left om
 obtain ⟨hw0, _, _, _, _⟩ := WF.start hrg.2.2.2.2 om
 have hrt : (((p.inputs.n : Nat) : Int) + fi).toNat = p.inputs.n + fi.toNat := by omega
 rw [hrt] at hw0
 refine regionE ?_
 refine lA f0 1 0 4 (Tryz.isAgg28 _) (Tryz.sizeOf28 _) ?_
 refine pu1 ?_
 refine cX Tryz.call66 (r17_steps p fi ⟨(RdT.flat (hp.inputs.up 2 (by rfl))), (fun z hz => (hp.inputsD z hz).of_mem (mem_flat1 2 (by rfl))), (RdT.flat (hp.stages.up 2 (by rfl))), (fun z hz => (hp.stagesD z hz).of_mem (mem_flat1 2 (by rfl))), (RdT.flat (hp.outputs.up 2 (by rfl)))⟩ hlb2 hsr om (Sat.flat f0)) ?_
 rintro _ _ ⟨w0, x0, y0, z0, rfl, q0, x1⟩
 have a1 := Sat.unflat1 x1
 have hn_az_44 := q0.len; have hl_az_44 := q0.le
 have l3 : (stG p.inputs.n (fi).toNat ((p.stages.l.map Stage.v).map srcs) ((p.stages.l.map Stage.v).map srcs).length).length = p.stages.n := (by rw [st_len]; exact hDl)
 refine pu1 <| nilO ?_
 have hdl := st_len (ni := p.inputs.n) (t := fi.toNat) (D := ((p.stages.l.map Stage.v).map srcs)) (L := ((p.stages.l.map Stage.v).map srcs).length)
 refine thenK_n <| sR <| pu1 ?_
 refine sL a1 2 0 (.slice p.inputs.a p.inputs.n p.inputs.k) (Tryz.isAgg25 _) ?_
 refine pu2 ?_
 refine sAdd ((p.inputs.n : Nat) : Int) fi ?_
 refine sBS a1 #[I (((p.inputs.n : Nat) : Int) + fi)] Tryz.runUnderlying22 Tryz.sizeOf3 Tryz.zeroValue3 ?_
 intro r0 _ y1
 refine pu1 <| nT <| sR <| pu2 <| nT <| seqE <| sR <| pu1 ?_
 refine sSub be 1 ?_
 refine pu1 <| nT <| blockE ?_
 have z1 := OwnT.blk (enc := encI) (sz := 1) (b := r0) (c := #[I (((p.inputs.n : Nat) : Int) + fi)]) (E := 3) (xs := [(((p.inputs.n : Nat) : Int) + fi)]) fR 1 rfl rfl rfl om
 refine loopA (γ := Nat × Int × Int × (List Int) × (Option Addr) × Nat × Nat × Chunk) (fun ⟨k, at_, lf, zs, azs, nzs, kzs, czs⟩ => [(1, Pt d0 0), (9, .slice w0 x0 y0), (11, I at_), (12, I lf), (10, .slice azs nzs kzs)]) (fun ⟨k, at_, lf, zs, azs, nzs, kzs, czs⟩ w => Sat W w (czs :: z0 :: o0 :: [(d0, .cells (encJob p).toArray 28 (0, 0))] :: H :: F) ∧ k ≤ (be - 1).toNat ∧ (zs.length = k + 1) ∧ (lf = be - 1 - ((k : Nat) : Int)) ∧ (WF p.inputs.n ((p.stages.l.map Stage.v).map srcs) (p.inputs.n + fi.toNat) zs (((p.inputs.n : Nat) : Int) + at_) lf) ∧ OwnT encI 3 1 azs nzs kzs zs czs) (fun ⟨k, at_, lf, zs, azs, nzs, kzs, czs⟩ => ((be - 1).toNat) - k) (0, fi, (be - 1), [(((p.inputs.n : Nat) : Int) + fi)], (At r0 0), 1, 1, [(r0, .cells #[I (((p.inputs.n : Nat) : Int) + fi)] 3 (0, 0))]) ⟨y1, om, by rfl, om, hw0, z1⟩ ?_
 rintro ⟨k, at_, lf, zs, azs, nzs, kzs, czs⟩ ρ _ ⟨m0, hk, hzk, hlf, hW, hOzs⟩
 have hn_zs := hOzs.len; have hl_zs := hOzs.le
 have hst := hW.stage; have hW1 := hW.1; rw [hDl] at hst
 refine seqE <| sR <| pu2 <| nT ?_
 refine cD (lf > 0) (fun a2 => ?_) (fun a2 => ?_)
 rotate_left
 ·refine exitE <| xB <| thenK_n <| sR <| pu2 <| nT <| retE <| retT [.slice azs nzs kzs] ?_
  have hk : cycV p.v = zs := by rw [hk0]; exact hW.fin om
  have b2 := (m0.drops [1, 1, 1])
  have hl : zs = cycV p.v := (by rw [hk])
  have hrd := hOzs
  rw [hl] at hrd
  exact ⟨_, _, _, _, rfl, hrd, b2⟩
 refine kT <| seqE <| blockE <| sR <| pu1 <| nT <| sR <| pu1 ?_
 refine sL m0 3 1 (.slice p.stages.a p.stages.n p.stages.k) (Tryz.isAgg26 _) ?_
 refine pu1 ?_
 refine sIdx hp.stages at_ Tryz.runUnderlying26 Tryz.sizeOf44 ?_
 intro a0 _ _ c0 c2
 refine sLpA m0 (c2.up 4 rfl) 0 (encStage a0) (Tryz.isAgg44 _) (Tryz.sizeOf44 _) ?_
 refine cX Tryz.call10 (r15_sources a0 ⟨(RdT.flat ((hp.stagesD a0 (List.mem_of_getElem? c0)).weights.up 4 (by rfl))), (RdT.flat ((hp.stagesD a0 (List.mem_of_getElem? c0)).row.up 4 (by rfl))), (RdT.flat ((hp.stagesD a0 (List.mem_of_getElem? c0)).col.up 4 (by rfl))), (RdT.flat ((hp.stagesD a0 (List.mem_of_getElem? c0)).x.up 4 (by rfl))), (fun z hz => ((hp.stagesD a0 (List.mem_of_getElem? c0)).xD z hz).of_mem (mem_flat1 4 (by rfl))), (RdT.flat ((hp.stagesD a0 (List.mem_of_getElem? c0)).y.up 4 (by rfl))), (fun z hz => ((hp.stagesD a0 (List.mem_of_getElem? c0)).yD z hz).of_mem (mem_flat1 4 (by rfl))), (RdT.flat ((hp.stagesD a0 (List.mem_of_getElem? c0)).ops.up 4 (by rfl)))⟩ (Sat.flat m0)) ?_
 rintro _ _ ⟨b1, j0, c1, d2, rfl, s0, e2⟩
 have f2 := Sat.unflat1 e2
 have hn_az_65 := s0.len; have hl_az_65 := s0.le
 have r3 : 1 ≤ (srcs a0.v).length ∧ (srcs a0.v).length ≤ 2 := srcs_len _
 refine pu1 <| nilO ?_
 have hsg : srcG p.inputs.n ((p.stages.l.map Stage.v).map srcs) (((p.inputs.n : Nat) : Int) + at_) = srcs a0.v := by unfold srcG; rw [show (((p.inputs.n : Nat) : Int) + at_ - ((p.inputs.n : Nat) : Int)).toNat = at_.toNat by omega, List.getD_eq_getElem?_getD, map_at (f := srcs) (map_at (f := Stage.v) c0)]; rfl
 refine thenK_n <| seqE <| sR <| pu1 <| nT <| blockE ?_
 refine loopA (γ := Nat × Int) (fun ⟨m, nx⟩ => [(1, Pt d0 0), (9, .slice w0 x0 y0), (12, I lf), (10, .slice azs nzs kzs), (14, .slice b1 j0 c1), (15, I ((m : Nat) : Int)), (13, I nx)]) (fun ⟨m, nx⟩ w => Sat W w (d2 :: czs :: z0 :: o0 :: [(d0, .cells (encJob p).toArray 28 (0, 0))] :: H :: F) ∧ m ≤ j0 ∧ (NS (fun x => fwG (edgG p.inputs.n ((p.stages.l.map Stage.v).map srcs)) 16 x (p.inputs.n + fi.toNat)) lf (srcs a0.v) p.inputs.n m nx)) (fun ⟨m, nx⟩ => j0 - m) (0, -1) ⟨f2, om, NS.start⟩ ?_
 rintro ⟨m, nx⟩ ρ _ ⟨k0, hm, hNS⟩
 refine seqE <| sR <| pu4 <| nT ?_
 refine cD (((m : Nat) : Int) < ((j0 : Nat) : Int)) (fun g2 => ?_) (fun g2 => ?_)
 rotate_left
 ·refine exitE <| xB <| thenK_n ?_
  obtain ⟨hn0, hNX⟩ := hNS.fin om (by have h := hW.ex hR hN16 om; rw [hsg] at h; exact h)
  have hnr := hsr a0 (List.mem_of_getElem? c0) _ hNX.1
  rw [← hsg] at hNX
  refine regionE <| pu2 ?_
  refine sL k0 4 0 (.slice p.inputs.a p.inputs.n p.inputs.k) (Tryz.isAgg25 _) ?_
  refine pu2 ?_
  refine sAdd ((p.inputs.n : Nat) : Int) nx ?_
  refine sBS k0 #[I (((p.inputs.n : Nat) : Int) + nx)] Tryz.runUnderlying22 Tryz.sizeOf3 Tryz.zeroValue3 ?_
  intro _ _ h2
  refine sApp (nb := 8) h2 hOzs 2 (RdT.blk (enc := encI) (sz := 1) (xs := [(((p.inputs.n : Nat) : Int) + nx)]) fR 1 0 rfl rfl rfl om) Tryz.underlying22 (i := Tryz.t3) kr fR ?_
  intro i2 j2 k2 _ l2 m2
  refine pu3 <| nB <| regionE <| pu1 ?_
  refine sSub lf 1 ?_
  refine pu1 <| nT ?_
  have n2 := (m2.drops [0, 0])
  exact ⟨(k + 1, nx, (lf - 1), (zs ++ [(((p.inputs.n : Nat) : Int) + nx)]), i2, (nzs + 1), j2, k2), od, alA, n2, om, by simp; omega, om, (hW.step om om hNX), l2⟩
 refine kT <| seqE <| blockE <| seqE ?_
 obtain ⟨b0, d1, e1, e0, o2, p2⟩ := RdT.elem s0 ((m : Nat) : Int)
 rw [Int.toNat_natCast] at e0
 have hsx_x_74 := hsr a0 (List.mem_of_getElem? c0) b0 (List.mem_of_getElem? e0)
 refine drawE [] [(3, ⟨d1, e1, none⟩, I b0), (5, ⟨d0, 0, none⟩, .slice p.inputs.a p.inputs.n p.inputs.k)] [(true, [0, 1]), (true, [2]), (true, [4]), (true, [3]), (true, [5]), (true, [6]), (true, [7]), (true, [8])] rfl kr ⟨.inr ((o2.up 0 rfl).cell k0 (k := 0) rfl), .inr (k0.cell 4 rfl rfl), trivial⟩ ?_
 have g0 := k0.drew
 refine wU [0, 1] ?_
 refine wY (.pointer (some ⟨d1, e1, none⟩)) rfl (fun w _ => Y_idx (a := b1) (i := ((m : Nat) : Int)) (len := j0) (cap := c1) rfl Tryz.runUnderlying22 Tryz.sizeOf3 kr kr p2) ?_
 refine wU [4] ?_
 refine wLd (I b0) 0 Tryz.isAgg3 ?_
 refine wLd (.slice p.inputs.a p.inputs.n p.inputs.k) 1 Tryz.isAgg25 ?_
 refine wU [6] ?_
 refine wSub b0 ((p.inputs.n : Nat) : Int) ?_
 refine wU [8] ?_
 refine wN ?_
 refine thenK_n <| sR <| pu3 ?_
 refine sD 90 ((b0 - ((p.inputs.n : Nat) : Int)) ≥ 0) (fun q2 => ?_) (fun q2 => ?_)
 rotate_left
 ·refine pu16 <| nT <| cFf <| skipE <| blockK_n <| thenK_n <| regionE <| pu1 ?_
  refine sAdd ((m : Nat) : Int) 1 ?_
  refine pu1 <| nT ?_
  exact ⟨(m + 1, nx), od, alA, g0, om, (hNS.miss e0 (st_inp om om om))⟩
 refine pu2 <| gY ?_
 refine sIdxO q0 (b0 - ((p.inputs.n : Nat) : Int)) ((b0 - ((p.inputs.n : Nat) : Int))).toNat Tryz.runUnderlying22 Tryz.sizeOf3 ?_
 intro f1 _ _ n0 r2 _
 refine gY ?_
 refine sLp g0 (r2.up 2 rfl) 0 (I f1) (Tryz.isAgg3 _) ?_
 refine pu4 ?_
 refine sE 98 f1 lf (fun s2 => ?_) (fun s2 => ?_)
 rotate_left
 ·refine pu8 <| nT <| cFf <| skipE <| blockK_n <| thenK_n <| regionE <| pu1 ?_
  refine sAdd ((m : Nat) : Int) 1 ?_
  refine pu1 <| nT ?_
  have hss := st_src (lf := lf) hR hN16 (first := fi.toNat) om (x := b0) om om n0 om om
  exact ⟨(m + 1, nx), od, alA, g0, om, (hNS.miss e0 (fun h => absurd (hss.1 h) om))⟩
 refine pu3 ?_
 refine sD 101 (nx < 0) (fun t2 => ?_) (fun t2 => ?_)
 ·refine pu5 <| nT <| cTt <| regionE <| pu2 <| nB <| regionE <| pu1 ?_
  refine sAdd ((m : Nat) : Int) 1 ?_
  refine pu1 <| nT ?_
  have hss := st_src (lf := lf) hR hN16 (first := fi.toNat) om (x := b0) om om n0 om om
  exact ⟨(m + 1, (b0 - ((p.inputs.n : Nat) : Int))), od, alA, g0, om, (hNS.hit e0 (hss.2 om) om om)⟩
 refine pu5 <| nT ?_
 refine cD ((b0 - ((p.inputs.n : Nat) : Int)) < nx) (fun u2 => ?_) (fun u2 => ?_)
 rotate_left
 ·refine skipE <| blockK_n <| thenK_n <| regionE <| pu1 ?_
  refine sAdd ((m : Nat) : Int) 1 ?_
  refine pu1 <| nT ?_
  have hss := st_src (lf := lf) hR hN16 (first := fi.toNat) om (x := b0) om om n0 om om
  exact ⟨(m + 1, nx), od, alA, g0, om, (hNS.more e0 om)⟩
 refine regionE <| pu2 <| nB <| regionE <| pu1 ?_
 refine sAdd ((m : Nat) : Int) 1 ?_
 refine pu1 <| nT ?_
 have hss := st_src (lf := lf) hR hN16 (first := fi.toNat) om (x := b0) om om n0 om om
 exact ⟨(m + 1, (b0 - ((p.inputs.n : Nat) : Int))), od, alA, g0, om, (hNS.hit e0 (hss.2 om) om om)⟩
end Go.Proofs.YtbofcpnngniopaaGreat

namespace Go.Proofs.YtbofcpnngniopaaGreat
open Go Go.E
set_option linter.unusedVariables false
set_option linter.unusedSimpArgs false
set_option linter.unnecessarySimpa false
set_option maxRecDepth 100000
set_option maxHeartbeats 2000000
variable {W w : World} {H : Chunk} {F : List Chunk}
theorem tape_new {cs : List Chunk} (a : Option Addr) (n k : Nat) (hS : Sat W w cs) :
    Calls Tryz.prog 6 #[.slice a n k] w fun e w' => ∃ p : Nat, e = .returned (.pointer (some ⟨p, 0, none⟩)) ∧ Sat W w' ([(p, .cells #[.slice a n k, .int .i64 0] 59 (0, 0))] :: cs) := by
  refine callsA 6 Tryz.func6 rfl ?_
  refine seqE <| regionE <| pu1 <| nilO <| thenK_n <| seqE <| regionE <| pu2 ?_
  refine sBox hS (.agg #[.slice a n k, .int .i64 0]) #[.slice a n k, .int .i64 0] ?_
  intro b_1 w_2 hS_3
  refine pu1 <| nilO <| thenK_n <| retE <| retT [.pointer (some ⟨b_1, 0, none⟩)] <| ?_
  exact ⟨_, rfl, hS_3⟩

theorem tmod_bd (v n : Int) (h : 0 < n) : -n < v.tmod n ∧ v.tmod n < n := by
  have h1 := Int.tmod_lt_of_pos v h
  have h2 := Int.lt_tmod_of_pos v h
  omega
theorem mod_ok {cs : List Chunk} (v n : Int) (hn : 0 < n) (hn2 : n ≤ 4611686018427387904) (hS : Sat W w cs) :
  Calls Tryz.prog 16 #[I v, I n] w fun e w' => ∃ r : Int, e = .returned (I r) ∧ (0 ≤ r ∧ r < n) ∧ Sat W w' cs := by
 have hm := tmod_bd v n hn
 refine callsA 15 Tryz.func16 rfl ?_
 refine sR <| pu1 <| nT <| sR <| pu2 ?_
 refine sRem v n ?_
 refine pu1 <| nT <| seqE <| sR <| pu2 <| nT ?_
 refine cD ((v.tmod n) < 0) (fun a0 => ?_) (fun a0 => ?_)
 rotate_left
 ·refine kT <| sR <| pu2 <| nT <| retE <| retT [I (v.tmod n)] ?_
  exact ⟨_, rfl, om, hS⟩
 refine regionE <| pu2 ?_
 refine sAdd (v.tmod n) n ?_
 refine pu1 <| nT <| sR <| pu2 <| nT <| retE <| retT [I ((v.tmod n) + n)] ?_
 exact ⟨_, rfl, om, hS⟩
theorem tape_next {p : Nat} {a : Option Addr} {n k : Nat} {i : Int} {xs : List Int} (hR : RdT encI 1 [H] a n k xs) (hi : 0 ≤ i ∧ i ≤ n) (hS : Sat W w ([(p, .cells #[.slice a n k, I i] 59 (0, 0))] :: H :: F)) (m : Int) (hm : m ≤ 4611686018427387904) :
  Calls Tryz.prog 19 #[Pt p 0, I m] w fun e w' => ∃ r : Int, e = .returned (I r) ∧ (0 ≤ r ∧ (r < m ∨ r = 0)) ∧ ∃ i' : Int, (0 ≤ i' ∧ i' ≤ n) ∧ Sat W w' ([(p, .cells #[.slice a n k, I i'] 59 (0, 0))] :: H :: F) := by
 have hle := hR.le
 refine callsA 39 Tryz.func19 rfl ?_
 refine sR <| pu1 <| nT <| seqE <| seqE ?_
 by_cases e0 : (m : Int) < 1
 ·refine drawE [] [] [(true, [0, 1, 2]), (true, [3, 4, 5, 7, 8, 9, 6, 10, 11, 12, 13])] rfl kr trivial ?_
  have h0 := hS.drew
  refine wU [0, 1, 2] ?_
  refine wFix 7 _ true (decide_eq_true e0) ?_
  refine wU [3, 4, 5, 7, 8, 9, 6, 10, 11, 12, 13] ?_
  refine wN ?_
  refine thenK_n <| cTt <| sR <| pu1 <| nT <| retE <| thenK_r <| retT [I 0] ?_
  exact ⟨_, rfl, om, _, om, h0⟩
 refine drawE [] [(6, ⟨p, 1, none⟩, I i), (10, ⟨p, 0, none⟩, .slice a n k)] [(true, [0, 1, 2]), (true, [3, 4, 5, 7, 8, 9]), (true, [6]), (true, [10]), (true, [11, 12, 13])] rfl kr ⟨.inr (hS.cell 0 rfl rfl), .inr (hS.cell 0 rfl rfl), trivial⟩ ?_
 have b0 := hS.drew
 refine wU [0, 1, 2] ?_
 refine wFix 7 _ false (decide_eq_false e0) ?_
 refine wU [3, 4, 5, 7, 8, 9] ?_
 refine wLd (I i) 0 Tryz.isAgg3 ?_
 refine wLd (.slice a n k) 1 Tryz.isAgg22 ?_
 refine wU [11, 12, 13] ?_
 refine wN ?_
 refine thenK_n ?_
 refine cD (i ≥ ((n : Nat) : Int)) (fun i0 => ?_) (fun i0 => ?_)
 ·refine sR <| pu1 <| nT <| retE <| thenK_r <| retT [I 0] ?_
  exact ⟨_, rfl, om, _, om, b0⟩
 refine kT <| sR <| pu3 ?_
 refine sL b0 0 1 (I i) (Tryz.isAgg3 _) ?_
 refine sAdd i 1 ?_
 refine pu2 ?_
 refine sT b0 0 1 (I (i + 1)) [I (i + 1)] #[.slice a n k, I (i + 1)] Tryz.sizeOf3 ?_
 intro _ a0
 refine nT <| seqE ?_
 obtain ⟨c0, f0, g0, o0, j0, k0⟩ := RdT.elem hR ((i + 1) - 1)
 refine drawE [12] [(3, ⟨p, 0, none⟩, .slice a n k), (7, ⟨p, 1, none⟩, I (i + 1)), (10, ⟨f0, g0, none⟩, I c0)] [(true, [0, 1, 2, 4, 5, 6, 11]), (true, [3]), (true, [7]), (true, [8]), (true, [9]), (true, [10]), (false, [12]), (true, [13])] rfl kr ⟨.inr (a0.cell 0 rfl rfl), .inr (a0.cell 0 rfl rfl), .inr ((j0.up 1 rfl).cell a0 (k := 0) rfl), trivial⟩ ?_
 have l0 := a0.drew
 refine wU [0, 1, 2, 4, 5, 6, 11] ?_
 refine wLd (.slice a n k) 0 Tryz.isAgg22 ?_
 refine wLd (I (i + 1)) 1 Tryz.isAgg3 ?_
 refine wSub (i + 1) 1 ?_
 refine wY (.pointer (some ⟨f0, g0, none⟩)) rfl (fun w _ => Y_idx (a := a) (i := ((i + 1) - 1)) (len := n) (cap := k) rfl Tryz.runUnderlying22 Tryz.sizeOf3 kr kr k0) ?_
 refine wLd (I c0) 2 Tryz.isAgg3 ?_
 refine wO rfl ?_
 refine cX Tryz.call16 (mod_ok c0 m om om l0) ?_
 rintro _ _ ⟨m0, rfl, _, d0⟩
 refine nilO ⟨⟨.inr (d0.cell 0 rfl rfl), .inr (d0.cell 0 rfl rfl), dI, trivial⟩, ?_⟩
 refine wU [13] ?_
 refine wN ?_
 refine thenK_n <| retE <| retT [I m0] ?_
 exact ⟨_, rfl, om, _, om, d0⟩
end Go.Proofs.YtbofcpnngniopaaGreat

namespace Go.Proofs.YtbofcpnngniopaaGreat
open Go Go.E
set_option linter.unusedVariables false
set_option linter.unusedSimpArgs false
set_option linter.unnecessarySimpa false
set_option maxRecDepth 100000
set_option maxHeartbeats 2000000
variable {W w : World} {H : Chunk} {F : List Chunk}

def numB (z : Int) : Prop := -4611686018427387904 ≤ z ∧ z ≤ 4611686018427387904
theorem nb {z : Int} (h : numB z := by unfold numB; first | omega | (dsimp only; omega)) : numB z := h
theorem mem_set {α : Type} {P : α → Prop} {l : List α} {i : Nat} {x : α} (h : ∀ z ∈ l, P z) (hx : P x) : ∀ z ∈ l.set i x, P z := by
  intro z hz
  rcases List.mem_or_eq_of_mem_set hz with h1 | h1
  · exact h z h1
  · rw [h1]; exact hx
theorem mem_snoc {α : Type} {P : α → Prop} {l : List α} {x : α} (h : ∀ z ∈ l, P z) (hx : P x) : ∀ z ∈ l ++ [x], P z := by
  intro z hz
  rcases List.mem_append.1 hz with h1 | h1
  · exact h z h1
  · simp only [List.mem_singleton] at h1; rw [h1]; exact hx
end Go.Proofs.YtbofcpnngniopaaGreat

namespace Go.Proofs.YtbofcpnngniopaaGreat
open Go Go.E
set_option linter.unusedVariables false
set_option linter.unusedSimpArgs false
set_option linter.unnecessarySimpa false
set_option maxRecDepth 100000
set_option maxHeartbeats 2000000
variable {W w : World} {H : Chunk} {F : List Chunk}

/-- Every stage's sources come before it. -/
def ordered (ni : Int) (S : List StageV) : Prop := ∀ (m : Nat) (s : StageV), S[m]? = some s → ∀ x ∈ srcs s, 0 ≤ x ∧ x < ni + m
def jobOf (I : List PlaneV) (S : List StageV) (p : Int) : JobV := ⟨I, S, [0], p⟩
structure Good (I : List PlaneV) (S : List StageV) (p : Int) : Prop where
  pl : I.all planeOK = true
  ni : 1 ≤ I.length ∧ I.length ≤ 2
  ns : S.length ≤ 8
  pr : 0 ≤ p ∧ p < 4
  od : ordered I.length S
/-- The stage that always fits. -/
def safe (a : Int) : StageV := ⟨6, a, -1, false, 0, 0, 0, 0, [], [], [], 0, 0, [], [], 0, [⟨0, 0⟩], 255⟩
theorem ordered_snoc {ni : Int} {S : List StageV} {s : StageV} (h : ordered ni S) (hs : ∀ x ∈ srcs s, 0 ≤ x ∧ x < ni + S.length) : ordered ni (S ++ [s]) := by
  intro m t ht
  by_cases hm : m < S.length
  · rw [List.getElem?_append_left hm] at ht
    exact h m t ht
  · rw [List.getElem?_append_right (by omega)] at ht
    have hm2 : m - S.length = 0 := by
      by_cases h0 : m - S.length = 0
      · exact h0
      · rw [List.getElem?_eq_none (by simp; omega)] at ht; cases ht
    rw [hm2] at ht
    simp at ht
    subst ht
    intro x hx
    have := hs x hx
    omega
theorem Good.snoc {I : List PlaneV} {S : List StageV} {p : Int} {s : StageV} (h : Good I S p) (hl : S.length + 1 ≤ 8) (hs : ∀ x ∈ srcs s, 0 ≤ x ∧ x < (I.length : Int) + S.length) : Good I (S ++ [s]) p :=
 ⟨h.pl, h.ni, by simp; omega, h.pr, ordered_snoc h.od hs⟩
end Go.Proofs.YtbofcpnngniopaaGreat

namespace Go.Proofs.YtbofcpnngniopaaGreat
open Go Go.E
set_option linter.unusedVariables false
set_option linter.unusedSimpArgs false
set_option linter.unnecessarySimpa false
set_option maxRecDepth 100000
set_option maxHeartbeats 2000000
variable {W w : World} {H : Chunk} {F : List Chunk}

end Go.Proofs.YtbofcpnngniopaaGreat

namespace Go.Proofs.YtbofcpnngniopaaGreat
open Go Go.E
set_option linter.unusedVariables false
set_option linter.unusedSimpArgs false
set_option linter.unnecessarySimpa false
set_option maxRecDepth 100000
set_option maxHeartbeats 2000000
variable {W w : World} {H : Chunk} {F : List Chunk}

end Go.Proofs.YtbofcpnngniopaaGreat

namespace Go.Proofs.YtbofcpnngniopaaGreat
open Go Go.E
set_option linter.unusedVariables false
set_option linter.unusedSimpArgs false
set_option linter.unnecessarySimpa false
set_option maxRecDepth 100000
set_option maxHeartbeats 2000000
variable {W w : World} {H : Chunk} {F : List Chunk}

end Go.Proofs.YtbofcpnngniopaaGreat

namespace Go.Proofs.YtbofcpnngniopaaGreat
open Go Go.E
set_option linter.unusedVariables false
set_option linter.unusedSimpArgs false
set_option linter.unnecessarySimpa false
set_option maxRecDepth 100000
set_option maxHeartbeats 2000000
variable {W w : World} {H : Chunk} {F : List Chunk}
end Go.Proofs.YtbofcpnngniopaaGreat
