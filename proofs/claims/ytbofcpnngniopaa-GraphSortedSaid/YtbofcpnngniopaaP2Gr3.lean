import Derived.Test.YtbofcpnngniopaaP2Tri
namespace Go.Proofs.Ytbofcpnngniopaa
open Go Go.E
set_option linter.unusedVariables false
set_option linter.unusedSimpArgs false
set_option linter.unnecessarySimpa false
set_option maxRecDepth 100000
set_option maxHeartbeats 2000000
variable {W w : World} {H : Chunk} {F : List Chunk}
/-! ### walks in a graph, their least lengths, in two ways -/
/-- A walk of L + 1 steps. -/
-- squeezed
def walkG (e : Nat → Nat → Bool) : Nat → Nat → Nat → Prop
  | 0, a, b => e a b = true
  | L + 1, a, b => ∃ c, e a c = true ∧ walkG e L c b
theorem walk_app {e : Nat → Nat → Bool} {M b c : Nat} (h2 : walkG e M c b) : ∀ {L a : Nat}, walkG e L a c → walkG e (L + M + 1) a b
  | 0, a, h1 => by rw [Nat.zero_add]; exact ⟨c, h1, h2⟩
  | L + 1, a, ⟨d, h3, h4⟩ => by
    have := walk_app h2 h4
    rw [show L + 1 + M + 1 = (L + M + 1) + 1 by omega]
    exact ⟨d, h3, this⟩
theorem walk_out {e : Nat → Nat → Bool} : ∀ {L a b : Nat}, walkG e L a b → ∃ c, e a c = true
  | 0, _, b, h => ⟨b, h⟩
  | _ + 1, _, _, ⟨c, h, _⟩ => ⟨c, h⟩
def fwG (e : Nat → Nat → Bool) : Nat → Nat → Nat → Int
  | 0, a, b => if e a b = true then 1 else 1000
  | k + 1, a, b => min (fwG e k a b) (fwG e k a k + fwG e k k b)
section
variable {e : Nat → Nat → Bool}
theorem fw_pos : ∀ {k a b : Nat}, 1 ≤ fwG e k a b
  | 0, a, b => by unfold fwG; split <;> omega
  | k + 1, a, b => by
    have h1 := fw_pos (k := k) (a := a) (b := b); have h2 := fw_pos (k := k) (a := a) (b := k); have h3 := fw_pos (k := k) (a := k) (b := b)
    unfold fwG; omega
theorem fw_le : ∀ {k a b : Nat}, fwG e k a b ≤ 1000
  | 0, a, b => by unfold fwG; split <;> omega
  | k + 1, a, b => by
    have h1 := fw_le (k := k) (a := a) (b := b)
    unfold fwG; omega
theorem fw_edge : ∀ {k a b : Nat}, e a b = true → fwG e k a b ≤ 1
  | 0, a, b, h => by unfold fwG; rw [if_pos h]; exact Int.le_refl _
  | k + 1, a, b, h => by
    have h1 := fw_edge (k := k) h
    unfold fwG; omega
theorem fw_sound : ∀ {k a b : Nat}, fwG e k a b < 1000 → walkG e ((fwG e k a b).toNat - 1) a b
 | 0, a, b, h => by
  unfold fwG at h ⊢
  split at h
  ·rename_i h1; rw [if_pos h1]; exact h1
  ·omega
 | k + 1, a, b, h => by
  have h1 := fw_pos (e := e) (k := k) (a := a) (b := k); have h2 := fw_pos (e := e) (k := k) (a := k) (b := b)
  unfold fwG at h ⊢
  by_cases hc : fwG e k a b ≤ fwG e k a k + fwG e k k b
  ·rw [show min (fwG e k a b) (fwG e k a k + fwG e k k b) = fwG e k a b by omega] at h ⊢
   exact fw_sound h
  ·rw [show min (fwG e k a b) (fwG e k a k + fwG e k k b) = fwG e k a k + fwG e k k b by omega] at h ⊢
   have w1 := fw_sound (k := k) (a := a) (b := k) om
   have w2 := fw_sound (k := k) (a := k) (b := b) om
   have := walk_app w2 w1
   rw [show (fwG e k a k + fwG e k k b).toNat - 1 = (fwG e k a k).toNat - 1 + ((fwG e k k b).toNat - 1) + 1 by omega]
   exact this
theorem fw_tri : ∀ {k a b c : Nat}, c < k → fwG e k a b ≤ fwG e k a c + fwG e k c b
  | 0, _, _, _, h => by omega
  | k + 1, a, b, c, h => by
    have p1 := fw_pos (e := e) (k := k) (a := k) (b := k)
    by_cases hc : c = k
    · subst hc; unfold fwG; omega
    · have hk : c < k := by omega
      have t1 := fw_tri (a := a) (b := b) hk; have t2 := fw_tri (a := k) (b := b) hk; have t3 := fw_tri (a := a) (b := k) hk; have t4 := fw_tri (a := k) (b := k) hk
      unfold fwG; omega
theorem fw_compl {N : Nat} (hN : ∀ a b, e a b = true → b < N) : ∀ {L a b : Nat}, walkG e L a b → fwG e N a b ≤ ((L : Nat) : Int) + 1
  | 0, a, b, h => by have := fw_edge (k := N) h; omega
  | L + 1, a, b, ⟨c, h1, h2⟩ => by
    have h3 := fw_edge (k := N) h1
    have h4 := fw_compl hN h2
    have h5 := fw_tri (e := e) (k := N) (a := a) (b := b) (hN a c h1)
    omega
/-- The least walk has L + 1 steps. -/
def lstG (e : Nat → Nat → Bool) (L a b : Nat) : Prop := walkG e L a b ∧ ∀ M, M < L → ¬ walkG e M a b
theorem lst_ex {a b : Nat} : ∀ {L : Nat}, walkG e L a b → ∃ M, M ≤ L ∧ lstG e M a b := by
  intro L
  induction L using Nat.strongRecOn with
  | _ L ih =>
    intro h
    by_cases hc : ∃ M, M < L ∧ walkG e M a b
    · obtain ⟨M, h1, h2⟩ := hc
      obtain ⟨M', h3, h4⟩ := ih M h1 h2
      exact ⟨M', by omega, h4⟩
    · exact ⟨L, Nat.le_refl _, h, fun M h1 h2 => hc ⟨M, h1, h2⟩⟩
theorem lst_fw {N L a b : Nat} (hN : ∀ a b, e a b = true → b < N) (h : lstG e L a b) (hL : L < 999) : fwG e N a b = ((L : Nat) : Int) + 1 := by
  have h1 := fw_compl hN h.1
  have h2 := fw_sound (e := e) (k := N) (a := a) (b := b) (by omega)
  have h3 := fw_pos (e := e) (k := N) (a := a) (b := b)
  have h4 : ¬ (fwG e N a b).toNat - 1 < L := fun k => h.2 _ k h2
  omega
theorem no_fw {N a b : Nat} (h : ∀ L, ¬ walkG e L a b) : fwG e N a b = 1000 := by
  have h1 := fw_le (e := e) (k := N) (a := a) (b := b)
  by_cases hc : fwG e N a b < 1000
  · exact absurd (fw_sound hc) (h _)
  · omega
theorem lst_next {L a b : Nat} (h : lstG e (L + 1) a b) : ∃ c, e a c = true ∧ lstG e L c b := by
  obtain ⟨⟨c, h1, h2⟩, h3⟩ := h
  refine ⟨c, h1, h2, fun M hM hw => ?_⟩
  exact h3 (M + 1) (by omega) ⟨c, h1, hw⟩
theorem lst_list {lo n b : Nat} (hr : ∀ x y, e x y = true → lo ≤ x ∧ x < lo + n) : ∀ {L a : Nat}, lstG e L a b → ∃ l : List Nat, l.length = L + 1 ∧ l.Nodup ∧ ∀ x ∈ l, (lo ≤ x ∧ x < lo + n) ∧ ∃ m, m ≤ L ∧ lstG e m x b
 | 0, a, h => by
  obtain ⟨c, hc⟩ := walk_out h.1
  exact ⟨[a], rfl, by simp, fun x hx => by rw [List.mem_singleton.1 hx]; exact ⟨hr a c hc, 0, Nat.le_refl _, h⟩⟩
 | L + 1, a, h => by
  obtain ⟨c, hc⟩ := walk_out h.1
  obtain ⟨d, hd, hl⟩ := lst_next h
  obtain ⟨l, h1, h2, h3⟩ := lst_list hr hl
  refine ⟨a :: l, by simp [h1], ?_, ?_⟩
  ·rw [List.nodup_cons]
   refine ⟨fun hm => ?_, h2⟩
   obtain ⟨_, m, hm1, hm2⟩ := h3 a hm
   exact h.2 m om hm2.1
  ·intro x hx
   rcases List.mem_cons.1 hx with rfl | hx
   ·exact ⟨hr x c hc, L + 1, Nat.le_refl _, h⟩
   ·obtain ⟨q1, m, q2, q3⟩ := h3 x hx
    exact ⟨q1, m, om, q3⟩
theorem lst_lt {lo n L a b : Nat} (hr : ∀ x y, e x y = true → lo ≤ x ∧ x < lo + n) (h : lstG e L a b) : L < n := by
  obtain ⟨l, h1, h2, h3⟩ := lst_list hr h
  have h4 : (l.map fun x => x - lo).Nodup := by
    rw [List.nodup_iff_pairwise_ne, List.pairwise_map]
    refine (List.nodup_iff_pairwise_ne.1 h2).imp_of_mem ?_
    intro x y hx hy hxy
    have := (h3 x hx).1; have := (h3 y hy).1; omega
  have := nodup_le (n := n) h4 (fun x hx => by
    obtain ⟨y, hy, rfl⟩ := List.mem_map.1 hx
    have := (h3 y hy).1; omega) (List.length_map _)
  omega
end
/-- The steps of the graph: from a stage to its sources. -/
def edgG (ni : Nat) (D : List (List Int)) (a b : Nat) : Bool := decide (ni ≤ a) && (D.getD (a - ni) []).any fun x => decide (x = ((b : Nat) : Int))
theorem edg_iff {ni : Nat} {D : List (List Int)} {a b : Nat} : edgG ni D a b = true ↔ ni ≤ a ∧ ∃ s, D[a - ni]? = some s ∧ ((b : Nat) : Int) ∈ s := by
  unfold edgG
  rw [Bool.and_eq_true, decide_eq_true_eq, List.any_eq_true, List.getD_eq_getElem?_getD]
  constructor
  · rintro ⟨h1, x, h2, h3⟩
    cases hs : D[a - ni]? with
    | none => rw [hs] at h2; cases h2
    | some s => rw [hs] at h2; exact ⟨h1, s, rfl, by rw [← of_decide_eq_true h3]; exact h2⟩
  · rintro ⟨h1, s, h2, h3⟩
    exact ⟨h1, _, by rw [h2]; exact h3, by simp⟩
/-- All sources are nodes. -/
def RngG (ni : Nat) (D : List (List Int)) : Prop := ∀ s ∈ D, ∀ x ∈ s, 0 ≤ x ∧ x < ((ni + D.length : Nat) : Int)
theorem edg_src {ni : Nat} {D : List (List Int)} : ∀ x y, edgG ni D x y = true → ni ≤ x ∧ x < ni + D.length := by
  intro x y h
  obtain ⟨h1, s, h2, _⟩ := edg_iff.1 h
  have := (List.getElem?_eq_some_iff.1 h2).1
  omega
theorem edg_dst {ni : Nat} {D : List (List Int)} (hR : RngG ni D) {N : Nat} (hN : ni + D.length ≤ N) : ∀ a b, edgG ni D a b = true → b < N := by
  intro a b h
  obtain ⟨_, s, h2, h3⟩ := edg_iff.1 h
  have := hR s (List.mem_of_getElem? h2) _ h3
  omega
/-! ### the reference's steps -/
def hitG (ni : Nat) (t : Nat) (out : List Int) (L : Int) (s : List Int) : Bool := s.any fun x => decide (((ni : Nat) : Int) ≤ x ∧ ((L = 1 ∧ x - ((ni : Nat) : Int) = ((t : Nat) : Int)) ∨ (1 < L ∧ out.getD (x - ((ni : Nat) : Int)).toNat 0 = L - 1)))
def rndG (ni t : Nat) (D : List (List Int)) (L : Int) (out : List Int) : List Int := (List.range D.length).map fun i => if out.getD i 0 = 0 ∧ hitG ni t out L (D.getD i []) = true then L else out.getD i 0
def stG (ni t : Nat) (D : List (List Int)) : Nat → List Int
  | 0 => List.replicate D.length 0
  | L + 1 => rndG ni t D (((L : Nat) : Int) + 1) (stG ni t D L)
theorem st_len {ni t : Nat} {D : List (List Int)} : ∀ {L : Nat}, (stG ni t D L).length = D.length
  | 0 => by simp [stG]
  | L + 1 => by simp [stG, rndG]
theorem rnd_at {ni t : Nat} {D : List (List Int)} {L : Int} {out : List Int} {i : Nat} (h : i < D.length) : (rndG ni t D L out).getD i 0 = if out.getD i 0 = 0 ∧ hitG ni t out L (D.getD i []) = true then L else out.getD i 0 := by
  unfold rndG
  rw [List.getD_eq_getElem?_getD, List.getElem?_map, List.getElem?_range h]; rfl
theorem st_spec {ni t : Nat} {D : List (List Int)} (hR : RngG ni D) (ht : t < D.length) : ∀ (L : Nat) {i : Nat}, i < D.length →
  ((stG ni t D L).getD i 0 = 0 ∧ ∀ M, M < L → ¬ walkG (edgG ni D) M (ni + i) (ni + t)) ∨ (∃ M, M < L ∧ (stG ni t D L).getD i 0 = ((M : Nat) : Int) + 1 ∧ lstG (edgG ni D) M (ni + i) (ni + t))
 | 0, i, h => by
  left
  refine ⟨?_, fun M hM => by omega⟩
  unfold stG; rw [List.getD_eq_getElem?_getD, List.getElem?_replicate, if_pos h]; rfl
 | L + 1, i, h => by
  have ih := fun {k : Nat} (hk : k < D.length) => st_spec hR ht L hk
  unfold stG
  rw [rnd_at h]
  rcases ih h with ⟨h1, h2⟩ | ⟨M, h1, h2, h3⟩
  ·obtain ⟨s, hs⟩ : ∃ s, D[i]? = some s := ⟨D[i], List.getElem?_eq_getElem h⟩
   have hd : D.getD i [] = s := by rw [List.getD_eq_getElem?_getD, hs]; rfl
   have hiff : hitG ni t (stG ni t D L) (((L : Nat) : Int) + 1) (D.getD i []) = true ↔ walkG (edgG ni D) L (ni + i) (ni + t) := by
    rw [hd]
    unfold hitG
    rw [List.any_eq_true]
    constructor
    ·rintro ⟨x, hx, hp⟩
     have hp := of_decide_eq_true hp
     obtain ⟨p1, p2⟩ := hp
     have hxe : ((x.toNat : Nat) : Int) = x := by omega
     have he : edgG ni D (ni + i) x.toNat = true := edg_iff.2 ⟨om, s, by rw [show ni + i - ni = i by omega]; exact hs, by rw [hxe]; exact hx⟩
     rcases p2 with ⟨p3, p4⟩ | ⟨p3, p4⟩
     ·have e0 : L = 0 := by omega
      subst e0
      rw [show ni + t = x.toNat by omega]; exact he
     ·obtain ⟨L', rfl⟩ : ∃ L', L = L' + 1 := ⟨L - 1, om⟩
      have hr := hR s (List.mem_of_getElem? hs) x hx
      have hk : (x - ((ni : Nat) : Int)).toNat < D.length := by omega
      refine ⟨x.toNat, he, ?_⟩
      rcases ih hk with ⟨q1, _⟩ | ⟨M, q1, q2, q3⟩
      ·rw [q1] at p4; omega
      ·rw [q2] at p4
       have em : M = L' := by omega
       subst em
       rw [show x.toNat = ni + (x - ((ni : Nat) : Int)).toNat by omega]; exact q3.1
    ·intro hw
     cases L with
     | zero =>
      have hw : edgG ni D (ni + i) (ni + t) = true := hw
      obtain ⟨_, s', hs', hm⟩ := edg_iff.1 hw
      rw [show ni + i - ni = i by omega, hs] at hs'; obtain rfl := Option.some.inj hs'
      exact ⟨_, hm, decide_eq_true ⟨om, .inl ⟨om, om⟩⟩⟩
     | succ L' =>
      obtain ⟨c, hc1, hc2⟩ := hw
      obtain ⟨_, s', hs', hm⟩ := edg_iff.1 hc1
      rw [show ni + i - ni = i by omega, hs] at hs'; obtain rfl := Option.some.inj hs'
      obtain ⟨y, hy⟩ := walk_out hc2
      have hcr := edg_src c y hy
      refine ⟨_, hm, decide_eq_true ⟨om, .inr ⟨om, ?_⟩⟩⟩
      have hk : (((c : Nat) : Int) - ((ni : Nat) : Int)).toNat < D.length := by omega
      rcases ih hk with ⟨_, q2⟩ | ⟨M, q1, q2, q3⟩
      ·refine absurd hc2 ?_
       have := q2 L' om
       rw [show ni + (((c : Nat) : Int) - ((ni : Nat) : Int)).toNat = c by omega] at this; exact this
      ·rw [show ni + (((c : Nat) : Int) - ((ni : Nat) : Int)).toNat = c by omega] at q3
       have hM : ¬ L' < M := fun k => q3.2 L' k hc2
       have hM2 : ¬ M < L' := fun k => h2 (M + 1) om ⟨c, hc1, q3.1⟩
       rw [q2]; omega
   by_cases hc : walkG (edgG ni D) L (ni + i) (ni + t)
   ·right
    rw [if_pos ⟨h1, hiff.2 hc⟩]
    exact ⟨L, om, rfl, hc, h2⟩
   ·left
    rw [if_neg (fun k => hc (hiff.1 k.2))]
    refine ⟨h1, fun M hM => ?_⟩
    by_cases e : M = L
    ·rw [e]; exact hc
    ·exact h2 M om
  ·right
   rw [if_neg om]
   exact ⟨M, om, h2, h3⟩
/-- The two ways agree. -/
theorem st_fw {ni t i N : Nat} {D : List (List Int)} (hR : RngG ni D) (hN : ni + D.length ≤ N) (hN2 : N ≤ 16) (ht : t < D.length) (hi : i < D.length) :
  ((stG ni t D D.length).getD i 0 = 0 ∧ fwG (edgG ni D) N (ni + i) (ni + t) = 1000 ∧ ∀ M, ¬ walkG (edgG ni D) M (ni + i) (ni + t)) ∨ (∃ M, M < D.length ∧ (stG ni t D D.length).getD i 0 = ((M : Nat) : Int) + 1 ∧ fwG (edgG ni D) N (ni + i) (ni + t) = ((M : Nat) : Int) + 1 ∧ lstG (edgG ni D) M (ni + i) (ni + t)) := by
 rcases st_spec hR ht D.length hi with ⟨h1, h2⟩ | ⟨M, h1, h2, h3⟩
 ·left
  have hno : ∀ M, ¬ walkG (edgG ni D) M (ni + i) (ni + t) := by
   intro M hw
   obtain ⟨M', _, h4⟩ := lst_ex hw
   exact h2 M' (lst_lt edg_src h4) h4.1
  exact ⟨h1, no_fw hno, hno⟩
 ·exact .inr ⟨M, h1, h2, lst_fw (edg_dst hR hN) h3 om, h3⟩
theorem fw_input {ni N x b : Nat} {D : List (List Int)} (hx : x < ni ∨ ni + D.length ≤ x) : fwG (edgG ni D) N x b = 1000 := no_fw fun L hw => by
  obtain ⟨y, hy⟩ := walk_out hw
  have := edg_src x y hy
  omega
/-! ### tables of 16 rows of 16 numbers -/
def MX (f : Nat → Nat → Int) (xs : List Int) : Prop := xs.length = 256 ∧ ∀ a b, a < 16 → b < 16 → xs[a * 16 + b]? = some (f a b)
/-- Rows ahead of a, and row a up to b, are new already. -/
def MP (f g : Nat → Nat → Int) (a b : Nat) (xs : List Int) : Prop := MX (fun x y => if x < a ∨ (x = a ∧ y < b) then g x y else f x y) xs
theorem MX.ext {f g : Nat → Nat → Int} {xs : List Int} (h : MX f xs) (e : ∀ a b, a < 16 → b < 16 → f a b = g a b) : MX g xs := ⟨h.1, fun a b ha hb => by rw [h.2 a b ha hb, e a b ha hb]⟩
theorem MX.set {f : Nat → Nat → Int} {xs : List Int} {a b : Nat} (h : MX f xs) (hb : b < 16) (v : Int) : MX (fun x y => if x = a ∧ y = b then v else f x y) (xs.set (a * 16 + b) v) := by
  refine ⟨by rw [List.length_set]; exact h.1, fun x y hx hy => ?_⟩
  (try dsimp only)
  rw [List.getElem?_set]
  by_cases e : x = a ∧ y = b
  · obtain ⟨rfl, rfl⟩ := e
    rw [if_pos rfl, if_pos (by rw [h.1]; omega), if_pos ⟨rfl, rfl⟩]
  · rw [if_neg (by omega), if_neg e]; exact h.2 x y hx hy
theorem MX.at {f : Nat → Nat → Int} {xs : List Int} {i a b : Nat} {v : Int} (h : MX f xs) (hv : xs[i]? = some v) (ha : a < 16) (hb : b < 16) (hi : i = a * 16 + b) : v = f a b := by
  subst hi
  rw [h.2 a b ha hb] at hv
  exact (Option.some.inj hv).symm
theorem MX.zero : MX (fun _ _ => 0) (List.replicate 256 0) := ⟨List.length_replicate, fun a b ha hb => by rw [List.getElem?_replicate, if_pos (by omega)]⟩
theorem MX.start {f g : Nat → Nat → Int} {xs : List Int} (h : MX f xs) : MP f g 0 0 xs := MX.ext h fun a b _ _ => by (try dsimp only); rw [if_neg (by omega)]
theorem MP.row {f g : Nat → Nat → Int} {xs : List Int} {a b : Nat} (h : MP f g a b xs) (hb : b = 16) : MP f g (a + 1) 0 xs := MX.ext h fun x y _ hy => by
  (try dsimp only)
  by_cases e : x < a ∨ (x = a ∧ y < b)
  · rw [if_pos e, if_pos (by omega)]
  · rw [if_neg e, if_neg (by omega)]
theorem MP.fin {f g : Nat → Nat → Int} {xs : List Int} {a : Nat} (h : MP f g a 0 xs) (ha : a = 16) : MX g xs := MX.ext h fun x y hx _ => by (try dsimp only); rw [if_pos (by omega)]
theorem MP.step {f g : Nat → Nat → Int} {xs : List Int} {a b : Nat} {v : Int} (h : MP f g a b xs) (hb : b < 16) (hv : v = g a b) : MP f g a (b + 1) (xs.set (a * 16 + b) v) := (MX.set (a := a) (b := b) h hb v).ext fun x y _ _ => by
  (try dsimp only)
  by_cases e : x = a ∧ y = b
  · obtain ⟨rfl, rfl⟩ := e
    rw [if_pos ⟨rfl, rfl⟩, if_pos (by omega), hv]
  · rw [if_neg e]
    by_cases c : x < a ∨ (x = a ∧ y < b)
    · rw [if_pos c, if_pos (by omega)]
    · rw [if_neg c, if_neg (by omega)]
theorem MX.rng {f : Nat → Nat → Int} {xs : List Int} {i : Nat} {v lo hi : Int} (h : MX f xs) (hf : ∀ a b, lo ≤ f a b ∧ f a b ≤ hi) (hv : xs[i]? = some v) : lo ≤ v ∧ v ≤ hi := by
  have h1 := (List.getElem?_eq_some_iff.1 hv).1
  rw [h.1] at h1
  have := h.at hv (a := i / 16) (b := i % 16) (by omega) (by omega) (by omega)
  rw [this]; exact hf _ _
theorem fw_rng {e : Nat → Nat → Bool} {k a b : Nat} : 1 ≤ fwG e k a b ∧ fwG e k a b ≤ 1000 := ⟨fw_pos, fw_le⟩
theorem MP.rng {e : Nat → Nat → Bool} {k a b i : Nat} {xs : List Int} {v : Int} (h : MP (fwG e k) (fwG e (k + 1)) a b xs) (hv : xs[i]? = some v) : 1 ≤ v ∧ v ≤ 1000 := MX.rng h (fun x y => by split <;> exact fw_rng) hv
theorem fw_same1 {e : Nat → Nat → Bool} {k a : Nat} : fwG e (k + 1) a k = fwG e k a k := by
  have := fw_pos (e := e) (k := k) (a := k) (b := k)
  show min _ _ = _
  omega
theorem fw_same2 {e : Nat → Nat → Bool} {k b : Nat} : fwG e (k + 1) k b = fwG e k k b := by
  have := fw_pos (e := e) (k := k) (a := k) (b := k)
  show min _ _ = _
  omega
theorem MP.fw {e : Nat → Nat → Bool} {k x y : Nat} {xs : List Int} {v1 v2 v3 : Int} (h : MP (fwG e k) (fwG e (k + 1)) x y xs) (hx : x < 16) (hy : y < 16) (hk : k < 16) (h1 : xs[x * 16 + y]? = some v1) (h2 : xs[x * 16 + k]? = some v2) (h3 : xs[k * 16 + y]? = some v3) :
  MP (fwG e k) (fwG e (k + 1)) x (y + 1) (xs.set (x * 16 + y) (min v1 (v2 + v3))) := by
 refine h.step hy ?_
 have e1 := MX.at h h1 hx hy rfl
 have e2 := MX.at h h2 hx hk rfl
 have e3 := MX.at h h3 hk hy rfl
 simp only at e1 e2 e3
 rw [if_neg om] at e1
 rw [fw_same1, ite_self] at e2
 rw [fw_same2, ite_self] at e3
 rw [e1, e2, e3]; rfl
/-- The steps of the stages ahead of i, and of the first k sources of stage i. -/
def D0 (ni : Nat) (D : List (List Int)) (i k : Nat) (x y : Nat) : Int := if (x < ni + i ∧ edgG ni D x y = true) ∨ (x = ni + i ∧ ((y : Nat) : Int) ∈ (D.getD i []).take k) then 1 else 1000
theorem D0.start {ni : Nat} {D : List (List Int)} {xs : List Int} (h : MX (fun _ _ => 1000) xs) : MX (D0 ni D 0 0) xs := h.ext fun a b _ _ => by
  unfold D0
  rw [if_neg]
  rintro (⟨h1, h2⟩ | ⟨_, h2⟩)
  · have := (edg_iff.1 h2).1; omega
  · simp at h2
theorem D0.row {ni i k : Nat} {D : List (List Int)} {s : List Int} {xs : List Int} (h : MX (D0 ni D i k) xs) (hs : D[i]? = some s) (hk : s.length ≤ k) : MX (D0 ni D (i + 1) 0) xs := h.ext fun a b _ _ => by
  have hd : D.getD i [] = s := by rw [List.getD_eq_getElem?_getD, hs]; rfl
  unfold D0
  rw [hd, List.take_of_length_le hk]
  simp only [List.take_zero, List.not_mem_nil, and_false, or_false]
  by_cases e : a = ni + i
  · subst e
    have e2 : edgG ni D (ni + i) b = true ↔ ((b : Nat) : Int) ∈ s := by
      rw [edg_iff, show ni + i - ni = i by omega, hs]
      constructor
      · rintro ⟨_, _, h1, h2⟩; rw [Option.some.inj h1]; exact h2
      · exact fun h => ⟨om, s, rfl, h⟩
    by_cases c : ((b : Nat) : Int) ∈ s
    · rw [if_pos (.inr ⟨rfl, c⟩), if_pos ⟨om, e2.2 c⟩]
    · rw [if_neg (by rintro (⟨h1, _⟩ | ⟨_, h1⟩); · omega
                     · exact c h1), if_neg (fun h => c (e2.1 h.2))]
  · by_cases c : a < ni + i ∧ edgG ni D a b = true
    · rw [if_pos (.inl c), if_pos ⟨om, c.2⟩]
    · rw [if_neg (by rintro (h1 | ⟨h1, _⟩); · exact c h1
                     · exact e h1), if_neg (fun h => c ⟨om, h.2⟩)]
theorem D0.add {ni i k : Nat} {D : List (List Int)} {s : List Int} {x : Int} {xs : List Int} {q : Nat} (h : MX (D0 ni D i k) xs) (hs : D[i]? = some s) (hx : s[k]? = some x) (hr : 0 ≤ x ∧ x < 16) (hq : q = (ni + i) * 16 + x.toNat) : MX (D0 ni D i (k + 1)) (xs.set q 1) := by
 subst hq
 refine (MX.set (a := ni + i) (b := x.toNat) h om 1).ext fun a b _ _ => ?_
 (try dsimp only)
 have hd : D.getD i [] = s := by rw [List.getD_eq_getElem?_getD, hs]; rfl
 unfold D0
 rw [hd, take_succ_at hx]
 simp only [List.mem_append, List.mem_singleton]
 by_cases e : a = ni + i ∧ b = x.toNat
 ·rw [if_pos e, if_pos (.inr ⟨e.1, .inr om⟩)]
 ·rw [if_neg e]
  by_cases c : (a < ni + i ∧ edgG ni D a b = true) ∨ (a = ni + i ∧ ((b : Nat) : Int) ∈ s.take k)
  ·rw [if_pos c, if_pos (c.imp id fun h => ⟨h.1, .inl h.2⟩)]
  ·rw [if_neg c, if_neg]
   rintro (h1 | ⟨h1, h2 | h2⟩)
   ·exact c (.inl h1)
   ·exact c (.inr ⟨h1, h2⟩)
   ·exact e ⟨h1, om⟩
theorem D0.fin {ni i : Nat} {D : List (List Int)} {xs : List Int} (h : MX (D0 ni D i 0) xs) (hi : i = D.length) : MX (fwG (edgG ni D) 0) xs := h.ext fun a b _ _ => by
  unfold D0 fwG
  simp only [List.take_zero, List.not_mem_nil, and_false, or_false]
  by_cases c : edgG ni D a b = true
  · have := edg_src a b c
    rw [if_pos ⟨by omega, c⟩, if_pos c]
  · rw [if_neg (fun h => c h.2), if_neg c]
theorem MX.fw16 {e : Nat → Nat → Bool} {k : Nat} {xs : List Int} (h : MX (fwG e k) xs) (hk : k = 16) : MX (fwG e 16) xs := hk ▸ h
section
open Go.E
variable {P : Program} {W w : World} {cs : List Chunk} {ρ : Env} {o : Oper} {ops : Array Oper} {rest : List Oper} {n : Nat} {N : Env → World → Prop}
/-- An element of an array of arrays. -/
theorem Y_idxB (i : Int) (k q : Nat) {t E : TypeId} {x y : Operand} {m sz b off : Nat} (hu : ∀ w, (underlying t).run P w = .ok (.array m E) w) (hsz : ∀ w, (sizeOf E).run P w = .ok sz w)
    (h0 : 0 ≤ i := by omega) (h1 : i < m := by omega) (hq : off + k * sz = q := by omega) (ho : o.op = .indexAddr t x y := by rfl) (hx : ev ρ x = .pointer (some ⟨b, off, none⟩) := by kernel_rfl) (hy : ev ρ y = .int .i64 i := by kernel_rfl) (hk : i.toNat = k := by first | rfl | omega) : Go.E.Yields P ρ o (.pointer (some ⟨b, q, none⟩)) w :=
  hq ▸ Y_idxA i k hu hsz h0 h1 ho hx hy hk
theorem sIdxB (i : Int) (k q : Nat) {t E : TypeId} {x y : Operand} {m sz b off : Nat} (hu : ∀ w, (underlying t).run P w = .ok (.array m E) w) (hsz : ∀ w, (sizeOf E).run P w = .ok sz w)
  (h : OpsE P n ops rest N (put ρ o.dst (.pointer (some ⟨b, q, none⟩))) w) (h0 : 0 ≤ i := by omega) (h1 : i < m := by omega) (hq : off + k * sz = q := by omega)
  (ho : o.op = .indexAddr t x y := by rfl) (hg : o.guard = none := by rfl) (hd : dstOK n o.dst = true := by rfl) (hx : ev ρ x = .pointer (some ⟨b, off, none⟩) := by kernel_rfl) (hy : ev ρ y = I i := by kernel_rfl) (hk : i.toNat = k := by first | rfl | omega) : OpsE P n ops (o :: rest) N ρ w :=
 stepY _ hg hd (Y_idxB i k q hu hsz h0 h1 hq ho hx hy hk) h
theorem ptr_tri {E : TypeId} {b : Nat} {vs : List Value} (i : Nat) (hi : cs[i]? = some (Tri b E [] vs [])) : PtR cs b 0 vs :=
  ptr_up (c := Tri b E [] vs []) i hi (tri_at (by simp))
/-- A whole array is read. -/
theorem sLT (hS : Sat W w cs) (i : Nat) {vs : List Value} {t E : TypeId} {x : Operand} {b k : Nat} (hl : vs.length = k) (hag : (isAgg t).run P w = .ok true w) (hsz : (sizeOf t).run P w = .ok k w) (h : OpsE P n ops rest N (put ρ o.dst (.agg vs.toArray)) w)
    (ho : o.op = .load t x := by rfl) (hg : o.guard = none := by rfl) (hd : dstOK n o.dst = true := by rfl) (hx : ev ρ x = .pointer (some ⟨b, 0, none⟩) := by kernel_rfl) (hi : cs[i]? = some (Tri b E [] vs []) := by rfl) : OpsE P n ops (o :: rest) N ρ w :=
  stepY _ hg hd (Y_loadA ho hag hsz hx hl hS (ptr_tri i hi)) h
/-- A whole array is written. -/
theorem sST (hS : Sat W w cs) (i : Nat) {vs ys : List Value} {t E : TypeId} {x y : Operand} {b k : Nat} (hl : vs.length = k) (hl2 : ys.length = k) (h1 : ∀ u ∈ ys, u.oneCell' = true) (hsz : ∀ w, (sizeOf t).run P w = .ok k w)
  (h : ∀ w', Sat W w' (cs.set i (Tri b E [] ys [])) → OpsE P n ops rest N ρ w')
  (ho : o.op = .store t x y := by rfl) (hg : o.guard = none := by rfl) (hd : o.dst = none := by rfl) (hi : cs[i]? = some (Tri b E [] vs []) := by rfl)
  (hx : ev ρ x = Pt b 0 := by kernel_rfl) (hy : ev ρ y = .agg ys.toArray := by kernel_rfl) : OpsE P n ops (o :: rest) N ρ w := by
 refine stepStore ho hg hd hsz hx hy (vs := ys) (by simp [Value.cells]) hl2 h1 hS i hi (by simp [hl, hl2]) ((([] : List Value) ++ (ys ++ ([] : List Value))).toArray) ?_ h
 simp [wr, List.drop_of_length_le, hl, hl2]
/-- A variable with a whole array, as a result. -/
theorem lvT (hS : Sat W w cs) (i : Nat) {vs : List Value} {t E : TypeId} {b k : Nat} (hl : vs.length = k) (hag : (isAgg t).run P w = .ok true w) (hsz : (sizeOf t).run P w = .ok k w) (hi : cs[i]? = some (Tri b E [] vs [])) : (loadVar t ⟨b, 0, none⟩).run P w = .ok (.agg vs.toArray) w := by
  subst hl
  have hc : ∀ j v, vs[j]? = some v → w.cell? ((⟨b, 0, none⟩ : Addr).add j) = some v := fun j v hv' => by rw [add_off]; exact (ptr_tri i hi).cell hS hv'
  have hr := run_loadCells_list (P := P) w ⟨b, 0, none⟩ vs hc
  simp [loadVar, hag, hsz, hr]
theorem sat_hd {c d : Chunk} (e : c = d) (h : Sat W w (c :: cs)) : Sat W w (d :: cs) := e ▸ h
theorem ints_len {xs : List Int} {n : Nat} (h : xs.length = n) : (xs.flatMap encI).length = n := by rw [flatMap_len (sz := 1) (fun _ => rfl), h, Nat.mul_one]
theorem ints_one {xs : List Int} : ∀ u ∈ xs.flatMap encI, u.oneCell' = true := by
  intro u hu
  obtain ⟨x, _, h⟩ := List.mem_flatMap.1 hu
  simp only [encI, List.mem_singleton] at h
  subst h; rfl
end
theorem p17_dist {p : Job} (hp : Job.Ok [H] p) (hb : p.inputs.n + p.stages.n ≤ 16) (hsr : ∀ z ∈ p.stages.l, ∀ x ∈ srcs z.v, 0 ≤ x ∧ x < 16) (hS : Sat W w (H :: F)) :
  Calls Try.prog 23 #[.agg (encJob p).toArray] w fun e w' => ∃ ds, e = .returned (.agg (ds.flatMap encI).toArray) ∧ MX (fwG (edgG p.inputs.n ((p.stages.l.map Stage.v).map srcs)) 16) ds ∧ Sat W w' (H :: F) := by
 have hl_p_inputs := hp.inputs.le; have hn_p_inputs := hp.inputs.len
 have hl_p_stages := hp.stages.le; have hn_p_stages := hp.stages.len
 have hl_p_outputs := hp.outputs.le; have hn_p_outputs := hp.outputs.len
 have hmi : (p.inputs.l.map Plane.v).length = p.inputs.n := by simp [hn_p_inputs]
 have hms : (p.stages.l.map Stage.v).length = p.stages.n := by simp [hn_p_stages]
 refine callsA 86 Try.func23 rfl ?_
 refine sR ?_
 refine sBox hS (.agg (encJob p).toArray) (encJob p).toArray ?_
 intro e0 _ z0
 refine sAlloc z0 Try.zeroValue65 ?_
 intro c0 _ a1
 have b1 : Sat W _ ((Tri c0 65 [] ((List.replicate 256 0).flatMap encI) []) :: [(e0, .cells (encJob p).toArray 28 (0, 0))] :: H :: F) := sat_hd kr a1
 refine nT <| sR ?_
 refine sAlloc b1 Try.zeroValue65 ?_
 intro a0 _ c1
 have d1 : Sat W _ ((Tri a0 65 [] ((List.replicate 256 0).flatMap encI) []) :: (Tri c0 65 [] ((List.replicate 256 0).flatMap encI) []) :: [(e0, .cells (encJob p).toArray 28 (0, 0))] :: H :: F) := sat_hd kr c1
 refine nT <| seqE <| sR <| pu1 <| nT <| blockE ?_
 refine loopA (γ := Nat × (List Int)) (fun ⟨a, ks⟩ => [(1, Pt e0 0), (2, Pt c0 0), (3, Pt a0 0), (14, I ((a : Nat) : Int))]) (fun ⟨a, ks⟩ w => Sat W w ((Tri a0 65 [] (ks.flatMap encI) []) :: (Tri c0 65 [] ((List.replicate 256 0).flatMap encI) []) :: [(e0, .cells (encJob p).toArray 28 (0, 0))] :: H :: F) ∧ a ≤ 16 ∧ (MP (fun _ _ => 0) (fun _ _ => 1000) a 0 ks)) (fun ⟨a, ks⟩ => 16 - a) (0, (List.replicate 256 0)) ⟨d1, om, MX.zero.start⟩ ?_
 rintro ⟨a, ks⟩ ρ _ ⟨l0, ha, hks⟩
 have hl_ks := hks.1
 refine sR <| pu1 <| nT <| seqE ?_
 refine cD (((a : Nat) : Int) < 16) (fun e1 => ?_) (fun e1 => ?_)
 ·refine kT <| seqE <| blockE <| sR <| pu2 <| nT <| sR <| pu1 <| nT <| blockE ?_
  refine loopA (γ := Nat × (List Int)) (fun ⟨b, ls⟩ => [(1, Pt e0 0), (2, Pt c0 0), (3, Pt a0 0), (14, I ((a : Nat) : Int)), (4, I ((a : Nat) : Int)), (17, I ((b : Nat) : Int))]) (fun ⟨b, ls⟩ w => Sat W w ((Tri a0 65 [] (ls.flatMap encI) []) :: (Tri c0 65 [] ((List.replicate 256 0).flatMap encI) []) :: [(e0, .cells (encJob p).toArray 28 (0, 0))] :: H :: F) ∧ b ≤ 16 ∧ (MP (fun _ _ => 0) (fun _ _ => 1000) a b ls)) (fun ⟨b, ls⟩ => 16 - b) (0, ks) ⟨l0, om, hks⟩ ?_
  rintro ⟨b, ls⟩ ρ _ ⟨u0, hb, hls⟩
  have hl_ls := hls.1
  refine sR <| pu1 <| nT <| seqE ?_
  refine cD (((b : Nat) : Int) < 16) (fun f1 => ?_) (fun f1 => ?_)
  rotate_left
  ·refine exitE <| xB <| blockK_n <| thenK_n <| regionE ?_
   refine sAdd ((a : Nat) : Int) 1 ?_
   refine pu1 <| nT ?_
   exact ⟨(a + 1, ls), od, alA, u0, om, (hls.row om)⟩
  refine kT <| seqE <| blockE <| sR <| pu2 <| nT <| regionE <| pu2 ?_
  refine sIdxA (b := a0) (off := 0) ((a : Nat) : Int) a Try.runUnderlying65 Try.sizeOf64 ?_
  obtain ⟨g1, h1⟩ := at_some hls.1 (k := (a * 16 + b)) om
  refine sIdxB (b := a0) (off := 0 + a * 16) ((b : Nat) : Int) b (0 + (a * 16 + b) * 1) Try.runUnderlying64 Try.sizeOf3 ?_
  refine sTel (enc := encI) (sz := 1) u0 fR 0 (a * 16 + b) 0 0 g1 1000 h1 (I 1000) [I 1000] Try.sizeOf3 ?_
  intro _ i1
  refine nB <| regionE ?_
  refine sAdd ((b : Nat) : Int) 1 ?_
  refine pu1 <| nT ?_
  exact ⟨(b + 1, (ls.set (a * 16 + b) 1000)), od, alA, i1, om, (hls.step om rfl)⟩
 refine exitE <| xB <| thenK_n <| sR <| pu1 ?_
 refine sL l0 2 0 (.slice p.inputs.a p.inputs.n p.inputs.k) (Try.isAgg25 _) ?_
 refine pu2 <| nT <| seqE <| sR <| pu1 ?_
 refine sL l0 2 1 (.slice p.stages.a p.stages.n p.stages.k) (Try.isAgg26 _) ?_
 refine pu2 <| nT <| blockE ?_
 refine loopA (γ := Nat × (List Int)) (fun ⟨i, ms_⟩ => [(2, Pt c0 0), (3, Pt a0 0), (6, I ((p.inputs.n : Nat) : Int)), (30, .slice p.stages.a p.stages.n p.stages.k), (31, I ((p.stages.n : Nat) : Int)), (32, I ((i : Nat) : Int))]) (fun ⟨i, ms_⟩ w => Sat W w ((Tri a0 65 [] (ms_.flatMap encI) []) :: (Tri c0 65 [] ((List.replicate 256 0).flatMap encI) []) :: [(e0, .cells (encJob p).toArray 28 (0, 0))] :: H :: F) ∧ i ≤ p.stages.n ∧ (MX (D0 p.inputs.n ((p.stages.l.map Stage.v).map srcs) i 0) ms_)) (fun ⟨i, ms_⟩ => p.stages.n - i) (0, ks) ⟨l0, om, (D0.start (hks.fin om))⟩ ?_
 rintro ⟨i, ms_⟩ ρ _ ⟨o0, hi, hms_⟩
 have hl_ms_ := hms_.1
 refine sR <| pu1 <| nT <| seqE ?_
 refine cD (((i : Nat) : Int) < ((p.stages.n : Nat) : Int)) (fun j1 => ?_) (fun j1 => ?_)
 ·refine kT <| seqE <| blockE <| sR <| pu1 ?_
  refine sIdx hp.stages ((i : Nat) : Int) Try.runUnderlying26 Try.sizeOf40 ?_
  intro b0 _ _ d0 k1
  rw [Int.toNat_natCast] at d0
  refine sLpA o0 (k1.up 3 rfl) 0 (encStage b0) (Try.isAgg40 _) (Try.sizeOf40 _) ?_
  refine sAlloc o0 Try.zeroValue40 ?_
  intro l1 _ m1
  refine pu1 ?_
  refine sT m1 0 0 (.agg (encStage b0).toArray) (encStage b0) (encStage b0).toArray Try.sizeOf40 ?_
  intro _ v0
  refine nT <| sR ?_
  refine lA v0 0 0 18 (Try.isAgg40 _) (Try.sizeOf40 _) ?_
  refine cX Try.call21 (p15_sources b0 ⟨(RdT.flat ((hp.stagesD b0 (List.mem_of_getElem? d0)).weights.up 4 (by rfl))), (RdT.flat ((hp.stagesD b0 (List.mem_of_getElem? d0)).row.up 4 (by rfl))), (RdT.flat ((hp.stagesD b0 (List.mem_of_getElem? d0)).col.up 4 (by rfl))), (RdT.flat ((hp.stagesD b0 (List.mem_of_getElem? d0)).x.up 4 (by rfl))), (fun z hz => ((hp.stagesD b0 (List.mem_of_getElem? d0)).xD z hz).of_mem (mem_flat1 4 (by rfl))), (RdT.flat ((hp.stagesD b0 (List.mem_of_getElem? d0)).y.up 4 (by rfl))), (fun z hz => ((hp.stagesD b0 (List.mem_of_getElem? d0)).yD z hz).of_mem (mem_flat1 4 (by rfl))), (RdT.flat ((hp.stagesD b0 (List.mem_of_getElem? d0)).ops.up 4 (by rfl)))⟩ (Sat.flat v0)) ?_
  rintro _ _ ⟨n1, j0, o1, p1, rfl, p0, q1⟩
  have r1 := Sat.unflat1 q1
  have hn_az_38 := p0.len; have hl_az_38 := p0.le
  have q2 : 1 ≤ (srcs b0.v).length ∧ (srcs b0.v).length ≤ 2 := srcs_len _
  refine pu2 <| nT <| blockE ?_
  refine loopA (γ := Nat × (List Int)) (fun ⟨k, ds⟩ => [(2, Pt c0 0), (3, Pt a0 0), (6, I ((p.inputs.n : Nat) : Int)), (30, .slice p.stages.a p.stages.n p.stages.k), (31, I ((p.stages.n : Nat) : Int)), (32, I ((i : Nat) : Int)), (7, I ((i : Nat) : Int)), (38, .slice n1 j0 o1), (39, I ((j0 : Nat) : Int)), (40, I ((k : Nat) : Int))]) (fun ⟨k, ds⟩ w => Sat W w (p1 :: [(l1, .cells (encStage b0).toArray 40 (0, 0))] :: (Tri a0 65 [] (ds.flatMap encI) []) :: (Tri c0 65 [] ((List.replicate 256 0).flatMap encI) []) :: [(e0, .cells (encJob p).toArray 28 (0, 0))] :: H :: F) ∧ k ≤ j0 ∧ (MX (D0 p.inputs.n ((p.stages.l.map Stage.v).map srcs) i k) ds)) (fun ⟨k, ds⟩ => j0 - k) (0, ms_) ⟨r1, om, hms_⟩ ?_
  rintro ⟨k, ds⟩ ρ _ ⟨q0, hk, hds⟩
  have hl_ds := hds.1
  refine sR <| pu1 <| nT <| seqE ?_
  refine cD (((k : Nat) : Int) < ((j0 : Nat) : Int)) (fun s1 => ?_) (fun s1 => ?_)
  rotate_left
  ·refine exitE <| xB <| blockK_n <| thenK_n <| regionE ?_
   refine sAdd ((i : Nat) : Int) 1 ?_
   refine pu1 <| nT ?_
   have t1 := (q0.drops [0, 0])
   exact ⟨(i + 1, ds), od, alA, t1, om, (D0.row hds (map_at (f := srcs) (map_at (f := Stage.v) d0)) om)⟩
  refine kT <| seqE <| blockE <| sR ?_
  refine sIdxO p0 ((k : Nat) : Int) k Try.runUnderlying22 Try.sizeOf3 ?_
  intro i0 _ _ w0 u1 _
  have hsx_x_47 := hsr b0 (List.mem_of_getElem? d0) i0 (List.mem_of_getElem? w0)
  refine sLp q0 (u1.up 0 rfl) 0 (I i0) (Try.isAgg3 _) ?_
  refine pu1 <| nT <| regionE <| pu2 ?_
  refine sAdd ((p.inputs.n : Nat) : Int) ((i : Nat) : Int) ?_
  refine pu1 ?_
  refine sIdxA (b := a0) (off := 0) (((p.inputs.n : Nat) : Int) + ((i : Nat) : Int)) ((((p.inputs.n : Nat) : Int) + ((i : Nat) : Int)).toNat) Try.runUnderlying65 Try.sizeOf64 ?_
  obtain ⟨v1, w1⟩ := at_some hds.1 (k := (((((p.inputs.n : Nat) : Int) + ((i : Nat) : Int)).toNat) * 16 + (i0.toNat))) om
  refine sIdxB (b := a0) (off := 0 + ((((p.inputs.n : Nat) : Int) + ((i : Nat) : Int)).toNat) * 16) i0 (i0.toNat) (0 + (((((p.inputs.n : Nat) : Int) + ((i : Nat) : Int)).toNat) * 16 + (i0.toNat)) * 1) Try.runUnderlying64 Try.sizeOf3 ?_
  refine sTel (enc := encI) (sz := 1) q0 fR 2 (((((p.inputs.n : Nat) : Int) + ((i : Nat) : Int)).toNat) * 16 + (i0.toNat)) 0 0 v1 1 w1 (I 1) [I 1] Try.sizeOf3 ?_
  intro _ x1
  refine nB <| regionE ?_
  refine sAdd ((k : Nat) : Int) 1 ?_
  refine pu1 <| nT ?_
  exact ⟨(k + 1, (ds.set (((((p.inputs.n : Nat) : Int) + ((i : Nat) : Int)).toNat) * 16 + (i0.toNat)) 1)), od, alA, x1, om, (D0.add hds (map_at (f := srcs) (map_at (f := Stage.v) d0)) w0 om om)⟩
 refine exitE <| xB <| thenK_n <| seqE <| sR <| pu1 <| nT <| blockE ?_
 refine loopA (γ := Nat × (List Int)) (fun ⟨z, ps⟩ => [(2, Pt c0 0), (3, Pt a0 0), (52, I ((z : Nat) : Int))]) (fun ⟨z, ps⟩ w => Sat W w ((Tri a0 65 [] (ps.flatMap encI) []) :: (Tri c0 65 [] ((List.replicate 256 0).flatMap encI) []) :: [(e0, .cells (encJob p).toArray 28 (0, 0))] :: H :: F) ∧ z ≤ 16 ∧ (MX (fwG (edgG p.inputs.n ((p.stages.l.map Stage.v).map srcs)) z) ps)) (fun ⟨z, ps⟩ => 16 - z) (0, ms_) ⟨o0, om, (D0.fin hms_ (by simp; omega))⟩ ?_
 rintro ⟨z, ps⟩ ρ _ ⟨r0, hz, hps⟩
 have hl_ps := hps.1
 refine sR <| pu1 <| nT <| seqE ?_
 refine cD (((z : Nat) : Int) < 16) (fun y1 => ?_) (fun y1 => ?_)
 rotate_left
 ·refine exitE <| xB <| thenK_n <| sR ?_
  refine sLT r0 0 (ints_len hps.1) (Try.isAgg65 _) (Try.sizeOf65 _) ?_
  refine sST r0 1 (ints_len (List.length_replicate (n := 256))) (ints_len hps.1) ints_one Try.sizeOf65 ?_
  intro _ x0
  refine nT <| retE <| retN (vs := [.agg (ps.flatMap encI).toArray]) rfl (.cons (.cell _ _ _ _ kr (lvT x0 1 (ints_len hps.1) (Try.isAgg65 _) (Try.sizeOf65 _) rfl)) .nil) ?_
  have z1 := (x0.drops [0, 0, 0])
  exact ⟨_, rfl, hps.fw16 om, z1⟩
 refine kT <| seqE <| blockE <| sR <| pu2 <| nT <| sR <| pu1 <| nT <| blockE ?_
 refine loopA (γ := Nat × (List Int)) (fun ⟨x, qs⟩ => [(2, Pt c0 0), (3, Pt a0 0), (52, I ((z : Nat) : Int)), (11, I ((z : Nat) : Int)), (55, I ((x : Nat) : Int))]) (fun ⟨x, qs⟩ w => Sat W w ((Tri a0 65 [] (qs.flatMap encI) []) :: (Tri c0 65 [] ((List.replicate 256 0).flatMap encI) []) :: [(e0, .cells (encJob p).toArray 28 (0, 0))] :: H :: F) ∧ x ≤ 16 ∧ (MP (fwG (edgG p.inputs.n ((p.stages.l.map Stage.v).map srcs)) z) (fwG (edgG p.inputs.n ((p.stages.l.map Stage.v).map srcs)) (z + 1)) x 0 qs)) (fun ⟨x, qs⟩ => 16 - x) (0, ps) ⟨r0, om, hps.start⟩ ?_
 rintro ⟨x, qs⟩ ρ _ ⟨y0, hx, hqs⟩
 have hl_qs := hqs.1
 refine sR <| pu1 <| nT <| seqE ?_
 refine cD (((x : Nat) : Int) < 16) (fun a2 => ?_) (fun a2 => ?_)
 rotate_left
 ·refine exitE <| xB <| blockK_n <| thenK_n <| regionE ?_
  refine sAdd ((z : Nat) : Int) 1 ?_
  refine pu1 <| nT ?_
  exact ⟨(z + 1, qs), od, alA, y0, om, (hqs.fin om)⟩
 refine kT <| seqE <| blockE <| sR <| pu2 <| nT <| sR <| pu1 <| nT <| blockE ?_
 refine loopA (γ := Nat × (List Int)) (fun ⟨y, rs⟩ => [(2, Pt c0 0), (3, Pt a0 0), (52, I ((z : Nat) : Int)), (11, I ((z : Nat) : Int)), (55, I ((x : Nat) : Int)), (12, I ((x : Nat) : Int)), (58, I ((y : Nat) : Int))]) (fun ⟨y, rs⟩ w => Sat W w ((Tri a0 65 [] (rs.flatMap encI) []) :: (Tri c0 65 [] ((List.replicate 256 0).flatMap encI) []) :: [(e0, .cells (encJob p).toArray 28 (0, 0))] :: H :: F) ∧ y ≤ 16 ∧ (MP (fwG (edgG p.inputs.n ((p.stages.l.map Stage.v).map srcs)) z) (fwG (edgG p.inputs.n ((p.stages.l.map Stage.v).map srcs)) (z + 1)) x y rs)) (fun ⟨y, rs⟩ => 16 - y) (0, qs) ⟨y0, om, hqs⟩ ?_
 rintro ⟨y, rs⟩ ρ _ ⟨k0, hy, hrs⟩
 have hl_rs := hrs.1
 refine sR <| pu1 <| nT <| seqE ?_
 refine cD (((y : Nat) : Int) < 16) (fun b2 => ?_) (fun b2 => ?_)
 rotate_left
 ·refine exitE <| xB <| blockK_n <| thenK_n <| regionE ?_
  refine sAdd ((x : Nat) : Int) 1 ?_
  refine pu1 <| nT ?_
  exact ⟨(x + 1, rs), od, alA, k0, om, (hrs.row om)⟩
 refine kT <| seqE <| blockE <| sR <| pu2 <| nT ?_
 obtain ⟨f0, m0⟩ := at_some hrs.1 (k := (x * 16 + y)) om
 have hb_x_67 := hrs.rng m0
 obtain ⟨g0, s0⟩ := at_some hrs.1 (k := (x * 16 + z)) om
 have hb_x_69 := hrs.rng s0
 obtain ⟨h0, t0⟩ := at_some hrs.1 (k := (z * 16 + y)) om
 have hb_x_71 := hrs.rng t0
 refine drawE [21] [(6, ⟨a0, 0 + (x * 16 + y) * 1, none⟩, I f0), (11, ⟨a0, 0 + (x * 16 + z) * 1, none⟩, I g0), (16, ⟨a0, 0 + (z * 16 + y) * 1, none⟩, I h0)] [(true, [0, 1, 2, 3]), (true, [4]), (true, [5]), (true, [7, 8]), (true, [9]), (true, [10]), (true, [12, 13]), (true, [14]), (true, [15]), (true, [19]), (true, [6]), (true, [11]), (true, [16]), (true, [17]), (true, [18]), (true, [20]), (false, [21])] rfl kr ⟨.inr (cell_up k0 0 rfl (k := 0) (tri_el (sz := 1) (n0 := 0) fR m0) rfl), .inr (cell_up k0 0 rfl (k := 0) (tri_el (sz := 1) (n0 := 0) fR s0) rfl), .inr (cell_up k0 0 rfl (k := 0) (tri_el (sz := 1) (n0 := 0) fR t0) rfl), trivial⟩ ?_
 have c2 := k0.drew
 refine wU [0, 1, 2, 3] ?_
 refine wY (.pointer (some ⟨a0, 0 + x * 16, none⟩)) rfl (fun w _ => Y_idxA (b := a0) (off := 0) ((x : Nat) : Int) x Try.runUnderlying65 Try.sizeOf64) ?_
 refine wY (.pointer (some ⟨a0, 0 + (x * 16 + y) * 1, none⟩)) rfl (fun w _ => Y_idxB (b := a0) (off := 0 + x * 16) ((y : Nat) : Int) y (0 + (x * 16 + y) * 1) Try.runUnderlying64 Try.sizeOf3) ?_
 refine wU [7, 8] ?_
 refine wY (.pointer (some ⟨a0, 0 + x * 16, none⟩)) rfl (fun w _ => Y_idxA (b := a0) (off := 0) ((x : Nat) : Int) x Try.runUnderlying65 Try.sizeOf64) ?_
 refine wY (.pointer (some ⟨a0, 0 + (x * 16 + z) * 1, none⟩)) rfl (fun w _ => Y_idxB (b := a0) (off := 0 + x * 16) ((z : Nat) : Int) z (0 + (x * 16 + z) * 1) Try.runUnderlying64 Try.sizeOf3) ?_
 refine wU [12, 13] ?_
 refine wY (.pointer (some ⟨a0, 0 + z * 16, none⟩)) rfl (fun w _ => Y_idxA (b := a0) (off := 0) ((z : Nat) : Int) z Try.runUnderlying65 Try.sizeOf64) ?_
 refine wY (.pointer (some ⟨a0, 0 + (z * 16 + y) * 1, none⟩)) rfl (fun w _ => Y_idxB (b := a0) (off := 0 + z * 16) ((y : Nat) : Int) y (0 + (z * 16 + y) * 1) Try.runUnderlying64 Try.sizeOf3) ?_
 refine wY (.pointer (some ⟨a0, 0 + x * 16, none⟩)) rfl (fun w _ => Y_idxA (b := a0) (off := 0) ((x : Nat) : Int) x Try.runUnderlying65 Try.sizeOf64) ?_
 refine wLd (I f0) 0 Try.isAgg3 ?_
 refine wLd (I g0) 1 Try.isAgg3 ?_
 refine wLd (I h0) 2 Try.isAgg3 ?_
 refine wAdd g0 h0 ?_
 refine wY (I (min f0 (g0 + h0))) rfl (fun w _ => Y_min2 f0 (g0 + h0) rfl rfl kr kr) ?_
 refine wY (.pointer (some ⟨a0, 0 + (x * 16 + y) * 1, none⟩)) rfl (fun w _ => Y_idxB (b := a0) (off := 0 + x * 16) ((y : Nat) : Int) y (0 + (x * 16 + y) * 1) Try.runUnderlying64 Try.sizeOf3) ?_
 refine wO rfl ?_
 refine sTel (enc := encI) (sz := 1) c2 fR 0 (x * 16 + y) 0 0 f0 (min f0 (g0 + h0)) m0 (I (min f0 (g0 + h0))) [I (min f0 (g0 + h0))] Try.sizeOf3 ?_
 intro _ d2
 refine nilO ⟨dA, ?_⟩
 refine wN ?_
 refine blockK_n <| thenK_n <| regionE ?_
 refine sAdd ((y : Nat) : Int) 1 ?_
 refine pu1 <| nT ?_
 exact ⟨(y + 1, (rs.set (x * 16 + y) (min f0 (g0 + h0)))), od, alA, d2, om, (hrs.fw om om om m0 s0 t0)⟩
end Go.Proofs.Ytbofcpnngniopaa

namespace Go.Proofs.Ytbofcpnngniopaa
open Go Go.E
set_option linter.unusedVariables false
set_option linter.unusedSimpArgs false
set_option linter.unnecessarySimpa false
set_option maxRecDepth 100000
set_option maxHeartbeats 2000000
variable {W w : World} {H : Chunk} {F : List Chunk}
theorem s_nan (x : Int) (hS : Sat W w (H :: F)) :
    Ro Try.prog 59 #[.int .i64 x] (.bool false) W w (H :: F) := by
  refine callsA 6 Try.func59 rfl ?_
  refine seqE <| regionE <| pu1 <| nilO <| thenK_n <| seqE <| regionE <| pu4 <| nilO <| thenK_n <| retE <| retT [.bool ((x : Int) != x)] <| ?_
  exact ⟨congrArg (fun b => Ending.returned (.bool b)) (by simp), hS⟩
theorem s_less (x : Int) (y : Int) (hS : Sat W w (H :: F)) :
    Ro Try.prog 42 #[.int .i64 x, .int .i64 y] (.bool (decide ((x : Int) < y))) W w (H :: F) := by
  refine callsA 17 Try.func42 rfl ?_
  refine seqE <| regionE <| pu1 <| nilO <| thenK_n <| seqE <| regionE <| pu1 ?_
  refine cR Try.call59 (s_nan x (Sat.flat hS)) ?_
  intro w_1 hS_2
  refine pu11 <| nilO <| thenK_n <| retE <| retT [.bool (decide ((x : Int) < y))] <| ?_
  exact ⟨rfl, hS_2⟩
theorem s_len64 {cs : List Chunk} (x : Int) (hx : 0 ≤ x ∧ x < 18446744073709551616) (hS : Sat W w cs) :
  Calls Try.prog 46 #[.int .u64 x] w fun e w' => ∃ r : Int, e = .returned (I r) ∧ (0 ≤ r ∧ r ≤ 400) ∧ Sat W w' cs := by
 refine callsA 25 Try.func46 rfl ?_
 refine sR <| pu1 <| nT <| seqE <| sR <| pu2 <| nT ?_
 refine cD (x ≥ 4294967296) (fun i0 => ?_) (fun i0 => ?_)
 rotate_left
 ·refine kT <| seqE <| sR <| pu2 <| nT ?_
  refine cD (x ≥ 65536) (fun j0 => ?_) (fun j0 => ?_)
  rotate_left
  ·refine kT <| seqE <| sR <| pu2 <| nT ?_
   refine cD (x ≥ 256) (fun k0 => ?_) (fun k0 => ?_)
   rotate_left
   ·refine kT <| sR <| pu2 ?_
    refine stepY (.int .u8 (x % 256)) rfl rfl (Y_conv (k := .u64) (a := x) Try.underlying89 Try.underlying5 (wrap_u8 _) rfl kr) ?_
    refine sStrIdx (k := .u8) (x % 256) Try.underlying9 ?_
    intro a0 _
    refine stepY (I a0) rfl rfl (Y_conv (k := .u8) (a := a0) Try.underlying5 Try.underlying3 (wrapIn_i64 _ om) rfl kr) ?_
    refine sAdd 0 a0 ?_
    refine pu1 <| nT <| retE <| retT [I (0 + a0)] ?_
    exact ⟨_, rfl, om, hS⟩
   refine sR <| pu1 ?_
   refine stepY (.int .u64 (x / 256)) rfl rfl (Y_shr .u64 .u64 x 8 256 rfl kr kr (by decide) (by decide)) ?_
   refine pu1 <| nT <| regionE <| pu3 <| nT <| sR <| pu2 ?_
   refine stepY (.int .u8 ((x / 256) % 256)) rfl rfl (Y_conv (k := .u64) (a := (x / 256)) Try.underlying89 Try.underlying5 (wrap_u8 _) rfl kr) ?_
   refine sStrIdx (k := .u8) ((x / 256) % 256) Try.underlying9 ?_
   intro b0 _
   refine stepY (I b0) rfl rfl (Y_conv (k := .u8) (a := b0) Try.underlying5 Try.underlying3 (wrapIn_i64 _ om) rfl kr) ?_
   refine sAdd 8 b0 ?_
   refine pu1 <| nT <| retE <| retT [I (8 + b0)] ?_
   exact ⟨_, rfl, om, hS⟩
  refine sR <| pu1 ?_
  refine stepY (.int .u64 (x / 65536)) rfl rfl (Y_shr .u64 .u64 x 16 65536 rfl kr kr (by decide) (by decide)) ?_
  refine pu1 <| nT <| regionE <| pu3 <| nT <| seqE <| sR <| pu2 <| nT ?_
  refine cD ((x / 65536) ≥ 256) (fun l0 => ?_) (fun l0 => ?_)
  rotate_left
  ·refine kT <| sR <| pu2 ?_
   refine stepY (.int .u8 ((x / 65536) % 256)) rfl rfl (Y_conv (k := .u64) (a := (x / 65536)) Try.underlying89 Try.underlying5 (wrap_u8 _) rfl kr) ?_
   refine sStrIdx (k := .u8) ((x / 65536) % 256) Try.underlying9 ?_
   intro c0 _
   refine stepY (I c0) rfl rfl (Y_conv (k := .u8) (a := c0) Try.underlying5 Try.underlying3 (wrapIn_i64 _ om) rfl kr) ?_
   refine sAdd 16 c0 ?_
   refine pu1 <| nT <| retE <| retT [I (16 + c0)] ?_
   exact ⟨_, rfl, om, hS⟩
  refine sR <| pu1 ?_
  refine stepY (.int .u64 ((x / 65536) / 256)) rfl rfl (Y_shr .u64 .u64 (x / 65536) 8 256 rfl kr kr (by decide) (by decide)) ?_
  refine pu1 <| nT <| regionE <| pu3 <| nT <| sR <| pu2 ?_
  refine stepY (.int .u8 (((x / 65536) / 256) % 256)) rfl rfl (Y_conv (k := .u64) (a := ((x / 65536) / 256)) Try.underlying89 Try.underlying5 (wrap_u8 _) rfl kr) ?_
  refine sStrIdx (k := .u8) (((x / 65536) / 256) % 256) Try.underlying9 ?_
  intro d0 _
  refine stepY (I d0) rfl rfl (Y_conv (k := .u8) (a := d0) Try.underlying5 Try.underlying3 (wrapIn_i64 _ om) rfl kr) ?_
  refine sAdd 24 d0 ?_
  refine pu1 <| nT <| retE <| retT [I (24 + d0)] ?_
  exact ⟨_, rfl, om, hS⟩
 refine sR <| pu1 ?_
 refine stepY (.int .u64 (x / 4294967296)) rfl rfl (Y_shr .u64 .u64 x 32 4294967296 rfl kr kr (by decide) (by decide)) ?_
 refine pu1 <| nT <| regionE <| pu1 <| nT <| seqE <| sR <| pu2 <| nT ?_
 refine cD ((x / 4294967296) ≥ 65536) (fun m0 => ?_) (fun m0 => ?_)
 rotate_left
 ·refine kT <| seqE <| sR <| pu2 <| nT ?_
  refine cD ((x / 4294967296) ≥ 256) (fun n0 => ?_) (fun n0 => ?_)
  rotate_left
  ·refine kT <| sR <| pu2 ?_
   refine stepY (.int .u8 ((x / 4294967296) % 256)) rfl rfl (Y_conv (k := .u64) (a := (x / 4294967296)) Try.underlying89 Try.underlying5 (wrap_u8 _) rfl kr) ?_
   refine sStrIdx (k := .u8) ((x / 4294967296) % 256) Try.underlying9 ?_
   intro e0 _
   refine stepY (I e0) rfl rfl (Y_conv (k := .u8) (a := e0) Try.underlying5 Try.underlying3 (wrapIn_i64 _ om) rfl kr) ?_
   refine sAdd 32 e0 ?_
   refine pu1 <| nT <| retE <| retT [I (32 + e0)] ?_
   exact ⟨_, rfl, om, hS⟩
  refine sR <| pu1 ?_
  refine stepY (.int .u64 ((x / 4294967296) / 256)) rfl rfl (Y_shr .u64 .u64 (x / 4294967296) 8 256 rfl kr kr (by decide) (by decide)) ?_
  refine pu1 <| nT <| regionE <| pu3 <| nT <| sR <| pu2 ?_
  refine stepY (.int .u8 (((x / 4294967296) / 256) % 256)) rfl rfl (Y_conv (k := .u64) (a := ((x / 4294967296) / 256)) Try.underlying89 Try.underlying5 (wrap_u8 _) rfl kr) ?_
  refine sStrIdx (k := .u8) (((x / 4294967296) / 256) % 256) Try.underlying9 ?_
  intro f0 _
  refine stepY (I f0) rfl rfl (Y_conv (k := .u8) (a := f0) Try.underlying5 Try.underlying3 (wrapIn_i64 _ om) rfl kr) ?_
  refine sAdd 40 f0 ?_
  refine pu1 <| nT <| retE <| retT [I (40 + f0)] ?_
  exact ⟨_, rfl, om, hS⟩
 refine sR <| pu1 ?_
 refine stepY (.int .u64 ((x / 4294967296) / 65536)) rfl rfl (Y_shr .u64 .u64 (x / 4294967296) 16 65536 rfl kr kr (by decide) (by decide)) ?_
 refine pu1 <| nT <| regionE <| pu3 <| nT <| seqE <| sR <| pu2 <| nT ?_
 refine cD (((x / 4294967296) / 65536) ≥ 256) (fun o0 => ?_) (fun o0 => ?_)
 rotate_left
 ·refine kT <| sR <| pu2 ?_
  refine stepY (.int .u8 (((x / 4294967296) / 65536) % 256)) rfl rfl (Y_conv (k := .u64) (a := ((x / 4294967296) / 65536)) Try.underlying89 Try.underlying5 (wrap_u8 _) rfl kr) ?_
  refine sStrIdx (k := .u8) (((x / 4294967296) / 65536) % 256) Try.underlying9 ?_
  intro g0 _
  refine stepY (I g0) rfl rfl (Y_conv (k := .u8) (a := g0) Try.underlying5 Try.underlying3 (wrapIn_i64 _ om) rfl kr) ?_
  refine sAdd 48 g0 ?_
  refine pu1 <| nT <| retE <| retT [I (48 + g0)] ?_
  exact ⟨_, rfl, om, hS⟩
 refine sR <| pu1 ?_
 refine stepY (.int .u64 (((x / 4294967296) / 65536) / 256)) rfl rfl (Y_shr .u64 .u64 ((x / 4294967296) / 65536) 8 256 rfl kr kr (by decide) (by decide)) ?_
 refine pu1 <| nT <| regionE <| pu3 <| nT <| sR <| pu2 ?_
 refine stepY (.int .u8 ((((x / 4294967296) / 65536) / 256) % 256)) rfl rfl (Y_conv (k := .u64) (a := (((x / 4294967296) / 65536) / 256)) Try.underlying89 Try.underlying5 (wrap_u8 _) rfl kr) ?_
 refine sStrIdx (k := .u8) ((((x / 4294967296) / 65536) / 256) % 256) Try.underlying9 ?_
 intro h0 _
 refine stepY (I h0) rfl rfl (Y_conv (k := .u8) (a := h0) Try.underlying5 Try.underlying3 (wrapIn_i64 _ om) rfl kr) ?_
 refine sAdd 56 h0 ?_
 refine pu1 <| nT <| retE <| retT [I (56 + h0)] ?_
 exact ⟨_, rfl, om, hS⟩
theorem s_len {cs : List Chunk} (x : Int) (hx : 0 ≤ x ∧ x < 18446744073709551616) (hS : Sat W w cs) :
  Calls Try.prog 29 #[.int .u64 x] w fun e w' => ∃ r : Int, e = .returned (I r) ∧ (0 ≤ r ∧ r ≤ 400) ∧ Sat W w' cs := by
 refine callsA 8 Try.func29 rfl ?_
 refine sR <| pu1 <| nT <| seqE <| cFf <| kT <| sR <| pu1 ?_
 refine cX Try.call46 (s_len64 x om hS) ?_
 rintro _ _ ⟨a0, rfl, _, b0⟩
 refine pu1 <| nT <| retE <| retT [I a0] ?_
 exact ⟨_, rfl, om, b0⟩
end Go.Proofs.Ytbofcpnngniopaa

namespace Go.Proofs.Ytbofcpnngniopaa
open Go Go.E
set_option linter.unusedVariables false
set_option linter.unusedSimpArgs false
set_option linter.unnecessarySimpa false
set_option maxRecDepth 100000
set_option maxHeartbeats 2000000
variable {W w : World} {H : Chunk} {F : List Chunk}
/-- Ascending up to place i. -/
def SortTo (zs : List Int) (i : Nat) : Prop := ∀ (p q : Nat) (u v : Int), p < q → q < i → zs[p]? = some u → zs[q]? = some v → u ≤ v
def InsI (ys : List Int) (i j : Nat) : Prop := ∀ (p q : Nat) (u v : Int), p < q → q ≤ i → q ≠ j → ys[p]? = some u → ys[q]? = some v → u ≤ v
theorem SortTo.one (zs : List Int) {i : Nat} (h : i ≤ 1) : SortTo zs i := fun p q u v h1 h2 => by omega
theorem SortTo.ins {zs : List Int} {i : Nat} (h : SortTo zs i) : InsI zs i i := fun p q u v h1 h2 h3 => h p q u v h1 (by omega)
theorem InsI.zero {ys : List Int} {i j : Nat} (h : InsI ys i j) (hj : j = 0) : SortTo ys (i + 1) := fun p q u v h1 h2 => h p q u v h1 (by omega) (by omega)
theorem InsI.done {ys : List Int} {i j : Nat} {a b : Int} (h : InsI ys i j) (hj : 0 < j) (ha : ys[j - 1]? = some a) (hb : ys[j]? = some b) (hab : a ≤ b) : SortTo ys (i + 1) := by
  intro p q u v h1 h2 hu hv
  by_cases e : q = j
  · subst e
    rw [hb] at hv; obtain rfl := Option.some.inj hv
    by_cases e2 : p = q - 1
    · subst e2; rw [ha] at hu; obtain rfl := Option.some.inj hu; exact hab
    · exact Int.le_trans (h p (q - 1) u a (by omega) (by omega) (by omega) hu ha) hab
  · exact h p q u v h1 (by omega) e hu hv
theorem adj {ys : List Int} {j : Nat} {a b : Int} (hj : 0 < j) (ha : ys[j - 1]? = some a) (hb : ys[j]? = some b) : ∃ A B, ys = A ++ a :: b :: B ∧ A.length = j - 1 := by
  obtain ⟨h1, e1⟩ := List.getElem?_eq_some_iff.1 ha
  obtain ⟨h2, e2⟩ := List.getElem?_eq_some_iff.1 hb
  refine ⟨ys.take (j - 1), ys.drop (j + 1), ?_, by rw [List.length_take]; omega⟩
  have d1 : ys.drop (j - 1) = a :: ys.drop j := by rw [List.drop_eq_getElem_cons h1, e1, show j - 1 + 1 = j by omega]
  have d2 : ys.drop j = b :: ys.drop (j + 1) := by rw [List.drop_eq_getElem_cons h2, e2]
  rw [← d2, ← d1, List.take_append_drop]
theorem swap_eq {A B : List Int} {a b : Int} {j : Nat} (hj : 0 < j) (hA : A.length = j - 1) : ((A ++ a :: b :: B).set j a).set (j - 1) b = A ++ b :: a :: B := by
  rw [List.set_append_right _ _ (by omega), List.set_append_right _ _ (by omega), hA, Nat.sub_self, show j - (j - 1) = 1 by omega]; rfl
theorem swap_perm {ys : List Int} {j : Nat} {a b : Int} (hj : 0 < j) (ha : ys[j - 1]? = some a) (hb : ys[j]? = some b) : ((ys.set j a).set (j - 1) b).Perm ys := by
  obtain ⟨A, B, rfl, hA⟩ := adj hj ha hb
  rw [swap_eq hj hA]
  exact List.Perm.append_left A (List.Perm.swap a b B)
theorem InsI.swap {ys : List Int} {i j : Nat} {a b : Int} (h : InsI ys i j) (hj : 0 < j) (hji : j ≤ i) (ha : ys[j - 1]? = some a) (hb : ys[j]? = some b) (hab : b < a) : InsI ((ys.set j a).set (j - 1) b) i (j - 1) := by
 have hlj := (List.getElem?_eq_some_iff.1 hb).1
 intro p q u v h1 h2 h3 hu hv
 have get : ∀ k w, ((ys.set j a).set (j - 1) b)[k]? = some w → (k = j - 1 ∧ w = b) ∨ (k = j ∧ w = a) ∨ (k ≠ j ∧ k ≠ j - 1 ∧ ys[k]? = some w) := by
  intro k w hw
  rw [List.getElem?_set, List.length_set] at hw
  by_cases e : j - 1 = k
  ·rw [if_pos e, if_pos om] at hw; exact .inl ⟨e.symm, (Option.some.inj hw).symm⟩
  ·rw [if_neg e, List.getElem?_set] at hw
   by_cases e2 : j = k
   ·rw [if_pos e2, if_pos om] at hw; exact .inr (.inl ⟨e2.symm, (Option.some.inj hw).symm⟩)
   ·rw [if_neg e2] at hw; exact .inr (.inr ⟨fun z => e2 z.symm, fun z => e z.symm, hw⟩)
 rcases get q v hv with ⟨rfl, rfl⟩ | ⟨rfl, rfl⟩ | ⟨q1, q2, hq⟩
 ·exact absurd rfl h3
 ·rcases get p u hu with ⟨rfl, rfl⟩ | ⟨rfl, _⟩ | ⟨p1, p2, hp⟩
  ·omega
  ·omega
  ·exact h p (q - 1) u v om om om hp ha
 ·rcases get p u hu with ⟨rfl, rfl⟩ | ⟨rfl, rfl⟩ | ⟨p1, p2, hp⟩
  ·exact h j q u v om h2 q1 hb hq
  ·exact h (p - 1) q u v om h2 q1 ha hq
  ·exact h p q u v h1 h2 q1 hp hq
theorem q_ins {a : Option Addr} {n k : Nat} {xs : List Int} {c : Chunk} {F : List Chunk} (hO : OwnT encI 3 1 a n k xs c) (hS : Sat W w (c :: F)) :
  Calls Try.prog 36 #[.slice a n k, I 0, I ((n : Nat) : Int)] w fun e w' => ∃ (ys : List Int) (c' : Chunk), e = .returned (.tuple #[]) ∧ OwnT encI 3 1 a n k ys c' ∧ ys.Perm xs ∧ SortTo ys ys.length ∧ Sat W w' (c' :: F) := by
 have hn := hO.len; have hl := hO.le
 refine callsA 49 Try.func36 rfl ?_
 refine sR <| pu3 <| nT <| blockE ?_
 refine loopA (γ := Nat × (List Int) × Chunk) (fun ⟨i, zs, C⟩ => [(0, .slice a n k), (1, I 0), (2, I ((n : Nat) : Int)), (6, I ((i : Nat) : Int))]) (fun ⟨i, zs, C⟩ w => Sat W w (C :: F) ∧ (1 ≤ i ∧ i ≤ max n 1) ∧ OwnT encI 3 1 a n k zs C ∧ zs.Perm xs ∧ SortTo zs i) (fun ⟨i, zs, C⟩ => n - i) (1, xs, c) ⟨hS, om, hO, (List.Perm.refl _), (SortTo.one _ (Nat.le_refl 1))⟩ ?_
 rintro ⟨i, zs, C⟩ ρ _ ⟨k0, hi, hOz, hPz, hSz⟩
 refine seqE <| sR <| pu3 <| nT ?_
 refine cD (((i : Nat) : Int) < ((n : Nat) : Int)) (fun v0 => ?_) (fun v0 => ?_)
 rotate_left
 ·refine exitE <| xB ?_
  refine ret0n rfl ?_
  have hnz := hOz.len
  exact ⟨zs, C, rfl, hOz, hPz, (by by_cases h1 : n ≤ 1; exact SortTo.one _ om; rw [show zs.length = i by omega]; exact hSz), k0⟩
 refine kT <| seqE <| blockE <| sR <| pu2 <| nT <| blockE ?_
 refine loopA (γ := Nat × Int × (List Int) × Chunk) (fun ⟨j, jj, ys, D⟩ => [(0, .slice a n k), (1, I 0), (2, I ((n : Nat) : Int)), (6, I ((i : Nat) : Int)), (7, I jj)]) (fun ⟨j, jj, ys, D⟩ w => Sat W w (D :: F) ∧ (j ≤ i ∧ jj = ((j : Nat) : Int)) ∧ OwnT encI 3 1 a n k ys D ∧ ys.Perm xs ∧ InsI ys i j) (fun ⟨j, jj, ys, D⟩ => j) (i, ((i : Nat) : Int), zs, C) ⟨k0, ⟨Nat.le_refl i, rfl⟩, hOz, hPz, hSz.ins⟩ ?_
 rintro ⟨j, jj, ys, D⟩ ρ _ ⟨c0, hji, hOy, hPy, hIj⟩
 refine seqE <| seqE ?_
 by_cases l0 : (jj : Int) > 0
 rotate_left
 ·refine drawE [13] [] [(true, [0, 1, 2, 3]), (true, [4, 5, 6, 8, 9, 10, 11, 7, 12]), (false, [13]), (true, [14])] rfl kr trivial ?_
  have w0 := c0.drew
  refine wU [0, 1, 2, 3] ?_
  refine wFix 19 _ false (decide_eq_false l0) ?_
  refine wU [4, 5, 6, 8, 9, 10, 11, 7, 12] ?_
  refine wO rfl ?_
  refine pu1 ?_
  refine nilO ⟨trivial, ?_⟩
  refine wU [14] ?_
  refine wN ?_
  refine thenK_n <| cFf <| exitE <| xB <| blockK_n <| thenK_n <| regionE <| pu1 ?_
  refine sAdd ((i : Nat) : Int) 1 ?_
  refine pu1 <| nT ?_
  exact ⟨(i + 1, ys, D), od, alA, w0, om, hOy, hPy, (hIj.zero om)⟩
 obtain ⟨b0, m0, n0, e0, x0, y0, s1⟩ := OwnT.elem hOy jj
 obtain ⟨a0, o0, p0, f0, z0, a1, t1⟩ := OwnT.elem hOy (jj - 1)
 refine drawE [13] [(7, ⟨m0, n0 + (jj).toNat * 1, none⟩, I b0), (12, ⟨o0, p0 + ((jj - 1)).toNat * 1, none⟩, I a0)] [(true, [0, 1, 2, 3]), (true, [4, 5]), (true, [6]), (true, [8, 9]), (true, [10]), (true, [11]), (true, [7]), (true, [12]), (false, [13]), (true, [14])] rfl kr ⟨.inr ((x0.up 0 rfl).cell c0 (k := 0) rfl), .inr ((z0.up 0 rfl).cell c0 (k := 0) rfl), trivial⟩ ?_
 have b1 := c0.drew
 refine wU [0, 1, 2, 3] ?_
 refine wFix 19 _ true (decide_eq_true l0) ?_
 refine wU [4, 5] ?_
 refine wY (.pointer (some ⟨m0, n0 + (jj).toNat * 1, none⟩)) rfl (fun w _ => Y_idx (a := a) (i := jj) (len := n) (cap := k) rfl Try.runUnderlying22 Try.sizeOf3 kr kr y0) ?_
 refine wU [8, 9] ?_
 refine wSub jj 1 ?_
 refine wY (.pointer (some ⟨o0, p0 + ((jj - 1)).toNat * 1, none⟩)) rfl (fun w _ => Y_idx (a := a) (i := (jj - 1)) (len := n) (cap := k) rfl Try.runUnderlying22 Try.sizeOf3 kr kr a1) ?_
 refine wLd (I b0) 0 Try.isAgg3 ?_
 refine wLd (I a0) 1 Try.isAgg3 ?_
 refine wO rfl ?_
 refine gY ?_
 refine cR Try.call42 (s_less b0 a0 (Sat.flat b1)) ?_
 intro _ d0
 refine nilO ⟨dA, ?_⟩
 refine wU [14] ?_
 refine wN ?_
 refine thenK_n ?_
 refine cD (b0 < a0) (fun c1 => ?_) (fun c1 => ?_)
 rotate_left
 ·refine exitE <| xB <| blockK_n <| thenK_n <| regionE <| pu1 ?_
  refine sAdd ((i : Nat) : Int) 1 ?_
  refine pu1 <| nT ?_
  have ha9 : ys[j - 1]? = some a0 := by rw [show j - 1 = (jj - 1).toNat by omega]; exact f0
  have hb9 : ys[j]? = some b0 := by rw [show j = jj.toNat by omega]; exact e0
  exact ⟨(i + 1, ys, D), od, alA, d0, om, hOy, hPy, (hIj.done om ha9 hb9 om)⟩
 refine kT <| seqE <| blockE ?_
 obtain ⟨d1, g0, h0, q0, e1, r0, f1⟩ := OwnT.elem hOy (jj - 1)
 obtain rfl : a0 = d1 := Option.some.inj (f0.symm.trans q0)
 obtain ⟨g1, i0, j0, s0, i1, t0, j1⟩ := OwnT.elem hOy jj
 obtain rfl : b0 = g1 := Option.some.inj (e0.symm.trans s0)
 refine drawE [15, 17] [(9, ⟨g0, h0 + ((jj - 1)).toNat * 1, none⟩, I a0), (13, ⟨i0, j0 + (jj).toNat * 1, none⟩, I b0)] [(true, [0, 1, 2, 3]), (true, [4]), (true, [5, 6]), (true, [7]), (true, [8]), (true, [10, 11]), (true, [12]), (true, [9]), (true, [13]), (true, [14]), (false, [15]), (true, [16]), (false, [17])] rfl kr ⟨.inr ((e1.up 0 rfl).cell d0 (k := 0) rfl), .inr ((i1.up 0 rfl).cell d0 (k := 0) rfl), trivial⟩ ?_
 have k1 := d0.drew
 refine wU [0, 1, 2, 3] ?_
 refine wSub jj 1 ?_
 refine wU [5, 6] ?_
 refine wSub jj 1 ?_
 refine wY (.pointer (some ⟨g0, h0 + ((jj - 1)).toNat * 1, none⟩)) rfl (fun w _ => Y_idx (a := a) (i := (jj - 1)) (len := n) (cap := k) rfl Try.runUnderlying22 Try.sizeOf3 kr kr r0) ?_
 refine wU [10, 11] ?_
 refine wY (.pointer (some ⟨i0, j0 + (jj).toNat * 1, none⟩)) rfl (fun w _ => Y_idx (a := a) (i := jj) (len := n) (cap := k) rfl Try.runUnderlying22 Try.sizeOf3 kr kr t0) ?_
 refine wLd (I a0) 0 Try.isAgg3 ?_
 refine wLd (I b0) 1 Try.isAgg3 ?_
 refine wY (.pointer (some ⟨i0, j0 + (jj).toNat * 1, none⟩)) rfl (fun w _ => Y_idx (a := a) (i := jj) (len := n) (cap := k) rfl Try.runUnderlying22 Try.sizeOf3 kr kr t0) ?_
 refine wO rfl ?_
 refine sStF k1 hOy j1 0 (jj).toNat 0 b0 a0 s0 (I a0) [I a0] Try.sizeOf3 ?_
 intro _ _ l1 m1
 refine nilO ⟨dA, ?_⟩
 refine wY (.pointer (some ⟨g0, h0 + ((jj - 1)).toNat * 1, none⟩)) rfl (fun w _ => Y_idx (a := a) (i := (jj - 1)) (len := n) (cap := k) rfl Try.runUnderlying22 Try.sizeOf3 kr kr r0) ?_
 refine wO rfl ?_
 have n1 : (ys.set ((jj).toNat) a0)[((jj - 1)).toNat]? = some a0 := by rw [List.getElem?_set, if_neg om]; exact q0
 refine sStF m1 l1 f1 0 ((jj - 1)).toNat 0 a0 b0 n1 (I b0) [I b0] Try.sizeOf3 ?_
 intro _ u0 o1 p1
 refine nilO ⟨dA, ?_⟩
 refine wN ?_
 refine blockK_n <| thenK_n <| regionE <| pu1 ?_
 refine sSub jj 1 ?_
 refine pu1 <| nT ?_
 have ha9 : ys[j - 1]? = some a0 := by rw [show j - 1 = (jj - 1).toNat by omega]; exact f0
 have hb9 : ys[j]? = some b0 := by rw [show j = jj.toNat by omega]; exact e0
 have hO9 : OwnT encI 3 1 a n k ((ys.set j a0).set (j - 1) b0) u0 := by rw [show j - 1 = (jj - 1).toNat by omega, show j = jj.toNat by omega]; exact o1
 exact ⟨((j - 1), (jj - 1), ((ys.set j a0).set (j - 1) b0), u0), od, alA, p1, ⟨om, om⟩, hO9, ((swap_perm om ha9 hb9).trans hPy), (hIj.swap om hji.1 ha9 hb9 om)⟩
theorem q_pdq {a : Option Addr} {n k : Nat} {xs : List Int} {c : Chunk} {F : List Chunk} (hO : OwnT encI 3 1 a n k xs c) (m : Int) (h12 : n ≤ 12) (hS : Sat W w (c :: F)) :
  Calls Try.prog 28 #[.slice a n k, I 0, I ((n : Nat) : Int), I m] w fun e w' => ∃ (ys : List Int) (c' : Chunk), e = .returned (.tuple #[]) ∧ OwnT encI 3 1 a n k ys c' ∧ ys.Perm xs ∧ SortTo ys ys.length ∧ Sat W w' (c' :: F) := by
 have hn := hO.len; have hl := hO.le
 refine callsA 134 Try.func28 rfl ?_
 refine sR <| pu1 <| nT <| sR <| pu1 <| nT <| blockE ?_
 refine loopN 1 ?_
 refine roundS ?_
 refine blockE <| sR <| pu2 ?_
 refine sSub ((n : Nat) : Int) 0 ?_
 refine pu1 <| nT <| seqE <| sR <| pu2 <| nT ?_
 have a0 : ((((n : Nat) : Int) - 0) : Int) ≤ 12 := by omega
 refine cT _ (decide_eq_true a0) ?_
 refine sR <| pu3 ?_
 refine cX Try.call36 (q_ins hO  hS) ?_
 rintro _ _ ⟨_, _, rfl, b0, c0, d0, e0⟩
 refine nT <| retE <| tR <| tR ?_
 refine ret0 rfl ?_
 exact ⟨_, _, rfl, b0, c0, d0, e0⟩
theorem q_sort {a : Option Addr} {n k : Nat} {xs : List Int} {c : Chunk} {F : List Chunk} (hO : OwnT encI 3 1 a n k xs c) (h12 : n ≤ 12) (hS : Sat W w (c :: F)) :
  Calls Try.prog 24 #[.slice a n k] w fun e w' => ∃ (ys : List Int) (c' : Chunk), e = .returned (.tuple #[]) ∧ OwnT encI 3 1 a n k ys c' ∧ ys.Perm xs ∧ SortTo ys ys.length ∧ Sat W w' (c' :: F) := by
 have hn := hO.len; have hl := hO.le
 refine callsA 11 Try.func24 rfl ?_
 refine sR <| pu3 <| nT <| regionE <| pu3 ?_
 refine stepY (.int .u64 (((n : Nat) : Int) % 18446744073709551616)) rfl rfl (Y_conv (k := .i64) (a := ((n : Nat) : Int)) Try.underlying3 Try.underlying73 (wrap_u64 _) rfl kr) ?_
 refine cX Try.call29 (s_len (((n : Nat) : Int) % 18446744073709551616) om hS) ?_
 rintro _ _ ⟨a0, rfl, _, b0⟩
 refine cX Try.call28 (q_pdq hO a0 om b0) ?_
 rintro _ _ ⟨_, _, rfl, c0, d0, e0, f0⟩
 refine nilO ?_
 refine ret0n rfl ?_
 exact ⟨_, _, rfl, c0, d0, e0, f0⟩
end Go.Proofs.Ytbofcpnngniopaa
