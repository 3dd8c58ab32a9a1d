/-
  Blocks with an array in their middle; lists of objects. For any program.
-/
import Derived.Test.YtmlhcafjelkjfaaP1Ab
import Derived.WalkKit
import Derived.Deep.Quiet
import Derived.KernelRfl
import Derived.Laws.BytesString
import Derived.Laws.Shifts
import Derived.Laws.IdiomStrings
import Derived.Test.YtmlhcafjelkjfaaProg
import Derived.OpenShut
import Derived.Deep.Slices
import Derived.ChangeSame
import Derived.Deep.Fields
import Derived.Test.YtmlhcafjelkjfaaP1RefS
namespace Go.E
section
variable {p : Nat} {E : TypeId} {pre mid post : List Value}
end
section
variable {P : Program} {W w : World} {cs : List Chunk} {ρ : Env} {o : Oper} {ops : Array Oper} {rest : List Oper} {n : Nat} {N : Env → World → Prop}
end
/-! ### lists of objects: their blocks, states and pieces -/
def Obs {π σ : Type} (R : π → σ → Chunk → Prop) (ps : List π) (ss : List σ) (cs : List Chunk) : Prop :=
  ps.length = ss.length ∧ cs.length = ss.length ∧ ∀ (i : Nat) p s c, ps[i]? = some p → ss[i]? = some s → cs[i]? = some c → R p s c
theorem Obs.get {π σ : Type} {R : π → σ → Chunk → Prop} {ps : List π} {ss : List σ} {cs : List Chunk} (h : Obs R ps ss cs) {i : Nat} {p : π} (hp : ps[i]? = some p) : ∃ s c, ss[i]? = some s ∧ cs[i]? = some c ∧ R p s c := by
  have hi : i < ps.length := (List.getElem?_eq_some_iff.1 hp).1
  have h1 := h.1; have h2 := h.2.1
  have e1 : ss[i]? = some (ss[i]'(by omega)) := by simp [show i < ss.length by omega]
  have e2 : cs[i]? = some (cs[i]'(by omega)) := by simp [show i < cs.length by omega]
  exact ⟨_, _, e1, e2, h.2.2 i p _ _ hp e1 e2⟩
theorem Obs.set {π σ : Type} {R : π → σ → Chunk → Prop} {ps : List π} {ss : List σ} {cs : List Chunk} (h : Obs R ps ss cs) {i : Nat} {p : π} {s : σ} {c : Chunk} (hp : ps[i]? = some p) (hR : R p s c) : Obs R ps (ss.set i s) (cs.set i c) := by
  refine ⟨by simp [h.1], by simp [h.2.1], fun j q t d hq ht hd => ?_⟩
  by_cases hij : i = j
  · subst hij
    rw [hp] at hq; cases hq
    rw [List.getElem?_set] at ht hd
    simp only [if_true] at ht hd
    split at ht
    · cases ht
      split at hd
      · cases hd; exact hR
      · cases hd
    · cases ht
  · rw [List.getElem?_set_ne hij] at ht hd
    exact h.2.2 j q t d hq ht hd
theorem Obs.nil {π σ : Type} (R : π → σ → Chunk → Prop) : Obs R [] [] [] := ⟨rfl, rfl, fun i p s c h => by simp at h⟩
end Go.E

namespace Go.Proofs.Ytmlhcafjelkjfaa
open Go Go.E
set_option linter.unusedVariables false
set_option linter.unusedSimpArgs false
set_option linter.unnecessarySimpa false
set_option maxRecDepth 100000
set_option maxHeartbeats 2000000
variable {W w : World} {H : Chunk} {F : List Chunk}
/-! ### orders and cycles of graphs: D: the sources of each stage, ni: the number of inputs -/
/-- The stage with this index can come next. -/
def canG (ni : Int) (D : List (List Int)) (out : List Int) (i : Nat) : Prop := ∃ s, D[i]? = some s ∧ ¬ (ni + ((i : Nat) : Int)) ∈ out ∧ ∀ x ∈ s, x < ni ∨ x ∈ out
/-- What has been listed: stages, each once. -/
structure OutG (ni : Int) (D : List (List Int)) (out : List Int) : Prop where
  r : ∀ x ∈ out, ni ≤ x ∧ x < ni + ((D.length : Nat) : Int)
  d : out.Nodup
theorem OutG.nil {ni : Int} {D : List (List Int)} : OutG ni D [] := ⟨(fun x hx => by cases hx), List.nodup_nil⟩
theorem OutG.add {ni : Int} {D : List (List Int)} {out : List Int} {k : Nat} (h : OutG ni D out) (hc : canG ni D out k) : OutG ni D (out ++ [ni + ((k : Nat) : Int)]) := by
  obtain ⟨s, hs, h1, _⟩ := hc
  have hk := (List.getElem?_eq_some_iff.1 hs).1
  refine ⟨fun x hx => ?_, ?_⟩
  · rcases List.mem_append.1 hx with h2 | h2
    · exact h.r x h2
    · rw [List.mem_singleton.1 h2]; omega
  · rw [List.nodup_append]
    refine ⟨h.d, by simp, ?_⟩
    intro a ha b hb
    rw [List.mem_singleton.1 hb]
    rintro rfl; exact h1 ha
theorem nodup_le {n : Nat} : ∀ {m : Nat} {l : List Nat}, l.Nodup → (∀ x ∈ l, x < n) → l.length = m → m ≤ n := by
  induction n with
  | zero =>
    intro m l _ h2 h3
    cases l with
    | nil => simp at h3; omega
    | cons x l => have := h2 x List.mem_cons_self; omega
  | succ n ih =>
    intro m l h1 h2 h3
    have h4 := ih (m := (l.filter (fun x => decide (x ≠ n))).length) (l := l.filter (fun x => decide (x ≠ n))) (h1.filter _) (fun x hx => by
      have := List.mem_filter.1 hx
      have h5 := h2 x this.1
      have h6 := of_decide_eq_true this.2
      omega) rfl
    have h5 : l.length ≤ (l.filter (fun x => decide (x ≠ n))).length + 1 := by
      clear h2 h3 h4 ih
      induction l with
      | nil => simp
      | cons y l ih2 =>
        rw [List.nodup_cons] at h1
        rw [List.filter_cons]
        by_cases e : y = n
        · subst e
          rw [if_neg (by simp)]
          have h7 : l.filter (fun x => decide (x ≠ y)) = l := by
            rw [List.filter_eq_self]
            intro z hz
            refine decide_eq_true ?_
            rintro rfl; exact h1.1 hz
          rw [h7]; simp
        · rw [if_pos (by simpa using e)]
          have := ih2 h1.2
          simp only [List.length_cons]; omega
    omega
theorem OutG.len {ni : Int} {D : List (List Int)} {out : List Int} (h : OutG ni D out) : out.length ≤ D.length := by
  have h1 : (out.map fun x => (x - ni).toNat).Nodup := by
    rw [List.nodup_iff_pairwise_ne, List.pairwise_map]
    refine (List.nodup_iff_pairwise_ne.1 h.d).imp_of_mem ?_
    intro a b ha hb hab
    have := h.r a ha; have := h.r b hb; omega
  have := nodup_le (n := D.length) h1 (fun x hx => by
    obtain ⟨y, hy, rfl⟩ := List.mem_map.1 hx
    have := h.r y hy; omega) (List.length_map _)
  omega
/-- The nodes that are known. -/
def KN (ni : Nat) (out : List Int) (ks : List Bool) : Prop := ks.length = 16 ∧ ∀ x : Nat, x < 16 → (ks[x]? = some true ↔ (x < ni ∨ ((x : Nat) : Int) ∈ out))
theorem KN.at {ni : Nat} {out : List Int} {ks : List Bool} {x : Nat} {y : Int} {b : Bool} (h : KN ni out ks) (hx : ks[x]? = some b) (hy : y = ((x : Nat) : Int)) : b = true ↔ (y < ((ni : Nat) : Int) ∨ y ∈ out) := by
  subst hy
  have h1 := (List.getElem?_eq_some_iff.1 hx).1
  have h2 := h.2 x (by rw [← h.1]; exact h1)
  rw [hx] at h2
  simp only [Option.some.injEq] at h2
  rw [h2]
  exact ⟨fun h => h.elim (fun h => .inl (by omega)) .inr, fun h => h.elim (fun h => .inl (by omega)) .inr⟩
theorem KN.nil : KN 0 [] (List.replicate 16 false) := by
  refine ⟨rfl, fun x hx => ?_⟩
  rw [List.getElem?_replicate, if_pos hx]; simp
theorem KN.set {ni : Nat} {out : List Int} {ks : List Bool} {k : Nat} (h : KN ni out ks) (hk : k < 16) : (ks.set k true).length = 16 ∧ ∀ x : Nat, x < 16 → ((ks.set k true)[x]? = some true ↔ (x = k ∨ x < ni ∨ ((x : Nat) : Int) ∈ out)) := by
  refine ⟨by rw [List.length_set]; exact h.1, fun x hx => ?_⟩
  rw [List.getElem?_set]
  by_cases e : k = x
  · rw [if_pos e, if_pos (by rw [h.1]; omega)]; exact ⟨fun _ => .inl e.symm, fun _ => rfl⟩
  · rw [if_neg e, h.2 x hx]
    exact ⟨fun a => .inr a, fun a => a.resolve_left (fun q => e q.symm)⟩
theorem KN.add {ni : Nat} {out : List Int} {ks : List Bool} {y : Int} (h : KN ni out ks) (hy : 0 ≤ y ∧ y < 16) : KN ni (out ++ [y]) (ks.set y.toNat true) := by
  have h1 := h.set (k := y.toNat) (by omega)
  refine ⟨h1.1, fun x hx => ?_⟩
  rw [h1.2 x hx, List.mem_append, List.mem_singleton]
  constructor
  · rintro (h | h | h)
    · exact .inr (.inr (by omega))
    · exact .inl h
    · exact .inr (.inl h)
  · rintro (h | h | h)
    · exact .inr (.inl h)
    · exact .inr (.inr h)
    · exact .inl (by omega)
end Go.Proofs.Ytmlhcafjelkjfaa

namespace Go.Proofs.Ytmlhcafjelkjfaa
open Go Go.E
set_option linter.unusedVariables false
set_option linter.unusedSimpArgs false
set_option linter.unnecessarySimpa false
set_option maxRecDepth 100000
set_option maxHeartbeats 2000000
variable {W w : World} {H : Chunk} {F : List Chunk}
theorem srcs_two {s : StageV} : (srcs s).length = 2 ↔ twoP s := by
  unfold srcs
  by_cases h : twoP s
  · rw [if_pos h]; simp [h]
  · rw [if_neg h]; simp [h]
end Go.Proofs.Ytmlhcafjelkjfaa

namespace Go.Proofs.Ytmlhcafjelkjfaa
open Go Go.E
set_option linter.unusedVariables false
set_option linter.unusedSimpArgs false
set_option linter.unnecessarySimpa false
set_option maxRecDepth 100000
set_option maxHeartbeats 2000000
variable {W w : World} {H : Chunk} {F : List Chunk}
theorem tape_new {cs : List Chunk} (a : Option Addr) (n k : Nat) (hS : Sat W w cs) :
    Calls Try.prog 4 #[.slice a n k] w fun e w' => ∃ p : Nat, e = .returned (.pointer (some ⟨p, 0, none⟩)) ∧ Sat W w' ([(p, .cells #[.slice a n k, .int .i64 0] 44 (0, 0))] :: cs) := by
  refine callsA 6 Try.func4 rfl ?_
  refine seqE <| regionE <| pu1 <| nilO <| thenK_n <| seqE <| regionE <| pu2 ?_
  refine sBox hS (.agg #[.slice a n k, .int .i64 0]) #[.slice a n k, .int .i64 0] ?_
  intro b_1 w_2 hS_3
  refine pu1 <| nilO <| thenK_n <| retE <| retT [.pointer (some ⟨b_1, 0, none⟩)] <| ?_
  exact ⟨_, rfl, hS_3⟩

theorem tmod_bd (v n : Int) (h : 0 < n) : -n < v.tmod n ∧ v.tmod n < n := by
  have h1 := Int.tmod_lt_of_pos v h
  have h2 := Int.lt_tmod_of_pos v h
  omega
theorem mod_ok {cs : List Chunk} (v n : Int) (hn : 0 < n) (hn2 : n ≤ 4611686018427387904) (hS : Sat W w cs) :
    Calls Try.prog 17 #[.int .i64 v, .int .i64 n] w fun e w' => ∃ r : Int, e = .returned (.int .i64 r) ∧ (0 ≤ r ∧ r < n) ∧ Sat W w' cs := by
  have hm := tmod_bd v n hn
  refine callsA 15 Try.func17 rfl ?_
  refine seqE <| regionE <| pu1 <| nilO <| thenK_n <| seqE <| regionE <| pu2 ?_
  refine sRem v n ?_
  refine pu1 <| nilO <| thenK_n <| seqE <| seqE <| regionE <| pu2 <| nilO <| thenK_n <| ?_
  refine cD ((v.tmod n) < 0) (fun hc_1 => ?_) (fun hc_1 => ?_)
  rotate_left
  · refine skipE <| thenK_n <| seqE <| regionE <| pu2 <| nilO <| thenK_n <| retE <| retT [.int .i64 (v.tmod n)] <| ?_
    exact ⟨_, rfl, by omega, hS⟩
  refine regionE <| pu2 ?_
  refine sAdd (v.tmod n) n ?_
  refine pu1 <| nilO <| thenK_n <| seqE <| regionE <| pu2 <| nilO <| thenK_n <| retE <| retT [.int .i64 ((v.tmod n) + n)] <| ?_
  exact ⟨_, rfl, by omega, hS⟩
theorem tape_next {p : Nat} {a : Option Addr} {n k : Nat} {i : Int} {xs : List Int} (hR : RdT Go.E.encI 1 [H] a n k xs) (hi : 0 ≤ i ∧ i ≤ n) (hS : Sat W w ([(p, .cells #[.slice a n k, .int .i64 i] 44 (0, 0))] :: H :: F)) (m : Int) (hm : m ≤ 4611686018427387904) :
    Calls Try.prog 9 #[.pointer (some ⟨p, 0, none⟩), .int .i64 m] w fun e w' => ∃ r : Int, e = .returned (.int .i64 r) ∧ (0 ≤ r ∧ (r < m ∨ r = 0)) ∧ ∃ i' : Int, (0 ≤ i' ∧ i' ≤ n) ∧ Sat W w' ([(p, .cells #[.slice a n k, .int .i64 i'] 44 (0, 0))] :: H :: F) := by
  have hle := hR.le
  refine callsA 39 Try.func9 rfl ?_
  refine seqE <| regionE <| pu1 <| nilO <| thenK_n <| seqE <| seqE ?_
  by_cases hc_1 : (m : Int) < 1
  · refine drawE [] [] [(true, [0, 1, 2]), (true, [3, 4, 5, 7, 8, 9, 6, 10, 11, 12, 13])] rfl (by kernel_rfl) trivial ?_
    have hS_2 := hS.drew
    refine wU [0, 1, 2] ?_
    refine wFix 7 _ true (decide_eq_true hc_1) ?_
    refine wU [3, 4, 5, 7, 8, 9, 6, 10, 11, 12, 13] ?_
    refine wN ?_
    refine thenK_n <| cTt <| seqE <| regionE <| pu1 <| nilO <| thenK_n <| retE <| thenK_r <| retT [.int .i64 0] <| ?_
    exact ⟨_, rfl, by omega, _, by omega, hS_2⟩
  refine drawE [] [(6, ⟨p, 1, none⟩, .int .i64 i), (10, ⟨p, 0, none⟩, .slice a n k)] [(true, [0, 1, 2]), (true, [3, 4, 5, 7, 8, 9]), (true, [6]), (true, [10]), (true, [11, 12, 13])] rfl (by kernel_rfl) ⟨.inr (hS.cell 0 rfl rfl), .inr (hS.cell 0 rfl rfl), trivial⟩ ?_
  have hS_3 := hS.drew
  refine wU [0, 1, 2] ?_
  refine wFix 7 _ false (decide_eq_false hc_1) ?_
  refine wU [3, 4, 5, 7, 8, 9] ?_
  refine wLd (.int .i64 i) 0 Try.isAgg3 ?_
  refine wLd (.slice a n k) 1 Try.isAgg22 ?_
  refine wU [11, 12, 13] ?_
  refine wN ?_
  refine thenK_n <| ?_
  refine cD (i ≥ ((n : Nat) : Int)) (fun hc_4 => ?_) (fun hc_4 => ?_)
  · refine seqE <| regionE <| pu1 <| nilO <| thenK_n <| retE <| thenK_r <| retT [.int .i64 0] <| ?_
    exact ⟨_, rfl, by omega, _, by omega, hS_3⟩
  refine skipE <| thenK_n <| seqE <| regionE <| pu3 ?_
  refine sL hS_3 0 1 (.int .i64 i) (Try.isAgg3 _) ?_
  refine sAdd i 1 ?_
  refine pu2 ?_
  refine sT hS_3 0 1 (.int .i64 (i + 1)) [.int .i64 (i + 1)] #[.slice a n k, .int .i64 (i + 1)] Try.sizeOf3 ?_
  intro w_5 hS_6
  refine nilO <| thenK_n <| seqE ?_
  obtain ⟨x_7, b_8, o_9, hx_10, hp_11, hq_12⟩ := RdT.elem hR ((i + 1) - 1)
  refine drawE [12] [(3, ⟨p, 0, none⟩, .slice a n k), (7, ⟨p, 1, none⟩, .int .i64 (i + 1)), (10, ⟨b_8, o_9, none⟩, .int .i64 x_7)] [(true, [0, 1, 2, 4, 5, 6, 11]), (true, [3]), (true, [7]), (true, [8]), (true, [9]), (true, [10]), (false, [12]), (true, [13])] rfl (by kernel_rfl) ⟨.inr (hS_6.cell 0 rfl rfl), .inr (hS_6.cell 0 rfl rfl), .inr ((hp_11.up 1 rfl).cell hS_6 (k := 0) rfl), trivial⟩ ?_
  have hS_13 := hS_6.drew
  refine wU [0, 1, 2, 4, 5, 6, 11] ?_
  refine wLd (.slice a n k) 0 Try.isAgg22 ?_
  refine wLd (.int .i64 (i + 1)) 1 Try.isAgg3 ?_
  refine wSub (i + 1) 1 ?_
  refine wY (.pointer (some ⟨b_8, o_9, none⟩)) rfl (fun w _ => Y_idx (a := a) (i := ((i + 1) - 1)) (len := n) (cap := k) rfl Try.runUnderlying22 Try.sizeOf3 (by kernel_rfl) (by kernel_rfl) hq_12) ?_
  refine wLd (.int .i64 x_7) 2 Try.isAgg3 ?_
  refine wO rfl ?_
  refine cX Try.call17 (mod_ok x_7 m (by omega) (by omega) hS_13) ?_
  rintro _ w_14 ⟨r_16, rfl, hr_17, hS_15⟩
  refine nilO ⟨⟨.inr (hS_15.cell 0 rfl rfl), .inr (hS_15.cell 0 rfl rfl), .inl (by kernel_rfl), trivial⟩, ?_⟩
  refine wU [13] ?_
  refine wN ?_
  refine thenK_n <| retE <| retT [.int .i64 r_16] <| ?_
  exact ⟨_, rfl, by omega, _, by omega, hS_15⟩
theorem tape_pick {p : Nat} {a : Option Addr} {n k : Nat} {i : Int} {xs : List Int} (hR : RdT Go.E.encI 1 [H] a n k xs) (hi : 0 ≤ i ∧ i ≤ n) (hS : Sat W w ([(p, .cells #[.slice a n k, .int .i64 i] 44 (0, 0))] :: H :: F)) {b : Option Addr} {m cap : Nat} {l : List Int} (hL : RdT Go.E.encI 1 [H] b m cap l) (h0 : 0 < m) (hm : m ≤ 1000000) :
    Calls Try.prog 6 #[.pointer (some ⟨p, 0, none⟩), .slice b m cap] w fun e w' => ∃ x : Int, e = .returned (.int .i64 x) ∧ x ∈ l ∧ ∃ i' : Int, (0 ≤ i' ∧ i' ≤ n) ∧ Sat W w' ([(p, .cells #[.slice a n k, .int .i64 i'] 44 (0, 0))] :: H :: F) := by
  have hle := hR.le
  refine callsA 12 Try.func6 rfl ?_
  refine seqE <| regionE <| pu1 <| nilO <| thenK_n <| seqE <| regionE <| pu4 ?_
  refine cX Try.call9 (tape_next (RdT.flat (hR.up 0 (by rfl))) (by omega) (Sat.flat1 hS) ((m : Nat) : Int) (by omega)) ?_
  rintro _ w_1 ⟨r_3, rfl, hr_4, i_5, hi_6, hS_2⟩
  have hS_7 := Sat.unflat1 hS_2
  refine sIdx hL r_3 Try.runUnderlying22 Try.sizeOf3 ?_
  intro x_8 b_9 o_10 hx_11 hp_12
  refine sLp hS_7 (hp_12.up 1 rfl) 0 (.int .i64 x_8) (Try.isAgg3 _) ?_
  refine pu1 <| nilO <| thenK_n <| retE <| retT [.int .i64 x_8] <| ?_
  exact ⟨_, rfl, List.mem_of_getElem? hx_11, _, by omega, hS_7⟩
end Go.Proofs.Ytmlhcafjelkjfaa

namespace Go.Proofs.Ytmlhcafjelkjfaa
open Go Go.E
set_option linter.unusedVariables false
set_option linter.unusedSimpArgs false
set_option linter.unnecessarySimpa false
set_option maxRecDepth 100000
set_option maxHeartbeats 2000000
variable {W w : World} {H : Chunk} {F : List Chunk}

def numB (z : Int) : Prop := -4611686018427387904 ≤ z ∧ z ≤ 4611686018427387904
theorem nb {z : Int} (h : numB z := by unfold numB; first | omega | (dsimp only; omega)) : numB z := h
theorem mem_set {α : Type} {P : α → Prop} {l : List α} {i : Nat} {x : α} (h : ∀ z ∈ l, P z) (hx : P x) : ∀ z ∈ l.set i x, P z := by
  intro z hz
  rcases List.mem_or_eq_of_mem_set hz with h1 | h1
  · exact h z h1
  · rw [h1]; exact hx
theorem tdiv_bd {a b A : Int} (ha : 0 ≤ a ∧ a ≤ A) (hb : 0 < b) : 0 ≤ a.tdiv b ∧ a.tdiv b ≤ A := by
  rw [Int.tdiv_eq_ediv_of_nonneg ha.1]
  refine ⟨Int.ediv_nonneg ha.1 (by omega), Int.le_trans (Int.ediv_le_self _ ha.1) ha.2⟩
theorem mem_snoc {α : Type} {P : α → Prop} {l : List α} {x : α} (h : ∀ z ∈ l, P z) (hx : P x) : ∀ z ∈ l ++ [x], P z := by
  intro z hz
  rcases List.mem_append.1 hz with h1 | h1
  · exact h z h1
  · simp only [List.mem_singleton] at h1; rw [h1]; exact hx

end Go.Proofs.Ytmlhcafjelkjfaa

/-
  Whole arrays as values: an element of one. For any program.
-/
namespace Go.E
set_option linter.unusedVariables false
set_option linter.unusedSimpArgs false
section
variable {P : Program} {W w : World} {cs : List Chunk} {ρ : Env} {o : Oper} {ops : Array Oper} {rest : List Oper} {n : Nat} {N : Env → World → Prop}
end
end Go.E

namespace Go.Proofs.Ytmlhcafjelkjfaa
open Go Go.E
set_option linter.unusedVariables false
set_option linter.unusedSimpArgs false
set_option linter.unnecessarySimpa false
set_option maxRecDepth 100000
set_option maxHeartbeats 2000000
variable {W w : World} {H : Chunk} {F : List Chunk}
structure Rct where
  x0 : Int
  y0 : Int
  x1 : Int
  y1 : Int
  deriving DecidableEq
def encRct (x : Rct) : List Value := [.int .i64 x.x0, .int .i64 x.y0, .int .i64 x.x1, .int .i64 x.y1]
/-! ### ascending lists, each number once -/
def insU (n : Int) : List Int → List Int
  | [] => [n]
  | x :: l => if n < x then n :: x :: l else if n = x then x :: l else x :: insU n l
def canonV (l : List Int) : List Int := l.foldl (fun a n => insU n a) []
/-- The numbers from 0 to n - 1. -/
def uptoV (n : Nat) : List Int := (List.range n).map fun (i : Nat) => (i : Int)
/-! ### tiles -/
def ceilV (a b : Int) : Int := if 0 ≤ a ∧ 1 ≤ b then (if a % b = 0 then a / b else a / b + 1) else 0
def fineP (w h tw th : Int) : Prop := (1 ≤ w ∧ w ≤ 128) ∧ (1 ≤ h ∧ h ≤ 128) ∧ (1 ≤ tw ∧ tw ≤ 64) ∧ 1 ≤ th ∧ th ≤ 64
instance (w h tw th : Int) : Decidable (fineP w h tw th) := by unfold fineP; infer_instance
def colsN (w h tw th : Int) : Int := if fineP w h tw th then ceilV w tw else 0
def rowsN (w h tw th : Int) : Int := if fineP w h tw th then ceilV h th else 0
def tileV (w h tw th i : Int) : Rct := ⟨i % colsN w h tw th * tw, i / colsN w h tw th * th, min (i % colsN w h tw th * tw + tw) w, min (i / colsN w h tw th * th + th) h⟩
def tilN (w h tw th : Int) : Nat := (colsN w h tw th * rowsN w h tw th).toNat
/-! ### coordinates that a part of a result needs -/
def idxV (i n p : Int) : Option Int :=
  if 1 ≤ n ∧ n ≤ 128 then
    (if p = 0 then some (min (max i 0) (n - 1))
    else if p = 1 then some (if n ≤ i % (2 * n) then 2 * n - 1 - i % (2 * n) else i % (2 * n))
    else if p = 2 then some (i % n)
    else if p = 3 ∧ 0 ≤ i ∧ i < n then some i else none)
  else none
def kerP (n : Int) : Prop := 1 ≤ n ∧ n ≤ 9
instance (n : Int) : Decidable (kerP n) := by unfold kerP; infer_instance
def tapP (t : TapV) : Bool := decide (t.weights.length ≤ 8 ∧ -128 ≤ t.first ∧ t.first ≤ 256)
def accV (s : StageV) : Prop := fieldsP s ∧ (s.kind = 1 → kerP s.kW ∧ kerP s.kH) ∧ (s.kind = 2 → kerP s.row.length ∧ kerP s.col.length) ∧ (s.kind = 3 → s.x.all tapP = true ∧ s.y.all tapP = true)
instance (s : StageV) : Decidable (accV s) := by unfold accV; infer_instance
def winF (kd k size : Int) (t : List TapV) : Int := if kd = 1 ∨ kd = 2 then k - size / 2 else if kd = 3 then (match t[k.toNat]? with | some x => x.first | none => 0) else k
def winC (kd k size : Int) (t : List TapV) : Int := if kd = 1 ∨ kd = 2 then size else if kd = 3 then (match t[k.toNat]? with | some x => (x.weights.length : Int) | none => 0) else 1
def polV (s : StageV) : Int := if 3 < s.kind then 3 else s.edgePolicy
def hitB (s : StageV) (n k size : Int) (t : List TapV) (m : Int) : Bool := (List.range (winC s.kind k size t).toNat).any fun j => decide (idxV (winF s.kind k size t + j) n (polV s) = some m)
def needB (s : StageV) (n a b size : Int) (t : List TapV) (m : Int) : Bool := (List.range (b - a).toNat).any fun j => hitB s n (a + j) size t m
def lenP (n a b : Int) : Prop := (1 ≤ n ∧ n ≤ 128) ∧ (0 ≤ a ∧ a ≤ 128) ∧ 0 ≤ b ∧ b ≤ 128
instance (n a b : Int) : Decidable (lenP n a b) := by unfold lenP; infer_instance
def needV (s : StageV) (n a b size : Int) (t : List TapV) : List Int := if lenP n a b ∧ accV s then (uptoV n.toNat).filter (needB s n a b size t) else []
def colsV (s : StageV) (w a b : Int) : List Int := needV s w a b (if s.kind = 2 then s.row.length else s.kW) s.x
def rowsV (s : StageV) (h a b : Int) : List Int := needV s h a b (if s.kind = 2 then s.col.length else s.kH) s.y
def someV (l : List Int) (a b : Int) : Bool := l.any fun v => decide (a ≤ v ∧ v < b)
def tilesV (s : StageV) (w h tw th : Int) (r : Rct) : List Int :=
  (uptoV (tilN w h tw th)).filter fun i => someV (colsV s w r.x0 r.x1) (i % colsN w h tw th * tw) ((i % colsN w h tw th + 1) * tw) && someV (rowsV s h r.y0 r.y1) (i / colsN w h tw th * th) ((i / colsN w h tw th + 1) * th)
/-! ### scratch memory -/
def belongP (kind part : Int) : Prop := (kind = 4 ∧ (part = 1 ∨ part = 2)) ∨ (¬ kind = 4 ∧ part = 0)
instance (k p : Int) : Decidable (belongP k p) := by unfold belongP; infer_instance
def cellsV (s : StageV) (h : Int) (r : Rct) : Int :=
  if s.kind = 1 then (r.x1 - r.x0 + s.kW - 1) * (r.y1 - r.y0 + s.kH - 1)
  else if s.kind = 2 then (r.x1 - r.x0) * (r.y1 - r.y0 + s.col.length - 1)
  else if s.kind = 3 then (r.x1 - r.x0) * (rowsV s h r.y0 r.y1).length
  else if s.kind = 4 then s.bins
  else if s.kind = 5 then r.x1 - r.x0 + (r.y1 - r.y0) + 1
  else r.x1 - r.x0
def alnV (n : Int) : Int := (n + 15) / 16 * 16
def bytV (s : StageV) (h : Int) (r : Rct) : Int := alnV (8 * cellsV s h r)
def inP (r : Rct) : Prop := 0 ≤ r.x0 ∧ r.x0 < r.x1 ∧ r.x1 ≤ 128 ∧ 0 ≤ r.y0 ∧ r.y0 < r.y1 ∧ r.y1 ≤ 128
instance (r : Rct) : Decidable (inP r) := by unfold inP; infer_instance
/-! ### tasks -/
structure Lay where
  ni : Int
  ss : List StageV
  sh : List Shape
  od : List Int
  tw : Int
  th : Int
def Lay.st (L : Lay) (n : Int) : StageV := stgAt L.ss L.ni n
def Lay.cut (L : Lay) (n : Int) : Shape := if (L.st n).kind = 4 then shpAt L.sh (L.st n).a else shpAt L.sh n
def Lay.nx (L : Lay) (n : Int) : Int := colsN (L.cut n).w (L.cut n).h L.tw L.th
def Lay.ny (L : Lay) (n : Int) : Int := rowsN (L.cut n).w (L.cut n).h L.tw L.th
def Lay.cnt (L : Lay) (n : Int) : Int := if (L.st n).kind = 4 then L.nx n * L.ny n + 1 else L.nx n * L.ny n
def firstG (f : Int → Int) : List Int → Int → Int
  | [], _ => 0
  | x :: l, n => if x = n then 0 else f x + firstG f l n
def Lay.first (L : Lay) (n : Int) : Int := firstG L.cnt L.od n
def Lay.srcDeps (L : Lay) (s : StageV) (r : Rct) (x : Int) : List Int :=
  if x < L.ni then [] else if s.barrier = true then (uptoV (L.cnt x).toNat).map (L.first x + ·)
  else if (L.st x).kind = 4 then [L.first x + L.cnt x - 1]
  else (tilesV s (shpAt L.sh x).w (shpAt L.sh x).h L.tw L.th r).map (L.first x + ·)
def Lay.needs (L : Lay) (s : StageV) (r : Rct) : List Int := (srcs s).flatMap (L.srcDeps s r)
def Lay.own (L : Lay) (n i : Int) : List Int := if (L.st n).kind = 5 then (if 0 < i % L.nx n then [L.first n + i - 1] else []) ++ (if L.nx n ≤ i then [L.first n + i - L.nx n] else []) else []
def Lay.task (L : Lay) (n part : Int) (r : Rct) (deps : List Int) : TaskV :=
  ⟨n, part, r.x0, r.y0, r.x1, r.y1, canonV deps, if part = 2 then 1 else r.y1 - r.y0, bytV (L.st n) (shpAt L.sh (L.st n).a).h r⟩
def Lay.part (L : Lay) (n : Int) : Int := if (L.st n).kind = 4 then 1 else 0
def Lay.tile (L : Lay) (n i : Int) : Rct := tileV (L.cut n).w (L.cut n).h L.tw L.th i
def Lay.tileT (L : Lay) (n i : Int) : TaskV := L.task n (L.part n) (L.tile n i) (L.needs (L.st n) (L.tile n i) ++ L.own n i)
def Lay.mergeT (L : Lay) (n : Int) : TaskV := L.task n 2 ⟨0, 0, (L.st n).bins, 1⟩ ((uptoV (L.nx n * L.ny n).toNat).map (L.first n + ·))
def Lay.tasks (L : Lay) (n : Int) : List TaskV := (uptoV (L.nx n * L.ny n).toNat).map (L.tileT n) ++ (if (L.st n).kind = 4 then [L.mergeT n] else [])
def Lay.all (L : Lay) : List TaskV := L.od.flatMap L.tasks
def tileP (tw th : Int) : Prop := (1 ≤ tw ∧ tw ≤ 64) ∧ 1 ≤ th ∧ th ≤ 64
instance (tw th : Int) : Decidable (tileP tw th) := by unfold tileP; infer_instance
def Lay.cells (L : Lay) : Int := (L.sh.map fun m => m.w * m.h).sum + (L.od.map fun n => if (L.st n).kind = 4 then (L.st n).bins * (L.cnt n - 1) else 0).sum
/-! ### what the walks need -/
theorem ceil_bd {a b : Int} (ha : 1 ≤ a ∧ a ≤ 128) (hb : 1 ≤ b) : 1 ≤ ceilV a b ∧ ceilV a b ≤ 128 := by
  unfold ceilV
  rw [if_pos ⟨by omega, hb⟩]
  have h1 := Int.mul_ediv_add_emod a b
  have h2 := Int.emod_nonneg a (by omega : b ≠ 0)
  have h3 := Int.emod_lt_of_pos a (by omega : 0 < b)
  have h4 : a / b ≤ a := Int.ediv_le_self _ (by omega)
  have h5 : 0 ≤ a / b := Int.ediv_nonneg (by omega) (by omega)
  split
  · have : a / b ≠ 0 := fun h => by rw [h, Int.mul_zero] at h1; omega
    omega
  · have h6 : a / b < 128 := by
      by_cases h : a / b = 128
      · have hb1 : b = 1 := by
          by_cases hb1 : b = 1
          · exact hb1
          · have := Int.mul_le_mul_of_nonneg_right (show (2 : Int) ≤ b by omega) h5; omega
        subst hb1; simp at *
      · omega
    omega
theorem cols_bd {w h tw th : Int} (hf : fineP w h tw th) : (1 ≤ colsN w h tw th ∧ colsN w h tw th ≤ 128) ∧ 1 ≤ rowsN w h tw th ∧ rowsN w h tw th ≤ 128 := by
  unfold colsN rowsN
  rw [if_pos hf, if_pos hf]
  exact ⟨ceil_bd hf.1 hf.2.2.1.1, ceil_bd hf.2.1 hf.2.2.2.1⟩
theorem ceil_ge {a b : Int} (ha : 0 ≤ a) (hb : 1 ≤ b) : a ≤ ceilV a b * b := by
  unfold ceilV
  rw [if_pos ⟨ha, hb⟩]
  have h1 := Int.mul_ediv_add_emod a b
  have h3 := Int.emod_lt_of_pos a (by omega : 0 < b)
  split
  · rw [Int.mul_comm (a / b) b]; omega
  · rw [Int.add_mul, Int.one_mul, Int.mul_comm (a / b) b]; omega
/-- The place of a tile in its grid. -/
theorem tile_ix {i nx ny : Int} (hn : 1 ≤ nx) (hi : 0 ≤ i) (h : i < nx * ny) : (0 ≤ i % nx ∧ i % nx < nx) ∧ 0 ≤ i / nx ∧ i / nx < ny ∧ i = i / nx * nx + i % nx := by
  have h1 := Int.mul_ediv_add_emod i nx
  have h2 := Int.emod_nonneg i (by omega : nx ≠ 0)
  have h3 := Int.emod_lt_of_pos i (by omega : 0 < nx)
  refine ⟨⟨h2, h3⟩, Int.ediv_nonneg hi (by omega), ?_, by rw [Int.mul_comm]; omega⟩
  exact Int.ediv_lt_of_lt_mul (by omega) (by rw [Int.mul_comm]; exact h)
theorem mod_emod {i n : Int} (hn : 0 < n) : (if i.tmod n < 0 then i.tmod n + n else i.tmod n) = i % n := by
  have h1 := Int.tmod_lt_of_pos i hn
  have h2 := Int.lt_tmod_of_pos i hn
  have e : i % n = i.tmod n % n := by
    have h := Int.tmod_add_mul_tdiv i n
    calc i % n = (i.tmod n + n * i.tdiv n) % n := by rw [h]
      _ = i.tmod n % n := by rw [Int.add_mul_emod_self_left]
  rw [e]
  split
  · rw [← Int.add_emod_right, Int.emod_eq_of_lt (by omega) (by omega)]
  · rw [Int.emod_eq_of_lt (by omega) (by omega)]
theorem idx_bd {i n p c : Int} (h : idxV i n p = some c) : 0 ≤ c ∧ c < n := by
  unfold idxV at h
  split at h
  · rename_i hn
    have h1 := Int.emod_nonneg i (by omega : n ≠ 0)
    have h2 := Int.emod_lt_of_pos i (by omega : 0 < n)
    have h3 := Int.emod_nonneg i (by omega : 2 * n ≠ 0)
    have h4 := Int.emod_lt_of_pos i (by omega : 0 < 2 * n)
    repeat' split at h
    all_goals first
      | (simp only [Option.some.injEq] at h; omega)
      | cases h
  · cases h
/-- A row of marks. -/
def MkB (N : Nat) (ks : List Bool) (f : Int → Bool) : Prop := ks.length = N ∧ ∀ m : Nat, m < N → ks[m]? = some (f m)
theorem MkB.zero {N : Nat} {f : Int → Bool} (hf : ∀ m, f m = false) : MkB N (List.replicate N false) f := by
  refine ⟨by simp, fun m hm => ?_⟩
  rw [List.getElem?_replicate, if_pos hm, hf]
theorem MkB.at {N : Nat} {ks : List Bool} {f : Int → Bool} {m : Nat} {x : Bool} (h : MkB N ks f) (hx : ks[m]? = some x) : x = f m := by
  have hm := (List.getElem?_eq_some_iff.1 hx).1
  have := h.2 m (by rw [← h.1]; exact hm)
  rw [hx] at this; exact Option.some.inj this
theorem MkB.set {N : Nat} {ks : List Bool} {f g : Int → Bool} {c : Int} (h : MkB N ks f) (hc : 0 ≤ c ∧ c < N) (e : ∀ m : Int, g m = (f m || decide (c = m))) : MkB N (ks.set c.toNat true) g := by
  refine ⟨by rw [List.length_set]; exact h.1, fun m hm => ?_⟩
  rw [e, List.getElem?_set]
  split
  · rename_i hcm
    rw [if_pos (by rw [h.1]; omega), decide_eq_true (show c = (m : Int) by omega), Bool.or_true]
  · rw [h.2 m hm, decide_eq_false (show ¬ c = (m : Int) by omega), Bool.or_false]
theorem any_range_succ (k : Nat) (f : Nat → Bool) : (List.range (k + 1)).any f = ((List.range k).any f || f k) := by rw [List.range_succ, List.any_append]; simp
/-- One coordinate more. -/
theorem MkB.one {N : Nat} {ks : List Bool} {A : Int → Bool} {s : StageV} {n : Int} {k : Nat} {F : Int} {c : Int} (h : MkB N ks (fun m => A m || (List.range k).any fun j => decide (idxV (F + j) n (polV s) = some m))) (he : idxV (F + k) n (polV s) = some c) (hc : 0 ≤ c ∧ c < N) :
    MkB N (ks.set c.toNat true) (fun m => A m || (List.range (k + 1)).any fun j => decide (idxV (F + j) n (polV s) = some m)) := by
  refine h.set hc (fun m => ?_)
  rw [any_range_succ, he, ← Bool.or_assoc]
  congr 1
  exact decide_eq_decide.2 ⟨fun h => Option.some.inj h, fun h => by rw [h]⟩
theorem grid_ix {nx i j : Int} (hj : 0 ≤ j ∧ j < nx) : (i * nx + j) % nx = j ∧ (i * nx + j) / nx = i := by
  have hx : 0 < nx := by omega
  refine ⟨?_, ?_⟩
  · rw [Int.add_comm, Int.add_mul_emod_self_right, Int.emod_eq_of_lt hj.1 hj.2]
  · rw [Int.add_comm, Int.add_mul_ediv_right _ _ (by omega), Int.ediv_eq_zero_of_lt hj.1 hj.2, Int.zero_add]
def cooP (n : Int) : Prop := -1048576 ≤ n ∧ n ≤ 1048576
instance (n : Int) : Decidable (cooP n) := by unfold cooP; infer_instance
def rvP (r : Rct) : Prop := (r.x0 = 0 ∧ r.y0 = 0 ∧ r.x1 = 0 ∧ r.y1 = 0) ∨ (cooP r.x0 ∧ cooP r.y0 ∧ cooP r.x1 ∧ cooP r.y1 ∧ r.x0 < r.x1 ∧ r.y0 < r.y1)
instance (r : Rct) : Decidable (rvP r) := by unfold rvP; infer_instance
theorem eqve24 (w : World) (a0 a1 a2 a3 b0 b1 b2 b3 : Int) : ∀ x y, ((do eqGuard .eql 24 x y (.agg #[.int .i64 a0, .int .i64 a1, .int .i64 a2, .int .i64 a3]) (.agg #[.int .i64 b0, .int .i64 b1, .int .i64 b2, .int .i64 b3]); binOp .eql 24 (.agg #[.int .i64 a0, .int .i64 a1, .int .i64 a2, .int .i64 a3]) (.agg #[.int .i64 b0, .int .i64 b1, .int .i64 b2, .int .i64 b3])) : Sem Value).run Try.prog w = .ok (.bool ((a0 == b0) && (a1 == b1) && (a2 == b2) && (a3 == b3))) w := by
  intro x y
  simp [go_sem, run_eqGuard_agg, run_eql_struct, run_equalIn_agg]
  by_cases h0 : a0 = b0 <;> by_cases h1 : a1 = b1 <;> by_cases h2 : a2 = b2 <;> by_cases h3 : a3 = b3 <;> simp [*]
theorem p2_coord (n : Int) (hS : Sat W w (H :: F)) :
    Ro Try.prog 44 #[.int .i64 n] (.bool (decide (-(1048576 : Int) ≤ n ∧ n ≤ 1048576))) W w (H :: F) := by
  refine callsA 9 Try.func44 rfl ?_
  refine seqE <| regionE <| pu1 <| nilO <| thenK_n <| seqE <| regionE <| pu3 ?_
  refine sD 5 (-1048576 ≤ n) (fun hc_1 => ?_) (fun hc_1 => ?_)
  rotate_left
  · refine pu4 <| nilO <| thenK_n <| retE <| retT [.bool false] <| ?_
    refine ⟨congrArg (fun b => Ending.returned (.bool b)) ?_, hS⟩
    first | rfl | (rw [Bool.eq_iff_iff]; simp only [decide_eq_true_eq, beq_iff_eq, bne_iff_ne, ne_eq, Bool.not_eq_true', decide_eq_false_iff_not, true_iff, false_iff, iff_true, iff_false, Bool.false_eq_true, Bool.and_eq_true, Bool.or_eq_true, gt_iff_lt, ge_iff_le] <;> omega) | (rw [Bool.eq_iff_iff]; simp [*] <;> omega) | (simp_all; done)
  refine pu4 <| nilO <| thenK_n <| retE <| retT [.bool (decide ((n : Int) ≤ 1048576))] <| ?_
  refine ⟨congrArg (fun b => Ending.returned (.bool b)) ?_, hS⟩
  first | rfl | (rw [Bool.eq_iff_iff]; simp only [decide_eq_true_eq, beq_iff_eq, bne_iff_ne, ne_eq, Bool.not_eq_true', decide_eq_false_iff_not, true_iff, false_iff, iff_true, iff_false, Bool.false_eq_true, Bool.and_eq_true, Bool.or_eq_true, gt_iff_lt, ge_iff_le] <;> omega) | (rw [Bool.eq_iff_iff]; simp [*] <;> omega) | (simp_all; done)
theorem p2_empty (r : Rct) (hS : Sat W w (H :: F)) :
    Ro Try.prog 19 #[.agg (encRct r).toArray] (.bool (decide (r.x0 = 0 ∧ r.y0 = 0 ∧ r.x1 = 0 ∧ r.y1 = 0))) W w (H :: F) := by
  refine callsA 6 Try.func19 rfl ?_
  refine seqE <| regionE ?_
  refine sBox hS (.agg (encRct r).toArray) (encRct r).toArray ?_
  intro b_1 w_2 hS_3
  refine pu1 <| nilO <| thenK_n <| seqE <| regionE ?_
  refine lA hS_3 0 0 4 (Try.isAgg24 _) (Try.sizeOf24 _) ?_
  refine pu1 ?_
  refine stepY (.bool (((r.x0 : Int) == 0) && ((r.y0 : Int) == 0) && ((r.x1 : Int) == 0) && ((r.y1 : Int) == 0))) rfl rfl (Y_eqS rfl (by kernel_rfl) (by kernel_rfl) (eqve24 _ r.x0 r.y0 r.x1 r.y1 0 0 0 0)) ?_
  refine pu1 <| nilO <| thenK_n <| retE <| retT [.bool (((r.x0 : Int) == 0) && ((r.y0 : Int) == 0) && ((r.x1 : Int) == 0) && ((r.y1 : Int) == 0))] <| ?_
  have hS_4 := (hS_3.dropAt 0 rfl)
  refine ⟨congrArg (fun b => Ending.returned (.bool b)) ?_, hS_4⟩
  first | rfl | (rw [Bool.eq_iff_iff]; simp only [decide_eq_true_eq, beq_iff_eq, bne_iff_ne, ne_eq, Bool.not_eq_true', decide_eq_false_iff_not, true_iff, false_iff, iff_true, iff_false, Bool.false_eq_true, Bool.and_eq_true, Bool.or_eq_true, gt_iff_lt, ge_iff_le] <;> omega) | (rw [Bool.eq_iff_iff]; simp [*] <;> omega) | (simp_all; done)
theorem p2_valid (r : Rct) (hS : Sat W w (H :: F)) :
    Ro Try.prog 33 #[.agg (encRct r).toArray] (.bool (decide (rvP r))) W w (H :: F) := by
  refine callsA 37 Try.func33 rfl ?_
  refine seqE <| regionE ?_
  refine sBox hS (.agg (encRct r).toArray) (encRct r).toArray ?_
  intro b_1 w_2 hS_3
  refine pu1 <| nilO <| thenK_n <| seqE <| seqE <| regionE ?_
  refine lA hS_3 0 0 4 (Try.isAgg24 _) (Try.sizeOf24 _) ?_
  refine cR Try.call19 (p2_empty r (Sat.flat hS_3)) ?_
  intro w_4 hS_5
  refine nilO <| thenK_n <| ?_
  refine cD (r.x0 = 0 ∧ r.y0 = 0 ∧ r.x1 = 0 ∧ r.y1 = 0) (fun hc_7 => ?_) (fun hc_7 => ?_)
  · refine seqE <| regionE <| pu1 <| nilO <| thenK_n <| retE <| thenK_r <| retT [.bool true] <| ?_
    have hS_8 := (hS_5.dropAt 0 rfl)
    refine ⟨congrArg (fun b => Ending.returned (.bool b)) ?_, hS_8⟩
    first | rfl | (rw [Bool.eq_iff_iff]; simp only [decide_eq_true_eq, beq_iff_eq, bne_iff_ne, ne_eq, Bool.not_eq_true', decide_eq_false_iff_not, true_iff, false_iff, iff_true, iff_false, Bool.false_eq_true, Bool.and_eq_true, Bool.or_eq_true, gt_iff_lt, ge_iff_le, rvP, cooP] <;> omega) | (rw [Bool.eq_iff_iff]; simp [rvP, cooP, *] <;> omega) | (simp_all; done)
  refine skipE <| thenK_n <| seqE <| regionE <| pu1 ?_
  refine sL hS_5 0 0 (.int .i64 r.x0) (Try.isAgg3 _) ?_
  refine cR Try.call44 (p2_coord r.x0 (Sat.flat hS_5)) ?_
  intro w_9 hS_10
  refine pu1 ?_
  refine sD 8 (-(1048576 : Int) ≤ r.x0 ∧ r.x0 ≤ 1048576) (fun hc_12 => ?_) (fun hc_12 => ?_)
  rotate_left
  · refine pu16 <| pu13 <| nilO <| thenK_n <| retE <| retT [.bool false] <| ?_
    have hS_31 := (hS_10.dropAt 0 rfl)
    refine ⟨congrArg (fun b => Ending.returned (.bool b)) ?_, hS_31⟩
    first | rfl | (rw [Bool.eq_iff_iff]; simp only [decide_eq_true_eq, beq_iff_eq, bne_iff_ne, ne_eq, Bool.not_eq_true', decide_eq_false_iff_not, true_iff, false_iff, iff_true, iff_false, Bool.false_eq_true, Bool.and_eq_true, Bool.or_eq_true, gt_iff_lt, ge_iff_le, rvP, cooP] <;> omega) | (rw [Bool.eq_iff_iff]; simp [rvP, cooP, *] <;> omega) | (simp_all; done)
  refine pu1 <| gY ?_
  refine sL hS_10 0 1 (.int .i64 r.y0) (Try.isAgg3 _) ?_
  refine gY ?_
  refine cR Try.call44 (p2_coord r.y0 (Sat.flat hS_10)) ?_
  intro w_13 hS_14
  refine pu2 ?_
  refine sD 13 (-(1048576 : Int) ≤ r.y0 ∧ r.y0 ≤ 1048576) (fun hc_16 => ?_) (fun hc_16 => ?_)
  rotate_left
  · refine pu16 <| pu8 <| nilO <| thenK_n <| retE <| retT [.bool false] <| ?_
    have hS_30 := (hS_14.dropAt 0 rfl)
    refine ⟨congrArg (fun b => Ending.returned (.bool b)) ?_, hS_30⟩
    first | rfl | (rw [Bool.eq_iff_iff]; simp only [decide_eq_true_eq, beq_iff_eq, bne_iff_ne, ne_eq, Bool.not_eq_true', decide_eq_false_iff_not, true_iff, false_iff, iff_true, iff_false, Bool.false_eq_true, Bool.and_eq_true, Bool.or_eq_true, gt_iff_lt, ge_iff_le, rvP, cooP] <;> omega) | (rw [Bool.eq_iff_iff]; simp [rvP, cooP, *] <;> omega) | (simp_all; done)
  refine pu1 <| gY ?_
  refine sL hS_14 0 2 (.int .i64 r.x1) (Try.isAgg3 _) ?_
  refine gY ?_
  refine cR Try.call44 (p2_coord r.x1 (Sat.flat hS_14)) ?_
  intro w_17 hS_18
  refine pu2 ?_
  refine sD 18 (-(1048576 : Int) ≤ r.x1 ∧ r.x1 ≤ 1048576) (fun hc_20 => ?_) (fun hc_20 => ?_)
  rotate_left
  · refine pu16 <| pu3 <| nilO <| thenK_n <| retE <| retT [.bool false] <| ?_
    have hS_29 := (hS_18.dropAt 0 rfl)
    refine ⟨congrArg (fun b => Ending.returned (.bool b)) ?_, hS_29⟩
    first | rfl | (rw [Bool.eq_iff_iff]; simp only [decide_eq_true_eq, beq_iff_eq, bne_iff_ne, ne_eq, Bool.not_eq_true', decide_eq_false_iff_not, true_iff, false_iff, iff_true, iff_false, Bool.false_eq_true, Bool.and_eq_true, Bool.or_eq_true, gt_iff_lt, ge_iff_le, rvP, cooP] <;> omega) | (rw [Bool.eq_iff_iff]; simp [rvP, cooP, *] <;> omega) | (simp_all; done)
  refine pu1 <| gY ?_
  refine sL hS_18 0 3 (.int .i64 r.y1) (Try.isAgg3 _) ?_
  refine gY ?_
  refine cR Try.call44 (p2_coord r.y1 (Sat.flat hS_18)) ?_
  intro w_21 hS_22
  refine pu2 ?_
  refine sD 23 (-(1048576 : Int) ≤ r.y1 ∧ r.y1 ≤ 1048576) (fun hc_24 => ?_) (fun hc_24 => ?_)
  rotate_left
  · refine pu14 <| nilO <| thenK_n <| retE <| retT [.bool false] <| ?_
    have hS_28 := (hS_22.dropAt 0 rfl)
    refine ⟨congrArg (fun b => Ending.returned (.bool b)) ?_, hS_28⟩
    first | rfl | (rw [Bool.eq_iff_iff]; simp only [decide_eq_true_eq, beq_iff_eq, bne_iff_ne, ne_eq, Bool.not_eq_true', decide_eq_false_iff_not, true_iff, false_iff, iff_true, iff_false, Bool.false_eq_true, Bool.and_eq_true, Bool.or_eq_true, gt_iff_lt, ge_iff_le, rvP, cooP] <;> omega) | (rw [Bool.eq_iff_iff]; simp [rvP, cooP, *] <;> omega) | (simp_all; done)
  refine pu1 <| gY ?_
  refine sL hS_22 0 0 (.int .i64 r.x0) (Try.isAgg3 _) ?_
  refine pu1 <| gY ?_
  refine sL hS_22 0 2 (.int .i64 r.x1) (Try.isAgg3 _) ?_
  refine pu3 ?_
  refine sD 30 (r.x0 < r.x1) (fun hc_25 => ?_) (fun hc_25 => ?_)
  rotate_left
  · refine pu7 <| nilO <| thenK_n <| retE <| retT [.bool false] <| ?_
    have hS_27 := (hS_22.dropAt 0 rfl)
    refine ⟨congrArg (fun b => Ending.returned (.bool b)) ?_, hS_27⟩
    first | rfl | (rw [Bool.eq_iff_iff]; simp only [decide_eq_true_eq, beq_iff_eq, bne_iff_ne, ne_eq, Bool.not_eq_true', decide_eq_false_iff_not, true_iff, false_iff, iff_true, iff_false, Bool.false_eq_true, Bool.and_eq_true, Bool.or_eq_true, gt_iff_lt, ge_iff_le, rvP, cooP] <;> omega) | (rw [Bool.eq_iff_iff]; simp [rvP, cooP, *] <;> omega) | (simp_all; done)
  refine pu1 <| gY ?_
  refine sL hS_22 0 1 (.int .i64 r.y0) (Try.isAgg3 _) ?_
  refine pu1 <| gY ?_
  refine sL hS_22 0 3 (.int .i64 r.y1) (Try.isAgg3 _) ?_
  refine pu3 <| nilO <| thenK_n <| retE <| retT [.bool (decide ((r.y0 : Int) < r.y1))] <| ?_
  have hS_26 := (hS_22.dropAt 0 rfl)
  refine ⟨congrArg (fun b => Ending.returned (.bool b)) ?_, hS_26⟩
  first | rfl | (rw [Bool.eq_iff_iff]; simp only [decide_eq_true_eq, beq_iff_eq, bne_iff_ne, ne_eq, Bool.not_eq_true', decide_eq_false_iff_not, true_iff, false_iff, iff_true, iff_false, Bool.false_eq_true, Bool.and_eq_true, Bool.or_eq_true, gt_iff_lt, ge_iff_le, rvP, cooP] <;> omega) | (rw [Bool.eq_iff_iff]; simp [rvP, cooP, *] <;> omega) | (simp_all; done)
theorem p3_mod (i : Int) (n : Int) (hn : 1 ≤ n ∧ n ≤ 4611686018427387904) (hS : Sat W w (H :: F)) :
    Ro Try.prog 91 #[.int .i64 i, .int .i64 n] (.int .i64 (i % n)) W w (H :: F) := by
  have hm1 := Int.tmod_lt_of_pos i (by omega : 0 < n); have hm2 := Int.lt_tmod_of_pos i (by omega : 0 < n)
  refine callsA 15 Try.func91 rfl ?_
  refine seqE <| regionE <| pu1 <| nilO <| thenK_n <| seqE <| regionE <| pu2 ?_
  refine sRem i n ?_
  refine pu1 <| nilO <| thenK_n <| seqE <| seqE <| regionE <| pu2 <| nilO <| thenK_n <| ?_
  refine cD ((i.tmod n) < 0) (fun hc_1 => ?_) (fun hc_1 => ?_)
  rotate_left
  · refine skipE <| thenK_n <| seqE <| regionE <| pu2 <| nilO <| thenK_n <| retE <| retT [.int .i64 (i.tmod n)] <| ?_
    have hk := mod_emod (i := i) (n := n) (by omega)
    rw [if_neg (by omega)] at hk
    exact ⟨by rw [← hk]; rfl, hS⟩
  refine regionE <| pu2 ?_
  refine sAdd (i.tmod n) n ?_
  refine pu1 <| nilO <| thenK_n <| seqE <| regionE <| pu2 <| nilO <| thenK_n <| retE <| retT [.int .i64 ((i.tmod n) + n)] <| ?_
  have hk := mod_emod (i := i) (n := n) (by omega)
  rw [if_pos (by omega)] at hk
  exact ⟨by rw [← hk]; rfl, hS⟩
theorem p3_index (i : Int) (n : Int) (p : Int) (hS : Sat W w (H :: F)) :
    Ro Try.prog 79 #[.int .i64 i, .int .i64 n, .int .i64 p] (.tuple #[.int .i64 ((idxV i n p).getD 0), .bool ((idxV i n p).isSome)]) W w (H :: F) := by
  refine callsA 53 Try.func79 rfl ?_
  refine seqE <| regionE <| pu2 <| nilO <| thenK_n <| seqE <| seqE <| regionE <| pu3 ?_
  refine sD 11 (n < 1) (fun hc_1 => ?_) (fun hc_1 => ?_)
  · refine pu3 <| nilO <| thenK_n <| cTt <| seqE <| regionE <| pu2 <| nilO <| thenK_n <| retE <| thenK_r <| retT [.int .i64 0, .bool false] <| ?_
    have hk : idxV i n p = none := by unfold idxV; (repeat' split) <;> first | rfl | (exfalso; omega)
    exact ⟨by rw [hk]; rfl, hS⟩
  refine pu3 <| nilO <| thenK_n <| ?_
  refine cD (n > 128) (fun hc_2 => ?_) (fun hc_2 => ?_)
  · refine seqE <| regionE <| pu2 <| nilO <| thenK_n <| retE <| thenK_r <| retT [.int .i64 0, .bool false] <| ?_
    have hk : idxV i n p = none := by unfold idxV; (repeat' split) <;> first | rfl | (exfalso; omega)
    exact ⟨by rw [hk]; rfl, hS⟩
  refine skipE <| thenK_n <| seqE <| seqE <| regionE <| pu1 <| nilO <| thenK_n <| blockE <| seqE <| regionE <| pu2 <| nilO <| thenK_n <| ?_
  refine cE p 0 (fun hc_3 => ?_) (fun hc_3 => ?_)
  · refine seqE <| regionE <| pu1 ?_
    refine stepY (.int .i64 (max i 0)) rfl rfl (Y_max2 i 0 rfl rfl (by kernel_rfl) (by kernel_rfl)) ?_
    refine pu1 ?_
    refine sSub n 1 ?_
    refine stepY (.int .i64 (min (max i 0) (n - 1))) rfl rfl (Y_min2 (max i 0) (n - 1) rfl rfl (by kernel_rfl) (by kernel_rfl)) ?_
    refine pu2 <| nilO <| thenK_n <| retE <| blockK_r <| thenK_r <| retT [.int .i64 (min (max i 0) (n - 1)), .bool true] <| ?_
    have hk : idxV i n p = some (min (max i 0) (n - 1)) := by unfold idxV; (repeat' split) <;> first | rfl | (exfalso; omega) | (congr 1; omega)
    exact ⟨by rw [hk]; rfl, hS⟩
  refine seqE <| regionE <| pu2 <| nilO <| thenK_n <| ?_
  refine cE p 1 (fun hc_4 => ?_) (fun hc_4 => ?_)
  · refine seqE <| regionE <| pu2 ?_
    refine sMul 2 n ?_
    refine cR Try.call91 (p3_mod i (2 * n) (by first | omega | (dsimp only; omega)) (Sat.flat hS)) ?_
    intro w_5 hS_6
    have hme := Int.emod_nonneg i (by omega : ((2 * n) : Int) ≠ 0); have hmf := Int.emod_lt_of_pos i (by omega : (0 : Int) < (2 * n))
    refine pu1 <| nilO <| thenK_n <| seqE <| seqE <| regionE <| pu3 <| nilO <| thenK_n <| ?_
    refine cD ((i % (2 * n)) ≥ n) (fun hc_8 => ?_) (fun hc_8 => ?_)
    rotate_left
    · refine skipE <| thenK_n <| seqE <| regionE <| pu3 <| nilO <| thenK_n <| retE <| blockK_r <| thenK_r <| retT [.int .i64 (i % (2 * n)), .bool true] <| ?_
      have hk : idxV i n p = some (i % (2 * n)) := by unfold idxV; (repeat' split) <;> first | rfl | (exfalso; omega) | (congr 1; omega)
      exact ⟨by rw [hk]; rfl, hS_6⟩
    refine regionE <| pu1 ?_
    refine sMul 2 n ?_
    refine sSub (2 * n) 1 ?_
    refine pu1 ?_
    refine sSub ((2 * n) - 1) (i % (2 * n)) ?_
    refine pu1 <| nilO <| thenK_n <| seqE <| regionE <| pu3 <| nilO <| thenK_n <| retE <| blockK_r <| thenK_r <| retT [.int .i64 (((2 * n) - 1) - (i % (2 * n))), .bool true] <| ?_
    have hk : idxV i n p = some (((2 * n) - 1) - (i % (2 * n))) := by unfold idxV; (repeat' split) <;> first | rfl | (exfalso; omega) | (congr 1; omega)
    exact ⟨by rw [hk]; rfl, hS_6⟩
  refine seqE <| regionE <| pu2 <| nilO <| thenK_n <| ?_
  refine cE p 2 (fun hc_9 => ?_) (fun hc_9 => ?_)
  · refine seqE <| regionE <| pu2 ?_
    refine cR Try.call91 (p3_mod i n (by first | omega | (dsimp only; omega)) (Sat.flat hS)) ?_
    intro w_10 hS_11
    have hme := Int.emod_nonneg i (by omega : (n : Int) ≠ 0); have hmf := Int.emod_lt_of_pos i (by omega : (0 : Int) < n)
    refine pu2 <| nilO <| thenK_n <| retE <| blockK_r <| thenK_r <| retT [.int .i64 (i % n), .bool true] <| ?_
    have hk : idxV i n p = some (i % n) := by unfold idxV; (repeat' split) <;> first | rfl | (exfalso; omega) | (congr 1; omega)
    exact ⟨by rw [hk]; rfl, hS_11⟩
  refine seqE <| regionE <| pu2 <| nilO <| thenK_n <| ?_
  refine cE p 3 (fun hc_13 => ?_) (fun hc_13 => ?_)
  rotate_left
  · refine skipE <| blockK_n <| thenK_n <| seqE <| regionE <| pu2 <| nilO <| thenK_n <| retE <| retT [.int .i64 0, .bool false] <| ?_
    have hk : idxV i n p = none := by unfold idxV; (repeat' split) <;> first | rfl | (exfalso; omega)
    exact ⟨by rw [hk]; rfl, hS⟩
  refine seqE <| regionE <| pu3 ?_
  refine sD 47 (0 ≤ i) (fun hc_14 => ?_) (fun hc_14 => ?_)
  rotate_left
  · refine pu4 <| nilO <| thenK_n <| cFf <| skipE <| blockK_n <| thenK_n <| seqE <| regionE <| pu2 <| nilO <| thenK_n <| retE <| retT [.int .i64 0, .bool false] <| ?_
    have hk : idxV i n p = none := by unfold idxV; (repeat' split) <;> first | rfl | (exfalso; omega)
    exact ⟨by rw [hk]; rfl, hS⟩
  refine pu4 <| nilO <| thenK_n <| ?_
  refine cD (i < n) (fun hc_15 => ?_) (fun hc_15 => ?_)
  rotate_left
  · refine skipE <| blockK_n <| thenK_n <| seqE <| regionE <| pu2 <| nilO <| thenK_n <| retE <| retT [.int .i64 0, .bool false] <| ?_
    have hk : idxV i n p = none := by unfold idxV; (repeat' split) <;> first | rfl | (exfalso; omega)
    exact ⟨by rw [hk]; rfl, hS⟩
  refine seqE <| regionE <| pu3 <| nilO <| thenK_n <| retE <| blockK_r <| thenK_r <| retT [.int .i64 i, .bool true] <| ?_
  have hk : idxV i n p = some i := by unfold idxV; (repeat' split) <;> first | rfl | (exfalso; omega) | (congr 1; omega)
  exact ⟨by rw [hk]; rfl, hS⟩
end Go.Proofs.Ytmlhcafjelkjfaa

namespace Go.Proofs.Ytmlhcafjelkjfaa
open Go Go.E Go.ChangeShapes Go.WideShapes Go.RowKit
set_option linter.unusedVariables false
set_option linter.unusedSimpArgs false
set_option maxRecDepth 100000
theorem open_Rct {H : Type} {enc : TypeId × Value → H} {w : World} {n : Nat} {cs : List Value} {y : DataW H × List MemPlace} (h : DataW.trod enc Try.prog w 0 (fun _ => true) true n 24 cs = some y) : ∃ t : Rct, cs = encRct t ∧ True := by
  obtain ⟨ys, n1, _, _, hl, hyl, hf⟩ := DataW.trod_struct Try.underlying24 h
  have hl9 : cs.length = 4 := hl.trans (by kernel_rfl)
  obtain ⟨c0, c1, c2, c3, rfl⟩ : ∃ c0 c1 c2 c3, cs = [c0, c1, c2, c3] := by
    rcases cs with _ | ⟨c0, _ | ⟨c1, _ | ⟨c2, _ | ⟨c3, _ | ⟨_, _⟩⟩⟩⟩⟩ <;> first | exact ⟨c0, c1, c2, c3, rfl⟩ | (simp at hl9; done) | (simp at hl9; omega)
  have g1 : DataW.trod enc Try.prog w 0 (fun _ => true) true n1 3 [c0] = ys[0]? := Eq.mp (by kernel_rfl) (hf 0 _ rfl)
  obtain ⟨z2, hz3, _, hw4⟩ := DataW.trod_int Try.underlying3 (g1.trans (List.getElem?_eq_getElem (by rw [hyl]; decide)))
  simp only [List.cons.injEq, and_true] at hz3; subst hz3
  have g5 : DataW.trod enc Try.prog w 0 (fun _ => true) true n1 3 [c1] = ys[1]? := Eq.mp (by kernel_rfl) (hf 1 _ rfl)
  obtain ⟨z6, hz7, _, hw8⟩ := DataW.trod_int Try.underlying3 (g5.trans (List.getElem?_eq_getElem (by rw [hyl]; decide)))
  simp only [List.cons.injEq, and_true] at hz7; subst hz7
  have g9 : DataW.trod enc Try.prog w 0 (fun _ => true) true n1 3 [c2] = ys[2]? := Eq.mp (by kernel_rfl) (hf 2 _ rfl)
  obtain ⟨z10, hz11, _, hw12⟩ := DataW.trod_int Try.underlying3 (g9.trans (List.getElem?_eq_getElem (by rw [hyl]; decide)))
  simp only [List.cons.injEq, and_true] at hz11; subst hz11
  have g13 : DataW.trod enc Try.prog w 0 (fun _ => true) true n1 3 [c3] = ys[3]? := Eq.mp (by kernel_rfl) (hf 3 _ rfl)
  obtain ⟨z14, hz15, _, hw16⟩ := DataW.trod_int Try.underlying3 (g13.trans (List.getElem?_eq_getElem (by rw [hyl]; decide)))
  simp only [List.cons.injEq, and_true] at hz15; subst hz15
  exact ⟨⟨z2, z6, z10, z14⟩, rfl, trivial⟩
end Go.Proofs.Ytmlhcafjelkjfaa

namespace Go.Proofs.Ytmlhcafjelkjfaa
open Go Go.E
set_option linter.unusedVariables false
set_option linter.unusedSimpArgs false
set_option linter.unnecessarySimpa false
set_option maxRecDepth 100000
set_option maxHeartbeats 2000000
variable {W w : World} {H : Chunk} {F : List Chunk}
theorem r2_coord (n : Int) (hS : Sat W w (H :: F)) :
    Ro Try.prog 31 #[.int .i64 n] (.bool (decide (-(1048576 : Int) ≤ n ∧ n ≤ 1048576))) W w (H :: F) := by
  refine callsA 9 Try.func31 rfl ?_
  refine seqE <| regionE <| pu1 <| nilO <| thenK_n <| seqE <| regionE <| pu3 ?_
  refine sD 5 (n ≥ (-1048576)) (fun hc_1 => ?_) (fun hc_1 => ?_)
  rotate_left
  · refine pu4 <| nilO <| thenK_n <| retE <| retT [.bool false] <| ?_
    refine ⟨congrArg (fun b => Ending.returned (.bool b)) ?_, hS⟩
    first | rfl | (rw [Bool.eq_iff_iff]; simp only [decide_eq_true_eq, beq_iff_eq, bne_iff_ne, ne_eq, Bool.not_eq_true', decide_eq_false_iff_not, true_iff, false_iff, iff_true, iff_false, Bool.false_eq_true, Bool.and_eq_true, Bool.or_eq_true, gt_iff_lt, ge_iff_le] <;> omega) | (rw [Bool.eq_iff_iff]; simp [*] <;> omega) | (simp_all; done)
  refine pu4 <| nilO <| thenK_n <| retE <| retT [.bool (decide ((n : Int) ≤ 1048576))] <| ?_
  refine ⟨congrArg (fun b => Ending.returned (.bool b)) ?_, hS⟩
  first | rfl | (rw [Bool.eq_iff_iff]; simp only [decide_eq_true_eq, beq_iff_eq, bne_iff_ne, ne_eq, Bool.not_eq_true', decide_eq_false_iff_not, true_iff, false_iff, iff_true, iff_false, Bool.false_eq_true, Bool.and_eq_true, Bool.or_eq_true, gt_iff_lt, ge_iff_le] <;> omega) | (rw [Bool.eq_iff_iff]; simp [*] <;> omega) | (simp_all; done)
theorem r2_empty (r : Rct) (hS : Sat W w (H :: F)) :
    Ro Try.prog 37 #[.agg (encRct r).toArray] (.bool (decide (r.x0 = 0 ∧ r.y0 = 0 ∧ r.x1 = 0 ∧ r.y1 = 0))) W w (H :: F) := by
  refine callsA 6 Try.func37 rfl ?_
  refine seqE <| regionE ?_
  refine sBox hS (.agg (encRct r).toArray) (encRct r).toArray ?_
  intro b_1 w_2 hS_3
  refine pu1 <| nilO <| thenK_n <| seqE <| regionE ?_
  refine lA hS_3 0 0 4 (Try.isAgg24 _) (Try.sizeOf24 _) ?_
  refine pu1 ?_
  refine stepY (.bool (((r.x0 : Int) == 0) && ((r.y0 : Int) == 0) && ((r.x1 : Int) == 0) && ((r.y1 : Int) == 0))) rfl rfl (Y_eqS rfl (by kernel_rfl) (by kernel_rfl) (eqve24 _ r.x0 r.y0 r.x1 r.y1 0 0 0 0)) ?_
  refine pu1 <| nilO <| thenK_n <| retE <| retT [.bool (((r.x0 : Int) == 0) && ((r.y0 : Int) == 0) && ((r.x1 : Int) == 0) && ((r.y1 : Int) == 0))] <| ?_
  have hS_4 := (hS_3.dropAt 0 rfl)
  refine ⟨congrArg (fun b => Ending.returned (.bool b)) ?_, hS_4⟩
  first | rfl | (rw [Bool.eq_iff_iff]; simp only [decide_eq_true_eq, beq_iff_eq, bne_iff_ne, ne_eq, Bool.not_eq_true', decide_eq_false_iff_not, true_iff, false_iff, iff_true, iff_false, Bool.false_eq_true, Bool.and_eq_true, Bool.or_eq_true, gt_iff_lt, ge_iff_le] <;> omega) | (rw [Bool.eq_iff_iff]; simp [*] <;> omega) | (simp_all; done)
theorem r2_valid (r : Rct) (hS : Sat W w (H :: F)) :
    Ro Try.prog 16 #[.agg (encRct r).toArray] (.bool (decide (rvP r))) W w (H :: F) := by
  refine callsA 40 Try.func16 rfl ?_
  refine seqE <| regionE ?_
  refine sBox hS (.agg (encRct r).toArray) (encRct r).toArray ?_
  intro b_1 w_2 hS_3
  refine pu1 <| nilO <| thenK_n <| seqE <| regionE ?_
  refine lA hS_3 0 0 4 (Try.isAgg24 _) (Try.sizeOf24 _) ?_
  refine pu1 ?_
  refine stepY (.bool (((r.x0 : Int) == 0) && ((r.y0 : Int) == 0) && ((r.x1 : Int) == 0) && ((r.y1 : Int) == 0))) rfl rfl (Y_eqS rfl (by kernel_rfl) (by kernel_rfl) (eqve24 _ r.x0 r.y0 r.x1 r.y1 0 0 0 0)) ?_
  refine pu1 ?_
  rcases Classical.em ((r.x0 : Int) = 0 ∧ (r.y0 : Int) = 0 ∧ (r.x1 : Int) = 0 ∧ (r.y1 : Int) = 0) with hc_4 | hc_4
  · refine sFix 6 _ true (show (((r.x0 : Int) == 0) && ((r.y0 : Int) == 0) && ((r.x1 : Int) == 0) && ((r.y1 : Int) == 0)) = true from by simpa [and_assoc] using hc_4) ?_
    refine pu16 <| pu16 <| pu2 <| nilO <| thenK_n <| retE <| retT [.bool true] <| ?_
    have hS_5 := (hS_3.dropAt 0 rfl)
    refine ⟨congrArg (fun b => Ending.returned (.bool b)) ?_, hS_5⟩
    first | rfl | (rw [Bool.eq_iff_iff]; simp only [decide_eq_true_eq, beq_iff_eq, bne_iff_ne, ne_eq, Bool.not_eq_true', decide_eq_false_iff_not, true_iff, false_iff, iff_true, iff_false, Bool.false_eq_true, Bool.and_eq_true, Bool.or_eq_true, gt_iff_lt, ge_iff_le, rvP, cooP] <;> omega) | (rw [Bool.eq_iff_iff]; simp [rvP, cooP, *] <;> omega) | (simp_all; done)
  refine sFix 6 _ false (show (((r.x0 : Int) == 0) && ((r.y0 : Int) == 0) && ((r.x1 : Int) == 0) && ((r.y1 : Int) == 0)) = false from by rw [← Bool.not_eq_true]; intro h_; exact hc_4 (by simpa [and_assoc] using h_)) ?_
  refine pu1 <| gY ?_
  refine sL hS_3 0 0 (.int .i64 r.x0) (Try.isAgg3 _) ?_
  refine gY ?_
  refine cR Try.call31 (r2_coord r.x0 (Sat.flat hS_3)) ?_
  intro w_6 hS_7
  refine pu1 ?_
  refine sD 10 (-(1048576 : Int) ≤ r.x0 ∧ r.x0 ≤ 1048576) (fun hc_9 => ?_) (fun hc_9 => ?_)
  rotate_left
  · refine pu16 <| pu14 <| nilO <| thenK_n <| retE <| retT [.bool false] <| ?_
    have hS_28 := (hS_7.dropAt 0 rfl)
    refine ⟨congrArg (fun b => Ending.returned (.bool b)) ?_, hS_28⟩
    first | rfl | (rw [Bool.eq_iff_iff]; simp only [decide_eq_true_eq, beq_iff_eq, bne_iff_ne, ne_eq, Bool.not_eq_true', decide_eq_false_iff_not, true_iff, false_iff, iff_true, iff_false, Bool.false_eq_true, Bool.and_eq_true, Bool.or_eq_true, gt_iff_lt, ge_iff_le, rvP, cooP] <;> omega) | (rw [Bool.eq_iff_iff]; simp [rvP, cooP, *] <;> omega) | (simp_all; done)
  refine pu1 <| gY ?_
  refine sL hS_7 0 1 (.int .i64 r.y0) (Try.isAgg3 _) ?_
  refine gY ?_
  refine cR Try.call31 (r2_coord r.y0 (Sat.flat hS_7)) ?_
  intro w_10 hS_11
  refine pu2 ?_
  refine sD 15 (-(1048576 : Int) ≤ r.y0 ∧ r.y0 ≤ 1048576) (fun hc_13 => ?_) (fun hc_13 => ?_)
  rotate_left
  · refine pu16 <| pu9 <| nilO <| thenK_n <| retE <| retT [.bool false] <| ?_
    have hS_27 := (hS_11.dropAt 0 rfl)
    refine ⟨congrArg (fun b => Ending.returned (.bool b)) ?_, hS_27⟩
    first | rfl | (rw [Bool.eq_iff_iff]; simp only [decide_eq_true_eq, beq_iff_eq, bne_iff_ne, ne_eq, Bool.not_eq_true', decide_eq_false_iff_not, true_iff, false_iff, iff_true, iff_false, Bool.false_eq_true, Bool.and_eq_true, Bool.or_eq_true, gt_iff_lt, ge_iff_le, rvP, cooP] <;> omega) | (rw [Bool.eq_iff_iff]; simp [rvP, cooP, *] <;> omega) | (simp_all; done)
  refine pu1 <| gY ?_
  refine sL hS_11 0 2 (.int .i64 r.x1) (Try.isAgg3 _) ?_
  refine gY ?_
  refine cR Try.call31 (r2_coord r.x1 (Sat.flat hS_11)) ?_
  intro w_14 hS_15
  refine pu2 ?_
  refine sD 20 (-(1048576 : Int) ≤ r.x1 ∧ r.x1 ≤ 1048576) (fun hc_17 => ?_) (fun hc_17 => ?_)
  rotate_left
  · refine pu16 <| pu4 <| nilO <| thenK_n <| retE <| retT [.bool false] <| ?_
    have hS_26 := (hS_15.dropAt 0 rfl)
    refine ⟨congrArg (fun b => Ending.returned (.bool b)) ?_, hS_26⟩
    first | rfl | (rw [Bool.eq_iff_iff]; simp only [decide_eq_true_eq, beq_iff_eq, bne_iff_ne, ne_eq, Bool.not_eq_true', decide_eq_false_iff_not, true_iff, false_iff, iff_true, iff_false, Bool.false_eq_true, Bool.and_eq_true, Bool.or_eq_true, gt_iff_lt, ge_iff_le, rvP, cooP] <;> omega) | (rw [Bool.eq_iff_iff]; simp [rvP, cooP, *] <;> omega) | (simp_all; done)
  refine pu1 <| gY ?_
  refine sL hS_15 0 3 (.int .i64 r.y1) (Try.isAgg3 _) ?_
  refine gY ?_
  refine cR Try.call31 (r2_coord r.y1 (Sat.flat hS_15)) ?_
  intro w_18 hS_19
  refine pu2 ?_
  refine sD 25 (-(1048576 : Int) ≤ r.y1 ∧ r.y1 ≤ 1048576) (fun hc_21 => ?_) (fun hc_21 => ?_)
  rotate_left
  · refine pu15 <| nilO <| thenK_n <| retE <| retT [.bool false] <| ?_
    have hS_25 := (hS_19.dropAt 0 rfl)
    refine ⟨congrArg (fun b => Ending.returned (.bool b)) ?_, hS_25⟩
    first | rfl | (rw [Bool.eq_iff_iff]; simp only [decide_eq_true_eq, beq_iff_eq, bne_iff_ne, ne_eq, Bool.not_eq_true', decide_eq_false_iff_not, true_iff, false_iff, iff_true, iff_false, Bool.false_eq_true, Bool.and_eq_true, Bool.or_eq_true, gt_iff_lt, ge_iff_le, rvP, cooP] <;> omega) | (rw [Bool.eq_iff_iff]; simp [rvP, cooP, *] <;> omega) | (simp_all; done)
  refine pu1 <| gY ?_
  refine sL hS_19 0 0 (.int .i64 r.x0) (Try.isAgg3 _) ?_
  refine pu1 <| gY ?_
  refine sL hS_19 0 2 (.int .i64 r.x1) (Try.isAgg3 _) ?_
  refine pu3 ?_
  refine sD 32 (r.x0 < r.x1) (fun hc_22 => ?_) (fun hc_22 => ?_)
  rotate_left
  · refine pu8 <| nilO <| thenK_n <| retE <| retT [.bool false] <| ?_
    have hS_24 := (hS_19.dropAt 0 rfl)
    refine ⟨congrArg (fun b => Ending.returned (.bool b)) ?_, hS_24⟩
    first | rfl | (rw [Bool.eq_iff_iff]; simp only [decide_eq_true_eq, beq_iff_eq, bne_iff_ne, ne_eq, Bool.not_eq_true', decide_eq_false_iff_not, true_iff, false_iff, iff_true, iff_false, Bool.false_eq_true, Bool.and_eq_true, Bool.or_eq_true, gt_iff_lt, ge_iff_le, rvP, cooP] <;> omega) | (rw [Bool.eq_iff_iff]; simp [rvP, cooP, *] <;> omega) | (simp_all; done)
  refine pu1 <| gY ?_
  refine sL hS_19 0 1 (.int .i64 r.y0) (Try.isAgg3 _) ?_
  refine pu1 <| gY ?_
  refine sL hS_19 0 3 (.int .i64 r.y1) (Try.isAgg3 _) ?_
  refine pu4 <| nilO <| thenK_n <| retE <| retT [.bool (decide ((r.y0 : Int) < r.y1))] <| ?_
  have hS_23 := (hS_19.dropAt 0 rfl)
  refine ⟨congrArg (fun b => Ending.returned (.bool b)) ?_, hS_23⟩
  first | rfl | (rw [Bool.eq_iff_iff]; simp only [decide_eq_true_eq, beq_iff_eq, bne_iff_ne, ne_eq, Bool.not_eq_true', decide_eq_false_iff_not, true_iff, false_iff, iff_true, iff_false, Bool.false_eq_true, Bool.and_eq_true, Bool.or_eq_true, gt_iff_lt, ge_iff_le, rvP, cooP] <;> omega) | (rw [Bool.eq_iff_iff]; simp [rvP, cooP, *] <;> omega) | (simp_all; done)
theorem r2_full (r : Rct) (hS : Sat W w (H :: F)) :
    Ro Try.prog 25 #[.agg (encRct r).toArray] (.bool (decide (rvP r ∧ ¬ (r.x0 = 0 ∧ r.y0 = 0 ∧ r.x1 = 0 ∧ r.y1 = 0)))) W w (H :: F) := by
  refine callsA 10 Try.func25 rfl ?_
  refine seqE <| regionE ?_
  refine sBox hS (.agg (encRct r).toArray) (encRct r).toArray ?_
  intro b_1 w_2 hS_3
  refine pu1 <| nilO <| thenK_n <| seqE <| regionE ?_
  refine lA hS_3 0 0 4 (Try.isAgg24 _) (Try.sizeOf24 _) ?_
  refine cR Try.call16 (r2_valid r (Sat.flat hS_3)) ?_
  intro w_4 hS_5
  refine pu1 ?_
  refine sD 5 (rvP r) (fun hc_7 => ?_) (fun hc_7 => ?_)
  rotate_left
  · refine pu5 <| nilO <| thenK_n <| retE <| retT [.bool false] <| ?_
    have hS_12 := (hS_5.dropAt 0 rfl)
    exact ⟨congrArg (fun b => Ending.returned (.bool b)) (by rw [Bool.eq_iff_iff]; simp_all), hS_12⟩
  refine gY ?_
  refine lA hS_5 0 0 4 (Try.isAgg24 _) (Try.sizeOf24 _) ?_
  refine gY ?_
  refine cR Try.call37 (r2_empty r (Sat.flat hS_5)) ?_
  intro w_8 hS_9
  refine pu3 <| nilO <| thenK_n <| retE <| retT [.bool (!decide (r.x0 = 0 ∧ r.y0 = 0 ∧ r.x1 = 0 ∧ r.y1 = 0))] <| ?_
  have hS_11 := (hS_9.dropAt 0 rfl)
  exact ⟨congrArg (fun b => Ending.returned (.bool b)) (by rw [Bool.eq_iff_iff]; simp_all), hS_11⟩
end Go.Proofs.Ytmlhcafjelkjfaa
