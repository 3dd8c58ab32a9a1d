/- ScriptTexts (second form), for every input of bulk at most 1048576: the call returns true, and every argument reads afterwards as it read before. The condition is that of the given second form. -/
import Derived.Test.YtlhahicakkpnhaaGreatRows
import Derived.Test.YtlhahicakkpnhaaGreatRowO
import Derived.Test.YtlhahicakkpnhaaGreatSc4
import Derived.Test.YtlhahicakkpnhaaGreatRowO
import Derived.Test.YtlhahicakkpnhaaGreatUp
import Derived.JoinedCond
import Derived.WalkKit
import Derived.ProofKit
import Derived.OpenShut
import Derived.ShutString
import Derived.ChangeOld
import Derived.Below
namespace Go.Proofs.YtlhahicakkpnhaaGreat.scriptTexts
open Go.ChangeShapes Go.WideShapes Go.ChangeAt Go.RowKit
set_option linter.unusedVariables false

theorem own : ownKnob Tryz.prog.godebug = none := by kernel_rfl
theorem laidOut : laidOutB Tryz.prog = true := by kernel_rfl

theorem walk (a0 : Option Addr) (len0 cap0 : Nat) (z0 : List Int) (a1 : Option Addr) (len1 cap1 : Nat) (z1 : List Int) (a2 : Option Addr) (len2 cap2 : Nat) (z2 : List Ent) (w : World) (w0 : Go.E.RdT Go.E.encI 1 [Go.E.blocks w] a0 len0 cap0 z0) (w1 : Go.E.RdT Go.E.encB 1 [Go.E.blocks w] a1 len1 cap1 z1) (k1 : Go.E.Bytes z1) (w2 : Go.E.RdT encEnt 3 [Go.E.blocks w] a2 len2 cap2 z2) (u0 : len0 ≤ 1048576) (u1 : len1 ≤ 1048576) (u2 : len2 ≤ 1048576) :
    Calls Tryz.prog 3 #[.slice a0 len0 cap0, .slice a1 len1 cap1, .slice a2 len2 cap2] w fun e w' => e = .returned (.bool true) ∧ Below w.heap.size w w' := by
  refine (l30_texts w w (Go.E.blocks w) [] a0 len0 cap0 z0 a1 len1 cap1 z1 a2 len2 cap2 z2 w0 w1 k1 w2 u0 u1 u2 (Go.E.sat_start w)).mono fun e w' h => ?_
  exact ⟨h.1, Go.E.below_of_sat h.2 (fun p hp => by simpa using hp)⟩

set_option maxRecDepth 100000 in
theorem lifted (os : Os) (started : os.Started) (H : Type) (enc : TypeId × Value → H) (F : Stop.Interp) :
    ReturnsInHanded {} Tryz.checked os 3 .any ((Rows.OpenSpec.upto Rows.scriptTextsSpec).pre6 enc Tryz.prog Tryz.f3 Rows.scriptTextsUptoRow.domain false) (((Rows.OpenSpec.upto Rows.scriptTextsSpec).at F).post enc Tryz.prog Tryz.f3 false true false false) := by
  refine returnsInHanded_of_cond (C := Tryz.checked) (s := Rows.OpenSpec.upto Rows.scriptTextsSpec) (k := Rows.uptoSmall) rfl own started (by kernel_rfl) Tryz.func3
    (OpenSpec.witness (enc := enc) (C := Tryz.checked) (s := Rows.OpenSpec.upto Rows.scriptTextsSpec) (k := Rows.uptoSmall) rfl false ⟨#[], #[.slice none 0 0, .slice none 0 0, .slice none 0 0], []⟩ 8 (by kernel_rfl) (by kernel_rfl) (by kernel_rfl)
      (x := ([.nil, .nil, .nil], [], [])) (by kernel_rfl) rfl (by kernel_rfl)) ?_
  intro W base args ds gs before hval0 hW _ hk _
  have hval : ∀ (j : Nat) t v, Tryz.f3.params[j]? = some t → args[j]? = some v → Value.okWide Tryz.prog W .any base t v := hval0
  have hW' := hW
  obtain ⟨p, q, hA0, hV, rfl, hfz, hnd⟩ := hW
  have hA : DataW.TrodAll enc Tryz.prog W 0 (fun _ => true) true Tryz.f3.params.toList args.toList ds p := hA0
  rw [Tryz.params3] at hA hval
  obtain ⟨v0, vs0, d0, ds0, p0, q0, hargs, rfl, rfl, h0, r0⟩ := trodAll_cons hA
  obtain ⟨v1, vs1, d1, ds1, p1, q1, rfl, rfl, rfl, h1, r1⟩ := trodAll_cons r0
  obtain ⟨v2, vs2, d2, ds2, p2, q2, rfl, rfl, rfl, h2, r2⟩ := trodAll_cons r1
  obtain ⟨rfl, rfl, rfl⟩ := trodAll_nil r2
  obtain rfl : args = #[v0, v1, v2] := by cases args; simp_all
  obtain ⟨rfl, rfl⟩ := trodVars_none hV
  obtain ⟨a0, len0, cap0, rfl⟩ := okWide_slice Tryz.underlying22 (hval 0 22 v0 rfl rfl)
  have k0 := h0
  have lt0 : ∀ x ∈ p0, x.block < W.heap.size := by obtain ⟨m, hm⟩ := k0; exact DataW.trod_lt m _ _ _ hm
  obtain ⟨z0, w0⟩ : ∃ l, Go.E.RdT Go.E.encI 1 [Go.E.blocks W] a0 len0 cap0 l := by
    obtain ⟨fuel, hf⟩ := h0
    obtain ⟨a, m, k, l, hcs, hR⟩ := Go.E.ints_row Tryz.underlying22 Tryz.underlying3 (by kernel_rfl) hf
    simp [Value.cells] at hcs
    obtain ⟨rfl, rfl, rfl⟩ := hcs
    exact ⟨l, hR⟩
  obtain ⟨a1, len1, cap1, rfl⟩ := okWide_slice Tryz.underlying23 (hval 1 23 v1 rfl rfl)
  have k1 := h1
  have lt1 : ∀ x ∈ p1, x.block < W.heap.size := by obtain ⟨m, hm⟩ := k1; exact DataW.trod_lt m _ _ _ hm
  obtain ⟨z1, w1, x1⟩ : ∃ l, Go.E.RdT Go.E.encB 1 [Go.E.blocks W] a1 len1 cap1 l ∧ Go.E.Bytes l := by
    obtain ⟨fuel, hf⟩ := h1
    obtain ⟨a, m, k, l, hcs, hR, hQ⟩ := Go.E.bytes_row2 Tryz.underlying23 Tryz.underlying5 (by kernel_rfl) hf
    simp [Value.cells] at hcs
    obtain ⟨rfl, rfl, rfl⟩ := hcs
    exact ⟨l, hR, hQ⟩
  obtain ⟨a2, len2, cap2, rfl⟩ := okWide_slice Tryz.underlying24 (hval 2 24 v2 rfl rfl)
  have k2 := h2
  have lt2 : ∀ x ∈ p2, x.block < W.heap.size := by obtain ⟨m, hm⟩ := k2; exact DataW.trod_lt m _ _ _ hm
  obtain ⟨z2, w2⟩ : ∃ l, Go.E.RdT encEnt 3 [Go.E.blocks W] a2 len2 cap2 l := by
    obtain ⟨fuel, hf⟩ := h2
    obtain ⟨a, m, k, l, hcs, hR, hQ⟩ := Go.E.structs_row (en := encEnt) (sz := 3) (fun _ => rfl) (by decide) Tryz.underlying24 (by kernel_rfl) (fun n cs y h => open_Ent h) hf
    simp [Value.cells] at hcs
    obtain ⟨rfl, rfl, rfl⟩ := hcs
    exact ⟨l, hR⟩
  have hbk := of_decide_eq_true hk
  simp only [List.append_nil, List.cons_append, List.nil_append, Rows.uptoBulkAll] at hbk
  have u0 : len0 ≤ 1048576 := by
    obtain ⟨fuel, hf⟩ := h0
    have := Go.E.slice_bulk Tryz.underlying22 hf
    dsimp only at this; omega
  have u1 : len1 ≤ 1048576 := by
    obtain ⟨fuel, hf⟩ := h1
    have := Go.E.slice_bulk Tryz.underlying23 hf
    dsimp only at this; omega
  have u2 : len2 ≤ 1048576 := by
    obtain ⟨fuel, hf⟩ := h2
    have := Go.E.slice_bulk Tryz.underlying24 hf
    dsimp only at this; omega
  clear hA0 hval0
  refine (walk a0 len0 cap0 z0 a1 len1 cap1 z1 a2 len2 cap2 z2 W w0 w1 x1 w2 u0 u1 u2).mono fun e W' ⟨he, bel⟩ => ?_
  subst he
  exact ⟨_, rfl, _, _, _, [], _, [], hW', trodAll_mk1 (shut_bool Tryz.underlying4 _), (trodAll_cons_mk (Below.trod laidOut (by kernel_rfl) (of_decide_eq_true (by kernel_rfl)) k0 bel lt0) (trodAll_cons_mk (Below.trod laidOut (by kernel_rfl) (of_decide_eq_true (by kernel_rfl)) k1 bel lt1) (trodAll_cons_mk (Below.trod laidOut (by kernel_rfl) (of_decide_eq_true (by kernel_rfl)) k2 bel lt2) trodAll_mk0))), rfl, bel.frame _, fun h => by cases h⟩

theorem over : Rows.scriptTextsUptoRow.holds Tryz.pinned (Rows.OpenSpec.upto Rows.scriptTextsSpec) :=
  OpenClaim.holds_of_cond 3 Tryz.f3 rfl rfl rfl rfl rfl rfl rfl ⟨rfl, rfl, rfl, rfl, rfl⟩ rfl rfl rfl rfl rfl (by kernel_rfl) Tryz.func3 (by kernel_rfl)
    (of_decide_eq_true (by kernel_rfl)) (by unfold Func.isWrapper; first | (rw [if_pos (by decide +kernel)]; kernel_rfl) | (rw [if_neg (by decide +kernel)]; exact ⟨rfl, rfl⟩))
    (fun os started H enc _ F => lifted os started H enc F)

theorem proved : Rows.ScriptTextsUptoSaid := over
end Go.Proofs.YtlhahicakkpnhaaGreat.scriptTexts
