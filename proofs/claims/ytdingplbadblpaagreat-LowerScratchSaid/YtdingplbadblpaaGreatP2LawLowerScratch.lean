/- LowerScratch, for every input: the call returns true, and every argument reads afterwards as it read before. No condition. -/
import Derived.Test.YtdingplbadblpaaGreatRows
import Derived.Test.YtdingplbadblpaaGreatP2RowO
import Derived.Test.YtdingplbadblpaaGreatP2Ls
import Derived.WalkKit
import Derived.ProofKit
import Derived.OpenShut
import Derived.ShutString
import Derived.ChangeOld
import Derived.Below
namespace Go.Proofs.YtdingplbadblpaaGreat.lowerScratch
open Go.ChangeShapes Go.WideShapes Go.ChangeAt Go.RowKit
set_option linter.unusedVariables false

theorem own : ownKnob Tryz.prog.godebug = none := by kernel_rfl
theorem laidOut : laidOutB Tryz.prog = true := by kernel_rfl

theorem walk (a0 : Option Addr) (len0 cap0 : Nat) (z0 : List Int) (a1 : Shape) (a2 : Int) (a3 : Rct) (w : World) (w0 : Go.E.RdT Go.E.encI 1 [Go.E.blocks w] a0 len0 cap0 z0) (w2 : (Lit.int .i64 a2).wf = true) :
    Calls Tryz.prog 5 #[.slice a0 len0 cap0, .agg (encShape a1).toArray, .int .i64 a2, .agg (encRct a3).toArray] w fun e w' => e = .returned (.bool true) ∧ Below w.heap.size w w' := by
  refine (l20_scratch w w (Go.E.blocks w) [] a0 len0 cap0 z0 a1 a2 a3 w0 (bounds_i64 w2) (Go.E.sat_start w)).mono fun e w' h => ?_
  exact ⟨h.1, Go.E.below_of_sat h.2 (fun p hp => by simpa using hp)⟩

set_option maxRecDepth 100000 in
theorem lifted (os : Os) (started : os.Started) (H : Type) (enc : TypeId × Value → H) :
    ReturnsInHanded {} Tryz.checked os 5 .any (Rows.lowerScratchSpec.pre6 enc Tryz.prog Tryz.f5 Rows.lowerScratchRow.domain false) (Rows.lowerScratchSpec.post enc Tryz.prog Tryz.f5 false true false false) := by
  refine returnsInHanded_of_change (C := Tryz.checked) own started (by kernel_rfl) Tryz.func5
    (ChangeSpec.witness6 (enc := enc) (C := Tryz.checked) false ⟨#[], #[.slice none 0 0, .agg #[.int .i64 0, .int .i64 0, .int .i64 0], .int .i64 0, .agg #[.int .i64 0, .int .i64 0, .int .i64 0, .int .i64 0]], []⟩ 8 (by kernel_rfl) (by kernel_rfl) (by kernel_rfl) (by kernel_rfl)) ?_
  intro W base args ds gs before hval0 hW hcnd _
  have hval : ∀ (j : Nat) t v, Tryz.f5.params[j]? = some t → args[j]? = some v → Value.okWide Tryz.prog W .any base t v := hval0
  have hW' := hW
  obtain ⟨p, q, hA0, hV, rfl, hfz, hnd⟩ := hW
  have hA : DataW.TrodAll enc Tryz.prog W 0 (fun _ => true) true Tryz.f5.params.toList args.toList ds p := hA0
  rw [Tryz.params5] at hA hval
  obtain ⟨v0, vs0, d0, ds0, p0, q0, hargs, rfl, rfl, h0, r0⟩ := trodAll_cons hA
  obtain ⟨v1, vs1, d1, ds1, p1, q1, rfl, rfl, rfl, h1, r1⟩ := trodAll_cons r0
  obtain ⟨v2, vs2, d2, ds2, p2, q2, rfl, rfl, rfl, h2, r2⟩ := trodAll_cons r1
  obtain ⟨v3, vs3, d3, ds3, p3, q3, rfl, rfl, rfl, h3, r3⟩ := trodAll_cons r2
  obtain ⟨rfl, rfl, rfl⟩ := trodAll_nil r3
  obtain rfl : args = #[v0, v1, v2, v3] := by cases args; simp_all
  obtain ⟨rfl, rfl⟩ := trodVars_none hV
  obtain ⟨a0, len0, cap0, rfl⟩ := okWide_slice Tryz.underlying22 (hval 0 22 v0 rfl rfl)
  have k0 := h0
  have lt0 : ∀ x ∈ p0, x.block < W.heap.size := by obtain ⟨m, hm⟩ := k0; exact DataW.trod_lt m _ _ _ hm
  obtain ⟨z0, w0⟩ : ∃ l, Go.E.RdT Go.E.encI 1 [Go.E.blocks W] a0 len0 cap0 l := by
    obtain ⟨fuel, hf⟩ := h0
    obtain ⟨a, m, k, l, hcs, hR⟩ := Go.E.ints_row Tryz.underlying22 Tryz.underlying3 (by kernel_rfl) hf
    simp [Value.cells] at hcs
    obtain ⟨rfl, rfl, rfl⟩ := hcs
    exact ⟨l, hR⟩
  obtain ⟨cs1, rfl, _⟩ := okWide_struct Tryz.underlying54 (hval 1 54 v1 rfl rfl)
  have k1 := h1
  have lt1 : ∀ x ∈ p1, x.block < W.heap.size := by obtain ⟨m, hm⟩ := k1; exact DataW.trod_lt m _ _ _ hm
  obtain ⟨a1, ha1⟩ : ∃ z : Shape, cs1 = (encShape z).toArray := by
    obtain ⟨fuel, hf⟩ := h1
    obtain ⟨z, hz, _⟩ := open_Shape hf
    exact ⟨z, by rw [← hz]; simp [Value.cells]⟩
  subst ha1
  obtain ⟨a2, rfl, rfl, rfl, w2⟩ := open_int Tryz.underlying3 (hval 2 3 v2 rfl rfl) h2
  obtain ⟨cs3, rfl, _⟩ := okWide_struct Tryz.underlying44 (hval 3 44 v3 rfl rfl)
  have k3 := h3
  have lt3 : ∀ x ∈ p3, x.block < W.heap.size := by obtain ⟨m, hm⟩ := k3; exact DataW.trod_lt m _ _ _ hm
  obtain ⟨a3, ha3⟩ : ∃ z : Rct, cs3 = (encRct z).toArray := by
    obtain ⟨fuel, hf⟩ := h3
    obtain ⟨z, hz, _⟩ := open_Rct hf
    exact ⟨z, by rw [← hz]; simp [Value.cells]⟩
  subst ha3
  clear hA0 hval0
  refine (walk a0 len0 cap0 z0 a1 a2 a3 W w0 w2).mono fun e W' ⟨he, bel⟩ => ?_
  subst he
  exact ⟨_, rfl, _, _, _, [], _, [], hW', trodAll_mk1 (shut_bool Tryz.underlying4 _), (trodAll_cons_mk (Below.trod laidOut (by kernel_rfl) (of_decide_eq_true (by kernel_rfl)) k0 bel lt0) (trodAll_cons_mk (Below.trod laidOut (by kernel_rfl) (of_decide_eq_true (by kernel_rfl)) k1 bel lt1) (trodAll_cons_mk (shut_int Tryz.underlying3 w2) (trodAll_cons_mk (Below.trod laidOut (by kernel_rfl) (of_decide_eq_true (by kernel_rfl)) k3 bel lt3) trodAll_mk0)))), rfl, bel.frame _, fun h => by cases h⟩

theorem over : Rows.lowerScratchRow.holds Tryz.pinned (OpenSpec.ofChange Rows.lowerScratchSpec) :=
  OpenClaim.holds_of_wide 5 Tryz.f5 rfl rfl rfl rfl rfl rfl rfl ⟨rfl, rfl, rfl, rfl, rfl⟩ rfl rfl rfl rfl rfl (by kernel_rfl) Tryz.func5 (by kernel_rfl)
    (of_decide_eq_true (by kernel_rfl)) (by unfold Func.isWrapper; first | (rw [if_pos (by decide +kernel)]; kernel_rfl) | (rw [if_neg (by decide +kernel)]; exact ⟨rfl, rfl⟩))
    (fun os started H enc _ => lifted os started H enc)

theorem proved : Rows.LowerScratchSaid := over
end Go.Proofs.YtdingplbadblpaaGreat.lowerScratch
