import Derived.Test.YtlhahicakkpnhaaGreatRowS
import Derived.Test.YtlhahicakkpnhaaGreatSc
namespace Go.Proofs.YtlhahicakkpnhaaGreat
open Go Go.E Go.ChangeShapes Go.WideShapes Go.RowKit
set_option linter.unusedVariables false
set_option linter.unusedSimpArgs false
set_option maxRecDepth 100000
theorem open_Ent {H : Type} {enc : TypeId × Value → H} {w : World} {n : Nat} {cs : List Value} {y : DataW H × List MemPlace} (h : DataW.trod enc Tryz.prog w 0 (fun _ => true) true n 37 cs = some y) : ∃ t : Ent, cs = encEnt t ∧ True := by
  obtain ⟨ys, n1, _, _, hl, hyl, hf⟩ := DataW.trod_struct Tryz.underlying37 h
  have hl9 : cs.length = 3 := hl.trans (by kernel_rfl)
  obtain ⟨c0, c1, c2, rfl⟩ : ∃ c0 c1 c2, cs = [c0, c1, c2] := by
    rcases cs with _ | ⟨c0, _ | ⟨c1, _ | ⟨c2, _ | ⟨_, _⟩⟩⟩⟩ <;> first | exact ⟨c0, c1, c2, rfl⟩ | (simp at hl9; done) | (simp at hl9; omega)
  have g1 : DataW.trod enc Tryz.prog w 0 (fun _ => true) true n1 3 [c0] = ys[0]? := Eq.mp (by kernel_rfl) (hf 0 _ rfl)
  obtain ⟨z2, hz3, _, hw4⟩ := DataW.trod_int Tryz.underlying3 (g1.trans (List.getElem?_eq_getElem (by rw [hyl]; decide)))
  simp only [List.cons.injEq, and_true] at hz3; subst hz3
  have g5 : DataW.trod enc Tryz.prog w 0 (fun _ => true) true n1 3 [c1] = ys[1]? := Eq.mp (by kernel_rfl) (hf 1 _ rfl)
  obtain ⟨z6, hz7, _, hw8⟩ := DataW.trod_int Tryz.underlying3 (g5.trans (List.getElem?_eq_getElem (by rw [hyl]; decide)))
  simp only [List.cons.injEq, and_true] at hz7; subst hz7
  have g9 : DataW.trod enc Tryz.prog w 0 (fun _ => true) true n1 3 [c2] = ys[2]? := Eq.mp (by kernel_rfl) (hf 2 _ rfl)
  obtain ⟨z10, hz11, _, hw12⟩ := DataW.trod_int Tryz.underlying3 (g9.trans (List.getElem?_eq_getElem (by rw [hyl]; decide)))
  simp only [List.cons.injEq, and_true] at hz11; subst hz11
  exact ⟨⟨z2, z6, z10⟩, rfl, trivial⟩
end Go.Proofs.YtlhahicakkpnhaaGreat
