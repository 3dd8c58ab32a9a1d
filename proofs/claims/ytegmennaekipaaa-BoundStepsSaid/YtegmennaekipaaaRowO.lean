import Derived.Test.YtegmennaekipaaaRowS
import Derived.Test.YtegmennaekipaaaApi
namespace Go.Proofs.Ytegmennaekipaaa
open Go Go.E Go.ChangeShapes Go.WideShapes Go.RowKit
set_option linter.unusedVariables false
set_option linter.unusedSimpArgs false
set_option maxRecDepth 100000
theorem open_Task {H : Type} {enc : TypeId × Value → H} {w : World} {n : Nat} {cs : List Value} {y : DataW H × List MemPlace} (h : DataW.trod enc Try.prog w 0 (fun _ => true) true n 31 cs = some y) : ∃ t : Task, cs = encTask t ∧ Task.Ok [blocks w] t := by
  obtain ⟨ys, n1, _, _, hl, hyl, hf⟩ := DataW.trod_struct Try.underlying31 h
  have hl9 : cs.length = 9 := hl.trans (by kernel_rfl)
  obtain ⟨c0, c1, c2, c3, c4, c5, c6, c7, c8, rfl⟩ : ∃ c0 c1 c2 c3 c4 c5 c6 c7 c8, cs = [c0, c1, c2, c3, c4, c5, c6, c7, c8] := by
    rcases cs with _ | ⟨c0, _ | ⟨c1, _ | ⟨c2, _ | ⟨c3, _ | ⟨c4, _ | ⟨c5, _ | ⟨c6, _ | ⟨c7, _ | ⟨c8, _ | ⟨_, _⟩⟩⟩⟩⟩⟩⟩⟩⟩⟩ <;> first | exact ⟨c0, c1, c2, c3, c4, c5, c6, c7, c8, rfl⟩ | (simp at hl9; done) | (simp at hl9; omega)
  have g1 : DataW.trod enc Try.prog w 0 (fun _ => true) true n1 3 [c0] = ys[0]? := Eq.mp (by kernel_rfl) (hf 0 _ rfl)
  obtain ⟨z2, hz3, _, hw4⟩ := DataW.trod_int Try.underlying3 (g1.trans (List.getElem?_eq_getElem (by rw [hyl]; decide)))
  simp only [List.cons.injEq, and_true] at hz3; subst hz3
  have g5 : DataW.trod enc Try.prog w 0 (fun _ => true) true n1 3 [c1] = ys[1]? := Eq.mp (by kernel_rfl) (hf 1 _ rfl)
  obtain ⟨z6, hz7, _, hw8⟩ := DataW.trod_int Try.underlying3 (g5.trans (List.getElem?_eq_getElem (by rw [hyl]; decide)))
  simp only [List.cons.injEq, and_true] at hz7; subst hz7
  have g9 : DataW.trod enc Try.prog w 0 (fun _ => true) true n1 29 [c2, c3, c4, c5] = ys[2]? := Eq.mp (by kernel_rfl) (hf 2 _ rfl)
  obtain ⟨ys10, n11, _, _, _, hyl12, hf13⟩ := DataW.trod_struct Try.underlying29 (g9.trans (List.getElem?_eq_getElem (by rw [hyl]; decide)))
  have g14 : DataW.trod enc Try.prog w 0 (fun _ => true) true n11 3 [c2] = ys10[0]? := Eq.mp (by kernel_rfl) (hf13 0 _ rfl)
  obtain ⟨z15, hz16, _, hw17⟩ := DataW.trod_int Try.underlying3 (g14.trans (List.getElem?_eq_getElem (by rw [hyl12]; decide)))
  simp only [List.cons.injEq, and_true] at hz16; subst hz16
  have g18 : DataW.trod enc Try.prog w 0 (fun _ => true) true n11 3 [c3] = ys10[1]? := Eq.mp (by kernel_rfl) (hf13 1 _ rfl)
  obtain ⟨z19, hz20, _, hw21⟩ := DataW.trod_int Try.underlying3 (g18.trans (List.getElem?_eq_getElem (by rw [hyl12]; decide)))
  simp only [List.cons.injEq, and_true] at hz20; subst hz20
  have g22 : DataW.trod enc Try.prog w 0 (fun _ => true) true n11 3 [c4] = ys10[2]? := Eq.mp (by kernel_rfl) (hf13 2 _ rfl)
  obtain ⟨z23, hz24, _, hw25⟩ := DataW.trod_int Try.underlying3 (g22.trans (List.getElem?_eq_getElem (by rw [hyl12]; decide)))
  simp only [List.cons.injEq, and_true] at hz24; subst hz24
  have g26 : DataW.trod enc Try.prog w 0 (fun _ => true) true n11 3 [c5] = ys10[3]? := Eq.mp (by kernel_rfl) (hf13 3 _ rfl)
  obtain ⟨z27, hz28, _, hw29⟩ := DataW.trod_int Try.underlying3 (g26.trans (List.getElem?_eq_getElem (by rw [hyl12]; decide)))
  simp only [List.cons.injEq, and_true] at hz28; subst hz28
  have g30 : DataW.trod enc Try.prog w 0 (fun _ => true) true n1 22 [c6] = ys[3]? := Eq.mp (by kernel_rfl) (hf 3 _ rfl)
  obtain ⟨a31, m32, k33, l34, hz35, hR36⟩ := ints_row Try.underlying22 Try.underlying3 (by kernel_rfl) (g30.trans (List.getElem?_eq_getElem (by rw [hyl]; decide)))
  simp only [List.cons.injEq, and_true] at hz35; subst hz35
  have g37 : DataW.trod enc Try.prog w 0 (fun _ => true) true n1 3 [c7] = ys[4]? := Eq.mp (by kernel_rfl) (hf 4 _ rfl)
  obtain ⟨z38, hz39, _, hw40⟩ := DataW.trod_int Try.underlying3 (g37.trans (List.getElem?_eq_getElem (by rw [hyl]; decide)))
  simp only [List.cons.injEq, and_true] at hz39; subst hz39
  have g41 : DataW.trod enc Try.prog w 0 (fun _ => true) true n1 3 [c8] = ys[5]? := Eq.mp (by kernel_rfl) (hf 5 _ rfl)
  obtain ⟨z42, hz43, _, hw44⟩ := DataW.trod_int Try.underlying3 (g41.trans (List.getElem?_eq_getElem (by rw [hyl]; decide)))
  simp only [List.cons.injEq, and_true] at hz43; subst hz43
  exact ⟨⟨z2, z6, z15, z19, z23, z27, ⟨a31, m32, k33, l34⟩, z38, z42⟩, rfl, ⟨hR36⟩⟩
end Go.Proofs.Ytegmennaekipaaa
