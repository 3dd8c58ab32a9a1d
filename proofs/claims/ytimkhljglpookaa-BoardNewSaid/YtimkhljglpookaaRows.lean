/-
  No cell of these rows narrows 'for every input' (looked for: loops, veiled, ifaces, maps, wideKeys, modest, calm, conditions, laid).
  DERIVED. THE GIVEN ROWS OF THIS SEAT. 5 by the template 'for every input the law returns true; each argument reads behind the call as it read before'; 0 by the template 'total and deterministic' (their statements: YtimkhljglpookaaTotals.lean).
  GIVEN WITH THE SEED: the statements are not yours to turn. If you find one false, say at which input.
  Laid BY PROGRAM, IN A SANDBOX (cutbox-rows.mjs): the forced cells as the released guide's own fill.sh prints them over the translation 84747ac9f4ba769a… (all of the seat's roots in one cut). By AI agents, Wed Nov 11 2026. No macro, syntax, notation, axiom, sorry.
-/
import Derived.Test.YtimkhljglpookaaChecked
import GoSem.Claim
import GoSem.ClaimJoined
import GoSem.ClaimMapViews
import Derived.JoinedTies
import Derived.KernelRfl
namespace Go.Proofs.Ytimkhljglpookaa
/- THE CELL 'sum', in the pinned program and in every row, IS THE sha256 OF THE DUMP (.gsa) THAT YtimkhljglpookaaProg.lean LOADS. Nothing in Lean hashes anything: it is a label: what it is worth is what the hold of that sum in a sandbox is worth. -/
noncomputable def Try.pinned : Pinned := { name := "ytimkhljglpookaa", sum := "84747ac9f4ba769ad174a214fd6b48f51272abfc4238962529c29db6d3f1ae3a", checked := Try.checked }
namespace Rows
def none {H : Type} : Left H := { results := [], args := [] }

/-- 'tilefarmlaw25.BoardNew': WHATEVER THE INPUT: true; the input reads as it did. -/
def boardNewSpec : ChangeSpec := { name := "boardNew", fn := fun _ => fun
  | [d1, d2] => { results := [.lit (.bool true)], args := [d1, d2] }
  | _ => none }
def boardNewRow : OpenClaim := { program := "ytimkhljglpookaa", sum := "84747ac9f4ba769ad174a214fd6b48f51272abfc4238962529c29db6d3f1ae3a", func := "tilefarm/tilefarmlaw25.BoardNew", spec := "boardNew", recurses := true, apart := false }
def BoardNewSaid : Prop := boardNewRow.holds Try.pinned (OpenSpec.ofChange boardNewSpec)

/-- ITS FALSE NEIGHBOUR: 'it returns false'. Refute it at one input. -/
def boardNewWrong : ChangeSpec := { name := "boardNew", fn := fun _ => fun
  | [d1, d2] => { results := [.lit (.bool false)], args := [d1, d2] }
  | _ => none }
def BoardNewWrongFalsely : Prop := boardNewRow.holds Try.pinned (OpenSpec.ofChange boardNewWrong)

/-- 'tilefarmlaw25.BoardFollows': WHATEVER THE INPUT: true; the input reads as it did. -/
def boardFollowsSpec : ChangeSpec := { name := "boardFollows", fn := fun _ => fun
  | [d1, d2, d3] => { results := [.lit (.bool true)], args := [d1, d2, d3] }
  | _ => none }
def boardFollowsRow : OpenClaim := { program := "ytimkhljglpookaa", sum := "84747ac9f4ba769ad174a214fd6b48f51272abfc4238962529c29db6d3f1ae3a", func := "tilefarm/tilefarmlaw25.BoardFollows", spec := "boardFollows", recurses := true, apart := false }
def BoardFollowsSaid : Prop := boardFollowsRow.holds Try.pinned (OpenSpec.ofChange boardFollowsSpec)

/-- ITS FALSE NEIGHBOUR: 'it returns false'. Refute it at one input. -/
def boardFollowsWrong : ChangeSpec := { name := "boardFollows", fn := fun _ => fun
  | [d1, d2, d3] => { results := [.lit (.bool false)], args := [d1, d2, d3] }
  | _ => none }
def BoardFollowsWrongFalsely : Prop := boardFollowsRow.holds Try.pinned (OpenSpec.ofChange boardFollowsWrong)

/-- 'tilefarmlaw25.BoardEnds': WHATEVER THE INPUT: true; the input reads as it did. -/
def boardEndsSpec : ChangeSpec := { name := "boardEnds", fn := fun _ => fun
  | [d] => { results := [.lit (.bool true)], args := [d] }
  | _ => none }
def boardEndsRow : OpenClaim := { program := "ytimkhljglpookaa", sum := "84747ac9f4ba769ad174a214fd6b48f51272abfc4238962529c29db6d3f1ae3a", func := "tilefarm/tilefarmlaw25.BoardEnds", spec := "boardEnds", recurses := true, apart := false }
def BoardEndsSaid : Prop := boardEndsRow.holds Try.pinned (OpenSpec.ofChange boardEndsSpec)

/-- ITS FALSE NEIGHBOUR: 'it returns false'. Refute it at one input. -/
def boardEndsWrong : ChangeSpec := { name := "boardEnds", fn := fun _ => fun
  | [d] => { results := [.lit (.bool false)], args := [d] }
  | _ => none }
def BoardEndsWrongFalsely : Prop := boardEndsRow.holds Try.pinned (OpenSpec.ofChange boardEndsWrong)

/-- 'tilefarmlaw25.BoardNil': WHATEVER THE INPUT: true; the input reads as it did. -/
def boardNilSpec : ChangeSpec := { name := "boardNil", fn := fun _ => fun
  | [d1, d2] => { results := [.lit (.bool true)], args := [d1, d2] }
  | _ => none }
def boardNilRow : OpenClaim := { program := "ytimkhljglpookaa", sum := "84747ac9f4ba769ad174a214fd6b48f51272abfc4238962529c29db6d3f1ae3a", func := "tilefarm/tilefarmlaw25.BoardNil", spec := "boardNil", recurses := true, apart := false }
def BoardNilSaid : Prop := boardNilRow.holds Try.pinned (OpenSpec.ofChange boardNilSpec)

/-- ITS FALSE NEIGHBOUR: 'it returns false'. Refute it at one input. -/
def boardNilWrong : ChangeSpec := { name := "boardNil", fn := fun _ => fun
  | [d1, d2] => { results := [.lit (.bool false)], args := [d1, d2] }
  | _ => none }
def BoardNilWrongFalsely : Prop := boardNilRow.holds Try.pinned (OpenSpec.ofChange boardNilWrong)

/-- 'tilefarmlaw29.BoundSteps': WHATEVER THE INPUT: true; the input reads as it did. -/
def boundStepsSpec : ChangeSpec := { name := "boundSteps", fn := fun _ => fun
  | [d1, d2] => { results := [.lit (.bool true)], args := [d1, d2] }
  | _ => none }
def boundStepsRow : OpenClaim := { program := "ytimkhljglpookaa", sum := "84747ac9f4ba769ad174a214fd6b48f51272abfc4238962529c29db6d3f1ae3a", func := "tilefarm/tilefarmlaw29.BoundSteps", spec := "boundSteps", recurses := true, apart := false }
def BoundStepsSaid : Prop := boundStepsRow.holds Try.pinned (OpenSpec.ofChange boundStepsSpec)

/-- ITS FALSE NEIGHBOUR: 'it returns false'. Refute it at one input. -/
def boundStepsWrong : ChangeSpec := { name := "boundSteps", fn := fun _ => fun
  | [d1, d2] => { results := [.lit (.bool false)], args := [d1, d2] }
  | _ => none }
def BoundStepsWrongFalsely : Prop := boundStepsRow.holds Try.pinned (OpenSpec.ofChange boundStepsWrong)

/- THE SECOND FORM. 'bulk': how many values and letters a reading holds, each counted each time it is reached (what is shared counts as often as it is met; a slice's spare places count too). A statement '..UptoSaid' is the law's where the arguments, and the package variables that the reading takes, are together of bulk at most 1048576: NARROWER than '..Said'. Prove '..Said' where nothing that the law and all that it calls make is longer than what came in: it says more and counts as full. Else prove '..UptoSaid'. A law counts once. -/
mutual
def uptoBulk {H : Type} : DataW H → Nat
  | .lit (.string bytes) => bytes.length + 1
  | .lit _ => 1
  | .nil => 1
  | .ptr d => uptoBulk d + 1
  | .slice elems spare => uptoBulkAll elems + uptoBulkAll spare + 1
  | .agg parts => uptoBulkAll parts + 1
  | .iface _ d => uptoBulk d + 1
  | .map entries => uptoBulkEntries entries + 1
  | .held _ => 1
def uptoBulkAll {H : Type} : List (DataW H) → Nat
  | [] => 0
  | d :: r => uptoBulk d + uptoBulkAll r
def uptoBulkEntries {H : Type} : List (Lit × DataW H) → Nat
  | [] => 0
  | x :: r => uptoBulkEntry x + uptoBulkEntries r
def uptoBulkEntry {H : Type} : Lit × DataW H → Nat
  | (.string bytes, d) => bytes.length + uptoBulk d + 1
  | (_, d) => uptoBulk d + 1
 end
def uptoSmall : (H : Type) → List (DataW H) → Bool := fun _ ds => decide (uptoBulkAll ds ≤ 1048576)
def OpenSpec.upto (s : _root_.Go.ChangeSpec) : _root_.Go.OpenSpec := { _root_.Go.OpenSpec.ofChange s with cond := some uptoSmall }

/-- 'tilefarmlaw25.BoardNew', WHERE WHAT IT READS IS OF BULK AT MOST 1048576: true; the input reads as it did. -/
def boardNewUptoRow : OpenClaim := { program := "ytimkhljglpookaa", sum := "84747ac9f4ba769ad174a214fd6b48f51272abfc4238962529c29db6d3f1ae3a", func := "tilefarm/tilefarmlaw25.BoardNew", spec := "boardNew", recurses := true, apart := false, narrowed := true }
def BoardNewUptoSaid : Prop := boardNewUptoRow.holds Try.pinned (OpenSpec.upto boardNewSpec)

/-- 'tilefarmlaw25.BoardFollows', WHERE WHAT IT READS IS OF BULK AT MOST 1048576: true; the input reads as it did. -/
def boardFollowsUptoRow : OpenClaim := { program := "ytimkhljglpookaa", sum := "84747ac9f4ba769ad174a214fd6b48f51272abfc4238962529c29db6d3f1ae3a", func := "tilefarm/tilefarmlaw25.BoardFollows", spec := "boardFollows", recurses := true, apart := false, narrowed := true }
def BoardFollowsUptoSaid : Prop := boardFollowsUptoRow.holds Try.pinned (OpenSpec.upto boardFollowsSpec)

/-- 'tilefarmlaw25.BoardEnds', WHERE WHAT IT READS IS OF BULK AT MOST 1048576: true; the input reads as it did. -/
def boardEndsUptoRow : OpenClaim := { program := "ytimkhljglpookaa", sum := "84747ac9f4ba769ad174a214fd6b48f51272abfc4238962529c29db6d3f1ae3a", func := "tilefarm/tilefarmlaw25.BoardEnds", spec := "boardEnds", recurses := true, apart := false, narrowed := true }
def BoardEndsUptoSaid : Prop := boardEndsUptoRow.holds Try.pinned (OpenSpec.upto boardEndsSpec)

/-- 'tilefarmlaw25.BoardNil', WHERE WHAT IT READS IS OF BULK AT MOST 1048576: true; the input reads as it did. -/
def boardNilUptoRow : OpenClaim := { program := "ytimkhljglpookaa", sum := "84747ac9f4ba769ad174a214fd6b48f51272abfc4238962529c29db6d3f1ae3a", func := "tilefarm/tilefarmlaw25.BoardNil", spec := "boardNil", recurses := true, apart := false, narrowed := true }
def BoardNilUptoSaid : Prop := boardNilUptoRow.holds Try.pinned (OpenSpec.upto boardNilSpec)

/-- 'tilefarmlaw29.BoundSteps', WHERE WHAT IT READS IS OF BULK AT MOST 1048576: true; the input reads as it did. -/
def boundStepsUptoRow : OpenClaim := { program := "ytimkhljglpookaa", sum := "84747ac9f4ba769ad174a214fd6b48f51272abfc4238962529c29db6d3f1ae3a", func := "tilefarm/tilefarmlaw29.BoundSteps", spec := "boundSteps", recurses := true, apart := false, narrowed := true }
def BoundStepsUptoSaid : Prop := boundStepsUptoRow.holds Try.pinned (OpenSpec.upto boundStepsSpec)

end Rows
end Go.Proofs.Ytimkhljglpookaa
