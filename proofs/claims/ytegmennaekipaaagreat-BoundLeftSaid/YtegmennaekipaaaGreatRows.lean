/-
  No cell of these rows narrows 'for every input' (looked for: loops, veiled, ifaces, maps, wideKeys, modest, calm, conditions, laid).
  DERIVED. THE GIVEN ROWS OF THIS SEAT. 5 by the template 'for every input the law returns true; each argument reads behind the call as it read before'; 0 by the template 'total and deterministic' (their statements: YtegmennaekipaaaGreatTotals.lean).
  GIVEN WITH THE SEED: the statements are not yours to turn. If you find one false, say at which input.
  Laid BY PROGRAM, IN A SANDBOX (cutbox-rows.mjs): the forced cells as the released guide's own fill.sh prints them over the translation 193a0f28a15d604b… (all of the seat's roots in one cut). By AI agents, Wed Nov 11 2026. No macro, syntax, notation, axiom, sorry.
-/
import Derived.Test.YtegmennaekipaaaGreatChecked
import GoSem.Claim
import GoSem.ClaimJoined
import GoSem.ClaimMapViews
import Derived.JoinedTies
import Derived.KernelRfl
namespace Go.Proofs.YtegmennaekipaaaGreat
/- THE CELL 'sum', in the pinned program and in every row, IS THE sha256 OF THE DUMP (.gsa) THAT YtegmennaekipaaaGreatProg.lean LOADS. Nothing in Lean hashes anything: it is a label: what it is worth is what the hold of that sum in a sandbox is worth. -/
noncomputable def Tryz.pinned : Pinned := { name := "ytegmennaekipaaagreat", sum := "193a0f28a15d604be042e3b42ebfd70623b4da858d3305489d3283f5ebef27b5", checked := Tryz.checked }
namespace Rows
def none {H : Type} : Left H := { results := [], args := [] }

/-- 'tilefarmlaw27.FarmFollows': WHATEVER THE INPUT: true; the input reads as it did. -/
def farmFollowsSpec : ChangeSpec := { name := "farmFollows", fn := fun _ => fun
  | [d1, d2, d3, d4, d5] => { results := [.lit (.bool true)], args := [d1, d2, d3, d4, d5] }
  | _ => none }
def farmFollowsRow : OpenClaim := { program := "ytegmennaekipaaagreat", sum := "193a0f28a15d604be042e3b42ebfd70623b4da858d3305489d3283f5ebef27b5", func := "tilefarm/tilefarmlaw27.FarmFollows", spec := "farmFollows", unfollowed := true, recurses := true, apart := false }
def FarmFollowsSaid : Prop := farmFollowsRow.holds Tryz.pinned (OpenSpec.ofChange farmFollowsSpec)

/-- ITS FALSE NEIGHBOUR: 'it returns false'. Refute it at one input. -/
def farmFollowsWrong : ChangeSpec := { name := "farmFollows", fn := fun _ => fun
  | [d1, d2, d3, d4, d5] => { results := [.lit (.bool false)], args := [d1, d2, d3, d4, d5] }
  | _ => none }
def FarmFollowsWrongFalsely : Prop := farmFollowsRow.holds Tryz.pinned (OpenSpec.ofChange farmFollowsWrong)

/-- 'tilefarmlaw29.BoundLeft': WHATEVER THE INPUT: true; the input reads as it did. -/
def boundLeftSpec : ChangeSpec := { name := "boundLeft", fn := fun _ => fun
  | [d] => { results := [.lit (.bool true)], args := [d] }
  | _ => none }
def boundLeftRow : OpenClaim := { program := "ytegmennaekipaaagreat", sum := "193a0f28a15d604be042e3b42ebfd70623b4da858d3305489d3283f5ebef27b5", func := "tilefarm/tilefarmlaw29.BoundLeft", spec := "boundLeft", unfollowed := true, recurses := true, apart := false }
def BoundLeftSaid : Prop := boundLeftRow.holds Tryz.pinned (OpenSpec.ofChange boundLeftSpec)

/-- ITS FALSE NEIGHBOUR: 'it returns false'. Refute it at one input. -/
def boundLeftWrong : ChangeSpec := { name := "boundLeft", fn := fun _ => fun
  | [d] => { results := [.lit (.bool false)], args := [d] }
  | _ => none }
def BoundLeftWrongFalsely : Prop := boundLeftRow.holds Tryz.pinned (OpenSpec.ofChange boundLeftWrong)

/-- 'tilefarmlaw29.BoundFalls': WHATEVER THE INPUT: true; the input reads as it did. -/
def boundFallsSpec : ChangeSpec := { name := "boundFalls", fn := fun _ => fun
  | [d] => { results := [.lit (.bool true)], args := [d] }
  | _ => none }
def boundFallsRow : OpenClaim := { program := "ytegmennaekipaaagreat", sum := "193a0f28a15d604be042e3b42ebfd70623b4da858d3305489d3283f5ebef27b5", func := "tilefarm/tilefarmlaw29.BoundFalls", spec := "boundFalls", unfollowed := true, recurses := true, apart := false }
def BoundFallsSaid : Prop := boundFallsRow.holds Tryz.pinned (OpenSpec.ofChange boundFallsSpec)

/-- ITS FALSE NEIGHBOUR: 'it returns false'. Refute it at one input. -/
def boundFallsWrong : ChangeSpec := { name := "boundFalls", fn := fun _ => fun
  | [d] => { results := [.lit (.bool false)], args := [d] }
  | _ => none }
def BoundFallsWrongFalsely : Prop := boundFallsRow.holds Tryz.pinned (OpenSpec.ofChange boundFallsWrong)

/-- 'tilefarmlaw29.BoundEnds': WHATEVER THE INPUT: true; the input reads as it did. -/
def boundEndsSpec : ChangeSpec := { name := "boundEnds", fn := fun _ => fun
  | [d1, d2] => { results := [.lit (.bool true)], args := [d1, d2] }
  | _ => none }
def boundEndsRow : OpenClaim := { program := "ytegmennaekipaaagreat", sum := "193a0f28a15d604be042e3b42ebfd70623b4da858d3305489d3283f5ebef27b5", func := "tilefarm/tilefarmlaw29.BoundEnds", spec := "boundEnds", unfollowed := true, recurses := true, apart := false }
def BoundEndsSaid : Prop := boundEndsRow.holds Tryz.pinned (OpenSpec.ofChange boundEndsSpec)

/-- ITS FALSE NEIGHBOUR: 'it returns false'. Refute it at one input. -/
def boundEndsWrong : ChangeSpec := { name := "boundEnds", fn := fun _ => fun
  | [d1, d2] => { results := [.lit (.bool false)], args := [d1, d2] }
  | _ => none }
def BoundEndsWrongFalsely : Prop := boundEndsRow.holds Tryz.pinned (OpenSpec.ofChange boundEndsWrong)

/-- 'tilefarmlaw29.BoundRaises': WHATEVER THE INPUT: true; the input reads as it did. -/
def boundRaisesSpec : ChangeSpec := { name := "boundRaises", fn := fun _ => fun
  | [d] => { results := [.lit (.bool true)], args := [d] }
  | _ => none }
def boundRaisesRow : OpenClaim := { program := "ytegmennaekipaaagreat", sum := "193a0f28a15d604be042e3b42ebfd70623b4da858d3305489d3283f5ebef27b5", func := "tilefarm/tilefarmlaw29.BoundRaises", spec := "boundRaises", unfollowed := true, recurses := true, apart := false }
def BoundRaisesSaid : Prop := boundRaisesRow.holds Tryz.pinned (OpenSpec.ofChange boundRaisesSpec)

/-- ITS FALSE NEIGHBOUR: 'it returns false'. Refute it at one input. -/
def boundRaisesWrong : ChangeSpec := { name := "boundRaises", fn := fun _ => fun
  | [d] => { results := [.lit (.bool false)], args := [d] }
  | _ => none }
def BoundRaisesWrongFalsely : Prop := boundRaisesRow.holds Tryz.pinned (OpenSpec.ofChange boundRaisesWrong)

/- THE SECOND FORM. 'bulk': how many values and letters a reading holds, each counted each time it is reached (what is shared counts as often as it is met; a slice's spare places count too). A statement '..UptoSaid' is the law's where the arguments, and the package variables that the reading takes, are together of bulk at most 1048576: NARROWER than '..Said'. Prove '..Said' where nothing that the law and all that it calls make is longer than what came in: it says more and counts as full. Else prove '..UptoSaid'. A law counts once. -/
mutual
def uptoBulk {H : Type} : DataW H → Nat
  | .lit (.string bytes) => bytes.length + 1
  | .lit _ => 1
  | .nil => 1
  | .ptr d => uptoBulk d + 1
  | .slice elems spare => uptoBulkAll elems + uptoBulkAll spare + 1
  | .agg parts => uptoBulkAll parts + 1
  | .iface _ d => uptoBulk d + 1
  | .map entries => uptoBulkEntries entries + 1
  | .held _ => 1
def uptoBulkAll {H : Type} : List (DataW H) → Nat
  | [] => 0
  | d :: r => uptoBulk d + uptoBulkAll r
def uptoBulkEntries {H : Type} : List (Lit × DataW H) → Nat
  | [] => 0
  | x :: r => uptoBulkEntry x + uptoBulkEntries r
def uptoBulkEntry {H : Type} : Lit × DataW H → Nat
  | (.string bytes, d) => bytes.length + uptoBulk d + 1
  | (_, d) => uptoBulk d + 1
 end
def uptoSmall : (H : Type) → List (DataW H) → Bool := fun _ ds => decide (uptoBulkAll ds ≤ 1048576)
def OpenSpec.upto (s : _root_.Go.ChangeSpec) : _root_.Go.OpenSpec := { _root_.Go.OpenSpec.ofChange s with cond := some uptoSmall }

/-- 'tilefarmlaw27.FarmFollows', WHERE WHAT IT READS IS OF BULK AT MOST 1048576: true; the input reads as it did. -/
def farmFollowsUptoRow : OpenClaim := { program := "ytegmennaekipaaagreat", sum := "193a0f28a15d604be042e3b42ebfd70623b4da858d3305489d3283f5ebef27b5", func := "tilefarm/tilefarmlaw27.FarmFollows", spec := "farmFollows", unfollowed := true, recurses := true, apart := false, narrowed := true }
def FarmFollowsUptoSaid : Prop := farmFollowsUptoRow.holds Tryz.pinned (OpenSpec.upto farmFollowsSpec)

/-- 'tilefarmlaw29.BoundLeft', WHERE WHAT IT READS IS OF BULK AT MOST 1048576: true; the input reads as it did. -/
def boundLeftUptoRow : OpenClaim := { program := "ytegmennaekipaaagreat", sum := "193a0f28a15d604be042e3b42ebfd70623b4da858d3305489d3283f5ebef27b5", func := "tilefarm/tilefarmlaw29.BoundLeft", spec := "boundLeft", unfollowed := true, recurses := true, apart := false, narrowed := true }
def BoundLeftUptoSaid : Prop := boundLeftUptoRow.holds Tryz.pinned (OpenSpec.upto boundLeftSpec)

/-- 'tilefarmlaw29.BoundFalls', WHERE WHAT IT READS IS OF BULK AT MOST 1048576: true; the input reads as it did. -/
def boundFallsUptoRow : OpenClaim := { program := "ytegmennaekipaaagreat", sum := "193a0f28a15d604be042e3b42ebfd70623b4da858d3305489d3283f5ebef27b5", func := "tilefarm/tilefarmlaw29.BoundFalls", spec := "boundFalls", unfollowed := true, recurses := true, apart := false, narrowed := true }
def BoundFallsUptoSaid : Prop := boundFallsUptoRow.holds Tryz.pinned (OpenSpec.upto boundFallsSpec)

/-- 'tilefarmlaw29.BoundEnds', WHERE WHAT IT READS IS OF BULK AT MOST 1048576: true; the input reads as it did. -/
def boundEndsUptoRow : OpenClaim := { program := "ytegmennaekipaaagreat", sum := "193a0f28a15d604be042e3b42ebfd70623b4da858d3305489d3283f5ebef27b5", func := "tilefarm/tilefarmlaw29.BoundEnds", spec := "boundEnds", unfollowed := true, recurses := true, apart := false, narrowed := true }
def BoundEndsUptoSaid : Prop := boundEndsUptoRow.holds Tryz.pinned (OpenSpec.upto boundEndsSpec)

/-- 'tilefarmlaw29.BoundRaises', WHERE WHAT IT READS IS OF BULK AT MOST 1048576: true; the input reads as it did. -/
def boundRaisesUptoRow : OpenClaim := { program := "ytegmennaekipaaagreat", sum := "193a0f28a15d604be042e3b42ebfd70623b4da858d3305489d3283f5ebef27b5", func := "tilefarm/tilefarmlaw29.BoundRaises", spec := "boundRaises", unfollowed := true, recurses := true, apart := false, narrowed := true }
def BoundRaisesUptoSaid : Prop := boundRaisesUptoRow.holds Tryz.pinned (OpenSpec.upto boundRaisesSpec)

end Rows
end Go.Proofs.YtegmennaekipaaaGreat
