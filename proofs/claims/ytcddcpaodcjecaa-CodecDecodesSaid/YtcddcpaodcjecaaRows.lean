/-
  No cell of these rows narrows 'for every input' (looked for: loops, veiled, ifaces, maps, wideKeys, modest, calm, conditions, laid).
  DERIVED. THE GIVEN ROWS OF THIS SEAT. 5 by the template 'for every input the law returns true; each argument reads behind the call as it read before'; 0 by the template 'total and deterministic' (their statements: YtcddcpaodcjecaaTotals.lean).
  GIVEN WITH THE SEED: the statements are not yours to turn. If you find one false, say at which input.
  Laid BY PROGRAM, IN A SANDBOX (cutbox-rows.mjs): the forced cells as the released guide's own fill.sh prints them over the translation ab569ce29dd48bf7… (all of the seat's roots in one cut). By AI agents, Wed Nov 11 2026. No macro, syntax, notation, axiom, sorry.
-/
import Derived.Test.YtcddcpaodcjecaaChecked
import GoSem.Claim
import GoSem.ClaimJoined
import GoSem.ClaimMapViews
import Derived.JoinedTies
import Derived.KernelRfl
namespace Go.Proofs.Ytcddcpaodcjecaa
/- THE CELL 'sum', in the pinned program and in every row, IS THE sha256 OF THE DUMP (.gsa) THAT YtcddcpaodcjecaaProg.lean LOADS. Nothing in Lean hashes anything: it is a label: what it is worth is what the hold of that sum in a sandbox is worth. -/
noncomputable def Try.pinned : Pinned := { name := "ytcddcpaodcjecaa", sum := "ab569ce29dd48bf738ad147a73ed14fcad3e2a8ecb944eb8d28df56b19994317", checked := Try.checked }
namespace Rows
def none {H : Type} : Left H := { results := [], args := [] }

/-- 'tilefarmlaw19.CodecDistinct': WHATEVER THE INPUT: true; the input reads as it did. -/
def codecDistinctSpec : ChangeSpec := { name := "codecDistinct", fn := fun _ => fun
  | [d] => { results := [.lit (.bool true)], args := [d] }
  | _ => none }
def codecDistinctRow : OpenClaim := { program := "ytcddcpaodcjecaa", sum := "ab569ce29dd48bf738ad147a73ed14fcad3e2a8ecb944eb8d28df56b19994317", func := "tilefarm/tilefarmlaw19.CodecDistinct", spec := "codecDistinct", apart := false }
def CodecDistinctSaid : Prop := codecDistinctRow.holds Try.pinned (OpenSpec.ofChange codecDistinctSpec)

/-- ITS FALSE NEIGHBOUR: 'it returns false'. Refute it at one input. -/
def codecDistinctWrong : ChangeSpec := { name := "codecDistinct", fn := fun _ => fun
  | [d] => { results := [.lit (.bool false)], args := [d] }
  | _ => none }
def CodecDistinctWrongFalsely : Prop := codecDistinctRow.holds Try.pinned (OpenSpec.ofChange codecDistinctWrong)

/-- 'tilefarmlaw19.CodecEncodes': WHATEVER THE INPUT: true; the input reads as it did. -/
def codecEncodesSpec : ChangeSpec := { name := "codecEncodes", fn := fun _ => fun
  | [d] => { results := [.lit (.bool true)], args := [d] }
  | _ => none }
def codecEncodesRow : OpenClaim := { program := "ytcddcpaodcjecaa", sum := "ab569ce29dd48bf738ad147a73ed14fcad3e2a8ecb944eb8d28df56b19994317", func := "tilefarm/tilefarmlaw19.CodecEncodes", spec := "codecEncodes", apart := false }
def CodecEncodesSaid : Prop := codecEncodesRow.holds Try.pinned (OpenSpec.ofChange codecEncodesSpec)

/-- ITS FALSE NEIGHBOUR: 'it returns false'. Refute it at one input. -/
def codecEncodesWrong : ChangeSpec := { name := "codecEncodes", fn := fun _ => fun
  | [d] => { results := [.lit (.bool false)], args := [d] }
  | _ => none }
def CodecEncodesWrongFalsely : Prop := codecEncodesRow.holds Try.pinned (OpenSpec.ofChange codecEncodesWrong)

/-- 'tilefarmlaw19.CodecDecodes': WHATEVER THE INPUT: true; the input reads as it did. -/
def codecDecodesSpec : ChangeSpec := { name := "codecDecodes", fn := fun _ => fun
  | [d1, d2] => { results := [.lit (.bool true)], args := [d1, d2] }
  | _ => none }
def codecDecodesRow : OpenClaim := { program := "ytcddcpaodcjecaa", sum := "ab569ce29dd48bf738ad147a73ed14fcad3e2a8ecb944eb8d28df56b19994317", func := "tilefarm/tilefarmlaw19.CodecDecodes", spec := "codecDecodes", apart := false }
def CodecDecodesSaid : Prop := codecDecodesRow.holds Try.pinned (OpenSpec.ofChange codecDecodesSpec)

/-- ITS FALSE NEIGHBOUR: 'it returns false'. Refute it at one input. -/
def codecDecodesWrong : ChangeSpec := { name := "codecDecodes", fn := fun _ => fun
  | [d1, d2] => { results := [.lit (.bool false)], args := [d1, d2] }
  | _ => none }
def CodecDecodesWrongFalsely : Prop := codecDecodesRow.holds Try.pinned (OpenSpec.ofChange codecDecodesWrong)

/-- 'tilefarmlaw19.CodecRoundTrip': WHATEVER THE INPUT: true; the input reads as it did. -/
def codecRoundTripSpec : ChangeSpec := { name := "codecRoundTrip", fn := fun _ => fun
  | [d] => { results := [.lit (.bool true)], args := [d] }
  | _ => none }
def codecRoundTripRow : OpenClaim := { program := "ytcddcpaodcjecaa", sum := "ab569ce29dd48bf738ad147a73ed14fcad3e2a8ecb944eb8d28df56b19994317", func := "tilefarm/tilefarmlaw19.CodecRoundTrip", spec := "codecRoundTrip", apart := false }
def CodecRoundTripSaid : Prop := codecRoundTripRow.holds Try.pinned (OpenSpec.ofChange codecRoundTripSpec)

/-- ITS FALSE NEIGHBOUR: 'it returns false'. Refute it at one input. -/
def codecRoundTripWrong : ChangeSpec := { name := "codecRoundTrip", fn := fun _ => fun
  | [d] => { results := [.lit (.bool false)], args := [d] }
  | _ => none }
def CodecRoundTripWrongFalsely : Prop := codecRoundTripRow.holds Try.pinned (OpenSpec.ofChange codecRoundTripWrong)

/-- 'tilefarmlaw19.CodecLimits': WHATEVER THE INPUT: true; the input reads as it did. -/
def codecLimitsSpec : ChangeSpec := { name := "codecLimits", fn := fun _ => fun
  | [d] => { results := [.lit (.bool true)], args := [d] }
  | _ => none }
def codecLimitsRow : OpenClaim := { program := "ytcddcpaodcjecaa", sum := "ab569ce29dd48bf738ad147a73ed14fcad3e2a8ecb944eb8d28df56b19994317", func := "tilefarm/tilefarmlaw19.CodecLimits", spec := "codecLimits", apart := false }
def CodecLimitsSaid : Prop := codecLimitsRow.holds Try.pinned (OpenSpec.ofChange codecLimitsSpec)

/-- ITS FALSE NEIGHBOUR: 'it returns false'. Refute it at one input. -/
def codecLimitsWrong : ChangeSpec := { name := "codecLimits", fn := fun _ => fun
  | [d] => { results := [.lit (.bool false)], args := [d] }
  | _ => none }
def CodecLimitsWrongFalsely : Prop := codecLimitsRow.holds Try.pinned (OpenSpec.ofChange codecLimitsWrong)

/- THE SECOND FORM. 'bulk': how many values and letters a reading holds, each counted each time it is reached (what is shared counts as often as it is met; a slice's spare places count too). A statement '..UptoSaid' is the law's where the arguments, and the package variables that the reading takes, are together of bulk at most 1048576: NARROWER than '..Said'. Prove '..Said' where nothing that the law and all that it calls make is longer than what came in: it says more and counts as full. Else prove '..UptoSaid'. A law counts once. -/
mutual
def uptoBulk {H : Type} : DataW H → Nat
  | .lit (.string bytes) => bytes.length + 1
  | .lit _ => 1
  | .nil => 1
  | .ptr d => uptoBulk d + 1
  | .slice elems spare => uptoBulkAll elems + uptoBulkAll spare + 1
  | .agg parts => uptoBulkAll parts + 1
  | .iface _ d => uptoBulk d + 1
  | .map entries => uptoBulkEntries entries + 1
  | .held _ => 1
def uptoBulkAll {H : Type} : List (DataW H) → Nat
  | [] => 0
  | d :: r => uptoBulk d + uptoBulkAll r
def uptoBulkEntries {H : Type} : List (Lit × DataW H) → Nat
  | [] => 0
  | x :: r => uptoBulkEntry x + uptoBulkEntries r
def uptoBulkEntry {H : Type} : Lit × DataW H → Nat
  | (.string bytes, d) => bytes.length + uptoBulk d + 1
  | (_, d) => uptoBulk d + 1
 end
def uptoSmall : (H : Type) → List (DataW H) → Bool := fun _ ds => decide (uptoBulkAll ds ≤ 1048576)
def OpenSpec.upto (s : _root_.Go.ChangeSpec) : _root_.Go.OpenSpec := { _root_.Go.OpenSpec.ofChange s with cond := some uptoSmall }

/-- 'tilefarmlaw19.CodecDistinct', WHERE WHAT IT READS IS OF BULK AT MOST 1048576: true; the input reads as it did. -/
def codecDistinctUptoRow : OpenClaim := { program := "ytcddcpaodcjecaa", sum := "ab569ce29dd48bf738ad147a73ed14fcad3e2a8ecb944eb8d28df56b19994317", func := "tilefarm/tilefarmlaw19.CodecDistinct", spec := "codecDistinct", apart := false, narrowed := true }
def CodecDistinctUptoSaid : Prop := codecDistinctUptoRow.holds Try.pinned (OpenSpec.upto codecDistinctSpec)

/-- 'tilefarmlaw19.CodecEncodes', WHERE WHAT IT READS IS OF BULK AT MOST 1048576: true; the input reads as it did. -/
def codecEncodesUptoRow : OpenClaim := { program := "ytcddcpaodcjecaa", sum := "ab569ce29dd48bf738ad147a73ed14fcad3e2a8ecb944eb8d28df56b19994317", func := "tilefarm/tilefarmlaw19.CodecEncodes", spec := "codecEncodes", apart := false, narrowed := true }
def CodecEncodesUptoSaid : Prop := codecEncodesUptoRow.holds Try.pinned (OpenSpec.upto codecEncodesSpec)

/-- 'tilefarmlaw19.CodecDecodes', WHERE WHAT IT READS IS OF BULK AT MOST 1048576: true; the input reads as it did. -/
def codecDecodesUptoRow : OpenClaim := { program := "ytcddcpaodcjecaa", sum := "ab569ce29dd48bf738ad147a73ed14fcad3e2a8ecb944eb8d28df56b19994317", func := "tilefarm/tilefarmlaw19.CodecDecodes", spec := "codecDecodes", apart := false, narrowed := true }
def CodecDecodesUptoSaid : Prop := codecDecodesUptoRow.holds Try.pinned (OpenSpec.upto codecDecodesSpec)

/-- 'tilefarmlaw19.CodecRoundTrip', WHERE WHAT IT READS IS OF BULK AT MOST 1048576: true; the input reads as it did. -/
def codecRoundTripUptoRow : OpenClaim := { program := "ytcddcpaodcjecaa", sum := "ab569ce29dd48bf738ad147a73ed14fcad3e2a8ecb944eb8d28df56b19994317", func := "tilefarm/tilefarmlaw19.CodecRoundTrip", spec := "codecRoundTrip", apart := false, narrowed := true }
def CodecRoundTripUptoSaid : Prop := codecRoundTripUptoRow.holds Try.pinned (OpenSpec.upto codecRoundTripSpec)

/-- 'tilefarmlaw19.CodecLimits', WHERE WHAT IT READS IS OF BULK AT MOST 1048576: true; the input reads as it did. -/
def codecLimitsUptoRow : OpenClaim := { program := "ytcddcpaodcjecaa", sum := "ab569ce29dd48bf738ad147a73ed14fcad3e2a8ecb944eb8d28df56b19994317", func := "tilefarm/tilefarmlaw19.CodecLimits", spec := "codecLimits", apart := false, narrowed := true }
def CodecLimitsUptoSaid : Prop := codecLimitsUptoRow.holds Try.pinned (OpenSpec.upto codecLimitsSpec)

end Rows
end Go.Proofs.Ytcddcpaodcjecaa
