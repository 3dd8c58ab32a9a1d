/-
  No cell of these rows narrows 'for every input' (looked for: loops, veiled, ifaces, maps, wideKeys, modest, calm, conditions, laid).
  DERIVED. THE GIVEN ROWS OF THIS SEAT. 8 by the template 'for every input the law returns true; each argument reads behind the call as it read before'; 0 by the template 'total and deterministic' (their statements: YtegmennaekipaaaTotals.lean).
  GIVEN WITH THE SEED: the statements are not yours to turn. If you find one false, say at which input.
  Laid BY PROGRAM, IN A SANDBOX (cutbox-rows.mjs): the forced cells as the released guide's own fill.sh prints them over the translation dc13174d0147c88b… (all of the seat's roots in one cut). By AI agents, Wed Nov 11 2026. No macro, syntax, notation, axiom, sorry.
-/
import Derived.Test.YtegmennaekipaaaChecked
import GoSem.Claim
import GoSem.ClaimJoined
import GoSem.ClaimMapViews
import Derived.JoinedTies
import Derived.KernelRfl
namespace Go.Proofs.Ytegmennaekipaaa
/- THE CELL 'sum', in the pinned program and in every row, IS THE sha256 OF THE DUMP (.gsa) THAT YtegmennaekipaaaProg.lean LOADS. Nothing in Lean hashes anything: it is a label: what it is worth is what the hold of that sum in a sandbox is worth. -/
noncomputable def Try.pinned : Pinned := { name := "ytegmennaekipaaa", sum := "dc13174d0147c88b79d43413ba75332d79a5e2d17d2ca59ba46da93a74c8d1a6", checked := Try.checked }
namespace Rows
def none {H : Type} : Left H := { results := [], args := [] }

/-- 'tilefarmlaw29.BoundSteps': WHATEVER THE INPUT: true; the input reads as it did. -/
def boundStepsSpec : ChangeSpec := { name := "boundSteps", fn := fun _ => fun
  | [d1, d2] => { results := [.lit (.bool true)], args := [d1, d2] }
  | _ => none }
def boundStepsRow : OpenClaim := { program := "ytegmennaekipaaa", sum := "dc13174d0147c88b79d43413ba75332d79a5e2d17d2ca59ba46da93a74c8d1a6", func := "tilefarm/tilefarmlaw29.BoundSteps", spec := "boundSteps", recurses := true, apart := false }
def BoundStepsSaid : Prop := boundStepsRow.holds Try.pinned (OpenSpec.ofChange boundStepsSpec)

/-- ITS FALSE NEIGHBOUR: 'it returns false'. Refute it at one input. -/
def boundStepsWrong : ChangeSpec := { name := "boundSteps", fn := fun _ => fun
  | [d1, d2] => { results := [.lit (.bool false)], args := [d1, d2] }
  | _ => none }
def BoundStepsWrongFalsely : Prop := boundStepsRow.holds Try.pinned (OpenSpec.ofChange boundStepsWrong)

/-- 'tilefarmlaw27.FarmPriorities': WHATEVER THE INPUT: true; the input reads as it did. -/
def farmPrioritiesSpec : ChangeSpec := { name := "farmPriorities", fn := fun _ => fun
  | [d1, d2, d3] => { results := [.lit (.bool true)], args := [d1, d2, d3] }
  | _ => none }
def farmPrioritiesRow : OpenClaim := { program := "ytegmennaekipaaa", sum := "dc13174d0147c88b79d43413ba75332d79a5e2d17d2ca59ba46da93a74c8d1a6", func := "tilefarm/tilefarmlaw27.FarmPriorities", spec := "farmPriorities", recurses := true, apart := false }
def FarmPrioritiesSaid : Prop := farmPrioritiesRow.holds Try.pinned (OpenSpec.ofChange farmPrioritiesSpec)

/-- ITS FALSE NEIGHBOUR: 'it returns false'. Refute it at one input. -/
def farmPrioritiesWrong : ChangeSpec := { name := "farmPriorities", fn := fun _ => fun
  | [d1, d2, d3] => { results := [.lit (.bool false)], args := [d1, d2, d3] }
  | _ => none }
def FarmPrioritiesWrongFalsely : Prop := farmPrioritiesRow.holds Try.pinned (OpenSpec.ofChange farmPrioritiesWrong)

/-- 'tilefarmlaw27.FarmSpills': WHATEVER THE INPUT: true; the input reads as it did. -/
def farmSpillsSpec : ChangeSpec := { name := "farmSpills", fn := fun _ => fun
  | [d1, d2, d3] => { results := [.lit (.bool true)], args := [d1, d2, d3] }
  | _ => none }
def farmSpillsRow : OpenClaim := { program := "ytegmennaekipaaa", sum := "dc13174d0147c88b79d43413ba75332d79a5e2d17d2ca59ba46da93a74c8d1a6", func := "tilefarm/tilefarmlaw27.FarmSpills", spec := "farmSpills", recurses := true, apart := false }
def FarmSpillsSaid : Prop := farmSpillsRow.holds Try.pinned (OpenSpec.ofChange farmSpillsSpec)

/-- ITS FALSE NEIGHBOUR: 'it returns false'. Refute it at one input. -/
def farmSpillsWrong : ChangeSpec := { name := "farmSpills", fn := fun _ => fun
  | [d1, d2, d3] => { results := [.lit (.bool false)], args := [d1, d2, d3] }
  | _ => none }
def FarmSpillsWrongFalsely : Prop := farmSpillsRow.holds Try.pinned (OpenSpec.ofChange farmSpillsWrong)

/-- 'tilefarmlaw27.FarmHelps': WHATEVER THE INPUT: true; the input reads as it did. -/
def farmHelpsSpec : ChangeSpec := { name := "farmHelps", fn := fun _ => fun
  | [d] => { results := [.lit (.bool true)], args := [d] }
  | _ => none }
def farmHelpsRow : OpenClaim := { program := "ytegmennaekipaaa", sum := "dc13174d0147c88b79d43413ba75332d79a5e2d17d2ca59ba46da93a74c8d1a6", func := "tilefarm/tilefarmlaw27.FarmHelps", spec := "farmHelps", recurses := true, apart := false }
def FarmHelpsSaid : Prop := farmHelpsRow.holds Try.pinned (OpenSpec.ofChange farmHelpsSpec)

/-- ITS FALSE NEIGHBOUR: 'it returns false'. Refute it at one input. -/
def farmHelpsWrong : ChangeSpec := { name := "farmHelps", fn := fun _ => fun
  | [d] => { results := [.lit (.bool false)], args := [d] }
  | _ => none }
def FarmHelpsWrongFalsely : Prop := farmHelpsRow.holds Try.pinned (OpenSpec.ofChange farmHelpsWrong)

/-- 'tilefarmlaw27.FarmCrashes': WHATEVER THE INPUT: true; the input reads as it did. -/
def farmCrashesSpec : ChangeSpec := { name := "farmCrashes", fn := fun _ => fun
  | [d1, d2] => { results := [.lit (.bool true)], args := [d1, d2] }
  | _ => none }
def farmCrashesRow : OpenClaim := { program := "ytegmennaekipaaa", sum := "dc13174d0147c88b79d43413ba75332d79a5e2d17d2ca59ba46da93a74c8d1a6", func := "tilefarm/tilefarmlaw27.FarmCrashes", spec := "farmCrashes", recurses := true, apart := false }
def FarmCrashesSaid : Prop := farmCrashesRow.holds Try.pinned (OpenSpec.ofChange farmCrashesSpec)

/-- ITS FALSE NEIGHBOUR: 'it returns false'. Refute it at one input. -/
def farmCrashesWrong : ChangeSpec := { name := "farmCrashes", fn := fun _ => fun
  | [d1, d2] => { results := [.lit (.bool false)], args := [d1, d2] }
  | _ => none }
def FarmCrashesWrongFalsely : Prop := farmCrashesRow.holds Try.pinned (OpenSpec.ofChange farmCrashesWrong)

/-- 'tilefarmlaw27.FarmCancels': WHATEVER THE INPUT: true; the input reads as it did. -/
def farmCancelsSpec : ChangeSpec := { name := "farmCancels", fn := fun _ => fun
  | [d1, d2] => { results := [.lit (.bool true)], args := [d1, d2] }
  | _ => none }
def farmCancelsRow : OpenClaim := { program := "ytegmennaekipaaa", sum := "dc13174d0147c88b79d43413ba75332d79a5e2d17d2ca59ba46da93a74c8d1a6", func := "tilefarm/tilefarmlaw27.FarmCancels", spec := "farmCancels", unfollowed := true, recurses := true, apart := false }
def FarmCancelsSaid : Prop := farmCancelsRow.holds Try.pinned (OpenSpec.ofChange farmCancelsSpec)

/-- ITS FALSE NEIGHBOUR: 'it returns false'. Refute it at one input. -/
def farmCancelsWrong : ChangeSpec := { name := "farmCancels", fn := fun _ => fun
  | [d1, d2] => { results := [.lit (.bool false)], args := [d1, d2] }
  | _ => none }
def FarmCancelsWrongFalsely : Prop := farmCancelsRow.holds Try.pinned (OpenSpec.ofChange farmCancelsWrong)

/-- 'tilefarmlaw27.FarmQueues': WHATEVER THE INPUT: true; the input reads as it did. -/
def farmQueuesSpec : ChangeSpec := { name := "farmQueues", fn := fun _ => fun
  | [d] => { results := [.lit (.bool true)], args := [d] }
  | _ => none }
def farmQueuesRow : OpenClaim := { program := "ytegmennaekipaaa", sum := "dc13174d0147c88b79d43413ba75332d79a5e2d17d2ca59ba46da93a74c8d1a6", func := "tilefarm/tilefarmlaw27.FarmQueues", spec := "farmQueues", unfollowed := true, recurses := true, apart := false }
def FarmQueuesSaid : Prop := farmQueuesRow.holds Try.pinned (OpenSpec.ofChange farmQueuesSpec)

/-- ITS FALSE NEIGHBOUR: 'it returns false'. Refute it at one input. -/
def farmQueuesWrong : ChangeSpec := { name := "farmQueues", fn := fun _ => fun
  | [d] => { results := [.lit (.bool false)], args := [d] }
  | _ => none }
def FarmQueuesWrongFalsely : Prop := farmQueuesRow.holds Try.pinned (OpenSpec.ofChange farmQueuesWrong)

/-- 'tilefarmlaw27.FarmWorkers': WHATEVER THE INPUT: true; the input reads as it did. -/
def farmWorkersSpec : ChangeSpec := { name := "farmWorkers", fn := fun _ => fun
  | [d] => { results := [.lit (.bool true)], args := [d] }
  | _ => none }
def farmWorkersRow : OpenClaim := { program := "ytegmennaekipaaa", sum := "dc13174d0147c88b79d43413ba75332d79a5e2d17d2ca59ba46da93a74c8d1a6", func := "tilefarm/tilefarmlaw27.FarmWorkers", spec := "farmWorkers", unfollowed := true, recurses := true, apart := false }
def FarmWorkersSaid : Prop := farmWorkersRow.holds Try.pinned (OpenSpec.ofChange farmWorkersSpec)

/-- ITS FALSE NEIGHBOUR: 'it returns false'. Refute it at one input. -/
def farmWorkersWrong : ChangeSpec := { name := "farmWorkers", fn := fun _ => fun
  | [d] => { results := [.lit (.bool false)], args := [d] }
  | _ => none }
def FarmWorkersWrongFalsely : Prop := farmWorkersRow.holds Try.pinned (OpenSpec.ofChange farmWorkersWrong)

/- THE SECOND FORM. 'bulk': how many values and letters a reading holds, each counted each time it is reached (what is shared counts as often as it is met; a slice's spare places count too). A statement '..UptoSaid' is the law's where the arguments, and the package variables that the reading takes, are together of bulk at most 1048576: NARROWER than '..Said'. Prove '..Said' where nothing that the law and all that it calls make is longer than what came in: it says more and counts as full. Else prove '..UptoSaid'. A law counts once. -/
mutual
def uptoBulk {H : Type} : DataW H → Nat
  | .lit (.string bytes) => bytes.length + 1
  | .lit _ => 1
  | .nil => 1
  | .ptr d => uptoBulk d + 1
  | .slice elems spare => uptoBulkAll elems + uptoBulkAll spare + 1
  | .agg parts => uptoBulkAll parts + 1
  | .iface _ d => uptoBulk d + 1
  | .map entries => uptoBulkEntries entries + 1
  | .held _ => 1
def uptoBulkAll {H : Type} : List (DataW H) → Nat
  | [] => 0
  | d :: r => uptoBulk d + uptoBulkAll r
def uptoBulkEntries {H : Type} : List (Lit × DataW H) → Nat
  | [] => 0
  | x :: r => uptoBulkEntry x + uptoBulkEntries r
def uptoBulkEntry {H : Type} : Lit × DataW H → Nat
  | (.string bytes, d) => bytes.length + uptoBulk d + 1
  | (_, d) => uptoBulk d + 1
 end
def uptoSmall : (H : Type) → List (DataW H) → Bool := fun _ ds => decide (uptoBulkAll ds ≤ 1048576)
def OpenSpec.upto (s : _root_.Go.ChangeSpec) : _root_.Go.OpenSpec := { _root_.Go.OpenSpec.ofChange s with cond := some uptoSmall }

/-- 'tilefarmlaw29.BoundSteps', WHERE WHAT IT READS IS OF BULK AT MOST 1048576: true; the input reads as it did. -/
def boundStepsUptoRow : OpenClaim := { program := "ytegmennaekipaaa", sum := "dc13174d0147c88b79d43413ba75332d79a5e2d17d2ca59ba46da93a74c8d1a6", func := "tilefarm/tilefarmlaw29.BoundSteps", spec := "boundSteps", recurses := true, apart := false, narrowed := true }
def BoundStepsUptoSaid : Prop := boundStepsUptoRow.holds Try.pinned (OpenSpec.upto boundStepsSpec)

/-- 'tilefarmlaw27.FarmPriorities', WHERE WHAT IT READS IS OF BULK AT MOST 1048576: true; the input reads as it did. -/
def farmPrioritiesUptoRow : OpenClaim := { program := "ytegmennaekipaaa", sum := "dc13174d0147c88b79d43413ba75332d79a5e2d17d2ca59ba46da93a74c8d1a6", func := "tilefarm/tilefarmlaw27.FarmPriorities", spec := "farmPriorities", recurses := true, apart := false, narrowed := true }
def FarmPrioritiesUptoSaid : Prop := farmPrioritiesUptoRow.holds Try.pinned (OpenSpec.upto farmPrioritiesSpec)

/-- 'tilefarmlaw27.FarmSpills', WHERE WHAT IT READS IS OF BULK AT MOST 1048576: true; the input reads as it did. -/
def farmSpillsUptoRow : OpenClaim := { program := "ytegmennaekipaaa", sum := "dc13174d0147c88b79d43413ba75332d79a5e2d17d2ca59ba46da93a74c8d1a6", func := "tilefarm/tilefarmlaw27.FarmSpills", spec := "farmSpills", recurses := true, apart := false, narrowed := true }
def FarmSpillsUptoSaid : Prop := farmSpillsUptoRow.holds Try.pinned (OpenSpec.upto farmSpillsSpec)

/-- 'tilefarmlaw27.FarmHelps', WHERE WHAT IT READS IS OF BULK AT MOST 1048576: true; the input reads as it did. -/
def farmHelpsUptoRow : OpenClaim := { program := "ytegmennaekipaaa", sum := "dc13174d0147c88b79d43413ba75332d79a5e2d17d2ca59ba46da93a74c8d1a6", func := "tilefarm/tilefarmlaw27.FarmHelps", spec := "farmHelps", recurses := true, apart := false, narrowed := true }
def FarmHelpsUptoSaid : Prop := farmHelpsUptoRow.holds Try.pinned (OpenSpec.upto farmHelpsSpec)

/-- 'tilefarmlaw27.FarmCrashes', WHERE WHAT IT READS IS OF BULK AT MOST 1048576: true; the input reads as it did. -/
def farmCrashesUptoRow : OpenClaim := { program := "ytegmennaekipaaa", sum := "dc13174d0147c88b79d43413ba75332d79a5e2d17d2ca59ba46da93a74c8d1a6", func := "tilefarm/tilefarmlaw27.FarmCrashes", spec := "farmCrashes", recurses := true, apart := false, narrowed := true }
def FarmCrashesUptoSaid : Prop := farmCrashesUptoRow.holds Try.pinned (OpenSpec.upto farmCrashesSpec)

/-- 'tilefarmlaw27.FarmCancels', WHERE WHAT IT READS IS OF BULK AT MOST 1048576: true; the input reads as it did. -/
def farmCancelsUptoRow : OpenClaim := { program := "ytegmennaekipaaa", sum := "dc13174d0147c88b79d43413ba75332d79a5e2d17d2ca59ba46da93a74c8d1a6", func := "tilefarm/tilefarmlaw27.FarmCancels", spec := "farmCancels", unfollowed := true, recurses := true, apart := false, narrowed := true }
def FarmCancelsUptoSaid : Prop := farmCancelsUptoRow.holds Try.pinned (OpenSpec.upto farmCancelsSpec)

/-- 'tilefarmlaw27.FarmQueues', WHERE WHAT IT READS IS OF BULK AT MOST 1048576: true; the input reads as it did. -/
def farmQueuesUptoRow : OpenClaim := { program := "ytegmennaekipaaa", sum := "dc13174d0147c88b79d43413ba75332d79a5e2d17d2ca59ba46da93a74c8d1a6", func := "tilefarm/tilefarmlaw27.FarmQueues", spec := "farmQueues", unfollowed := true, recurses := true, apart := false, narrowed := true }
def FarmQueuesUptoSaid : Prop := farmQueuesUptoRow.holds Try.pinned (OpenSpec.upto farmQueuesSpec)

/-- 'tilefarmlaw27.FarmWorkers', WHERE WHAT IT READS IS OF BULK AT MOST 1048576: true; the input reads as it did. -/
def farmWorkersUptoRow : OpenClaim := { program := "ytegmennaekipaaa", sum := "dc13174d0147c88b79d43413ba75332d79a5e2d17d2ca59ba46da93a74c8d1a6", func := "tilefarm/tilefarmlaw27.FarmWorkers", spec := "farmWorkers", unfollowed := true, recurses := true, apart := false, narrowed := true }
def FarmWorkersUptoSaid : Prop := farmWorkersUptoRow.holds Try.pinned (OpenSpec.upto farmWorkersSpec)

end Rows
end Go.Proofs.Ytegmennaekipaaa
