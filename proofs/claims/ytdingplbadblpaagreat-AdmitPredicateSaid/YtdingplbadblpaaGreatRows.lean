/-
  No cell of these rows narrows 'for every input' (looked for: loops, veiled, ifaces, maps, wideKeys, modest, calm, conditions, laid).
  DERIVED. THE GIVEN ROWS OF THIS SEAT. 8 by the template 'for every input the law returns true; each argument reads behind the call as it read before'; 0 by the template 'total and deterministic' (their statements: YtdingplbadblpaaGreatTotals.lean).
  GIVEN WITH THE SEED: the statements are not yours to turn. If you find one false, say at which input.
  Laid BY PROGRAM, IN A SANDBOX (cutbox-rows.mjs): the forced cells as the released guide's own fill.sh prints them over the translation 472dee3e88b2d94d… (all of the seat's roots in one cut). By AI agents, Wed Nov 11 2026. No macro, syntax, notation, axiom, sorry.
-/
import Derived.Test.YtdingplbadblpaaGreatChecked
import GoSem.Claim
import GoSem.ClaimJoined
import GoSem.ClaimMapViews
import Derived.JoinedTies
import Derived.KernelRfl
namespace Go.Proofs.YtdingplbadblpaaGreat
/- THE CELL 'sum', in the pinned program and in every row, IS THE sha256 OF THE DUMP (.gsa) THAT YtdingplbadblpaaGreatProg.lean LOADS. Nothing in Lean hashes anything: it is a label: what it is worth is what the hold of that sum in a sandbox is worth. -/
noncomputable def Tryz.pinned : Pinned := { name := "ytdingplbadblpaagreat", sum := "472dee3e88b2d94da9d315d601668fb8dc98aa3281264c703881af41f6f1190b", checked := Tryz.checked }
namespace Rows
def none {H : Type} : Left H := { results := [], args := [] }

/-- 'tilefarmlaw20.LowerBarriers': WHATEVER THE INPUT: true; the input reads as it did. -/
def lowerBarriersSpec : ChangeSpec := { name := "lowerBarriers", fn := fun _ => fun
  | [d1, d2] => { results := [.lit (.bool true)], args := [d1, d2] }
  | _ => none }
def lowerBarriersRow : OpenClaim := { program := "ytdingplbadblpaagreat", sum := "472dee3e88b2d94da9d315d601668fb8dc98aa3281264c703881af41f6f1190b", func := "tilefarm/tilefarmlaw20.LowerBarriers", spec := "lowerBarriers", unfollowed := true, recurses := true, apart := false }
def LowerBarriersSaid : Prop := lowerBarriersRow.holds Tryz.pinned (OpenSpec.ofChange lowerBarriersSpec)

/-- ITS FALSE NEIGHBOUR: 'it returns false'. Refute it at one input. -/
def lowerBarriersWrong : ChangeSpec := { name := "lowerBarriers", fn := fun _ => fun
  | [d1, d2] => { results := [.lit (.bool false)], args := [d1, d2] }
  | _ => none }
def LowerBarriersWrongFalsely : Prop := lowerBarriersRow.holds Tryz.pinned (OpenSpec.ofChange lowerBarriersWrong)

/-- 'tilefarmlaw20.LowerTasks': WHATEVER THE INPUT: true; the input reads as it did. -/
def lowerTasksSpec : ChangeSpec := { name := "lowerTasks", fn := fun _ => fun
  | [d1, d2, d3] => { results := [.lit (.bool true)], args := [d1, d2, d3] }
  | _ => none }
def lowerTasksRow : OpenClaim := { program := "ytdingplbadblpaagreat", sum := "472dee3e88b2d94da9d315d601668fb8dc98aa3281264c703881af41f6f1190b", func := "tilefarm/tilefarmlaw20.LowerTasks", spec := "lowerTasks", unfollowed := true, recurses := true, apart := false }
def LowerTasksSaid : Prop := lowerTasksRow.holds Tryz.pinned (OpenSpec.ofChange lowerTasksSpec)

/-- ITS FALSE NEIGHBOUR: 'it returns false'. Refute it at one input. -/
def lowerTasksWrong : ChangeSpec := { name := "lowerTasks", fn := fun _ => fun
  | [d1, d2, d3] => { results := [.lit (.bool false)], args := [d1, d2, d3] }
  | _ => none }
def LowerTasksWrongFalsely : Prop := lowerTasksRow.holds Tryz.pinned (OpenSpec.ofChange lowerTasksWrong)

/-- 'tilefarmlaw20.LowerScratch': WHATEVER THE INPUT: true; the input reads as it did. -/
def lowerScratchSpec : ChangeSpec := { name := "lowerScratch", fn := fun _ => fun
  | [d1, d2, d3, d4] => { results := [.lit (.bool true)], args := [d1, d2, d3, d4] }
  | _ => none }
def lowerScratchRow : OpenClaim := { program := "ytdingplbadblpaagreat", sum := "472dee3e88b2d94da9d315d601668fb8dc98aa3281264c703881af41f6f1190b", func := "tilefarm/tilefarmlaw20.LowerScratch", spec := "lowerScratch", unfollowed := true, recurses := true, apart := false }
def LowerScratchSaid : Prop := lowerScratchRow.holds Tryz.pinned (OpenSpec.ofChange lowerScratchSpec)

/-- ITS FALSE NEIGHBOUR: 'it returns false'. Refute it at one input. -/
def lowerScratchWrong : ChangeSpec := { name := "lowerScratch", fn := fun _ => fun
  | [d1, d2, d3, d4] => { results := [.lit (.bool false)], args := [d1, d2, d3, d4] }
  | _ => none }
def LowerScratchWrongFalsely : Prop := lowerScratchRow.holds Tryz.pinned (OpenSpec.ofChange lowerScratchWrong)

/-- 'tilefarmlaw20.LowerCovers': WHATEVER THE INPUT: true; the input reads as it did. -/
def lowerCoversSpec : ChangeSpec := { name := "lowerCovers", fn := fun _ => fun
  | [d] => { results := [.lit (.bool true)], args := [d] }
  | _ => none }
def lowerCoversRow : OpenClaim := { program := "ytdingplbadblpaagreat", sum := "472dee3e88b2d94da9d315d601668fb8dc98aa3281264c703881af41f6f1190b", func := "tilefarm/tilefarmlaw20.LowerCovers", spec := "lowerCovers", unfollowed := true, recurses := true, apart := false }
def LowerCoversSaid : Prop := lowerCoversRow.holds Tryz.pinned (OpenSpec.ofChange lowerCoversSpec)

/-- ITS FALSE NEIGHBOUR: 'it returns false'. Refute it at one input. -/
def lowerCoversWrong : ChangeSpec := { name := "lowerCovers", fn := fun _ => fun
  | [d] => { results := [.lit (.bool false)], args := [d] }
  | _ => none }
def LowerCoversWrongFalsely : Prop := lowerCoversRow.holds Tryz.pinned (OpenSpec.ofChange lowerCoversWrong)

/-- 'tilefarmlaw20.LowerDepends': WHATEVER THE INPUT: true; the input reads as it did. -/
def lowerDependsSpec : ChangeSpec := { name := "lowerDepends", fn := fun _ => fun
  | [d] => { results := [.lit (.bool true)], args := [d] }
  | _ => none }
def lowerDependsRow : OpenClaim := { program := "ytdingplbadblpaagreat", sum := "472dee3e88b2d94da9d315d601668fb8dc98aa3281264c703881af41f6f1190b", func := "tilefarm/tilefarmlaw20.LowerDepends", spec := "lowerDepends", unfollowed := true, recurses := true, apart := false }
def LowerDependsSaid : Prop := lowerDependsRow.holds Tryz.pinned (OpenSpec.ofChange lowerDependsSpec)

/-- ITS FALSE NEIGHBOUR: 'it returns false'. Refute it at one input. -/
def lowerDependsWrong : ChangeSpec := { name := "lowerDepends", fn := fun _ => fun
  | [d] => { results := [.lit (.bool false)], args := [d] }
  | _ => none }
def LowerDependsWrongFalsely : Prop := lowerDependsRow.holds Tryz.pinned (OpenSpec.ofChange lowerDependsWrong)

/-- 'tilefarmlaw26.AdmitMonotone': WHATEVER THE INPUT: true; the input reads as it did. -/
def admitMonotoneSpec : ChangeSpec := { name := "admitMonotone", fn := fun _ => fun
  | [d1, d2] => { results := [.lit (.bool true)], args := [d1, d2] }
  | _ => none }
def admitMonotoneRow : OpenClaim := { program := "ytdingplbadblpaagreat", sum := "472dee3e88b2d94da9d315d601668fb8dc98aa3281264c703881af41f6f1190b", func := "tilefarm/tilefarmlaw26.AdmitMonotone", spec := "admitMonotone", unfollowed := true, recurses := true, apart := false }
def AdmitMonotoneSaid : Prop := admitMonotoneRow.holds Tryz.pinned (OpenSpec.ofChange admitMonotoneSpec)

/-- ITS FALSE NEIGHBOUR: 'it returns false'. Refute it at one input. -/
def admitMonotoneWrong : ChangeSpec := { name := "admitMonotone", fn := fun _ => fun
  | [d1, d2] => { results := [.lit (.bool false)], args := [d1, d2] }
  | _ => none }
def AdmitMonotoneWrongFalsely : Prop := admitMonotoneRow.holds Tryz.pinned (OpenSpec.ofChange admitMonotoneWrong)

/-- 'tilefarmlaw26.AdmitPredicate': WHATEVER THE INPUT: true; the input reads as it did. -/
def admitPredicateSpec : ChangeSpec := { name := "admitPredicate", fn := fun _ => fun
  | [d] => { results := [.lit (.bool true)], args := [d] }
  | _ => none }
def admitPredicateRow : OpenClaim := { program := "ytdingplbadblpaagreat", sum := "472dee3e88b2d94da9d315d601668fb8dc98aa3281264c703881af41f6f1190b", func := "tilefarm/tilefarmlaw26.AdmitPredicate", spec := "admitPredicate", unfollowed := true, recurses := true, apart := false }
def AdmitPredicateSaid : Prop := admitPredicateRow.holds Tryz.pinned (OpenSpec.ofChange admitPredicateSpec)

/-- ITS FALSE NEIGHBOUR: 'it returns false'. Refute it at one input. -/
def admitPredicateWrong : ChangeSpec := { name := "admitPredicate", fn := fun _ => fun
  | [d] => { results := [.lit (.bool false)], args := [d] }
  | _ => none }
def AdmitPredicateWrongFalsely : Prop := admitPredicateRow.holds Tryz.pinned (OpenSpec.ofChange admitPredicateWrong)

/-- 'tilefarmlaw26.AdmitPrefix': WHATEVER THE INPUT: true; the input reads as it did. -/
def admitPrefixSpec : ChangeSpec := { name := "admitPrefix", fn := fun _ => fun
  | [d1, d2] => { results := [.lit (.bool true)], args := [d1, d2] }
  | _ => none }
def admitPrefixRow : OpenClaim := { program := "ytdingplbadblpaagreat", sum := "472dee3e88b2d94da9d315d601668fb8dc98aa3281264c703881af41f6f1190b", func := "tilefarm/tilefarmlaw26.AdmitPrefix", spec := "admitPrefix", unfollowed := true, recurses := true, apart := false }
def AdmitPrefixSaid : Prop := admitPrefixRow.holds Tryz.pinned (OpenSpec.ofChange admitPrefixSpec)

/-- ITS FALSE NEIGHBOUR: 'it returns false'. Refute it at one input. -/
def admitPrefixWrong : ChangeSpec := { name := "admitPrefix", fn := fun _ => fun
  | [d1, d2] => { results := [.lit (.bool false)], args := [d1, d2] }
  | _ => none }
def AdmitPrefixWrongFalsely : Prop := admitPrefixRow.holds Tryz.pinned (OpenSpec.ofChange admitPrefixWrong)

/- THE SECOND FORM. 'bulk': how many values and letters a reading holds, each counted each time it is reached (what is shared counts as often as it is met; a slice's spare places count too). A statement '..UptoSaid' is the law's where the arguments, and the package variables that the reading takes, are together of bulk at most 1048576: NARROWER than '..Said'. Prove '..Said' where nothing that the law and all that it calls make is longer than what came in: it says more and counts as full. Else prove '..UptoSaid'. A law counts once. -/
mutual
def uptoBulk {H : Type} : DataW H → Nat
  | .lit (.string bytes) => bytes.length + 1
  | .lit _ => 1
  | .nil => 1
  | .ptr d => uptoBulk d + 1
  | .slice elems spare => uptoBulkAll elems + uptoBulkAll spare + 1
  | .agg parts => uptoBulkAll parts + 1
  | .iface _ d => uptoBulk d + 1
  | .map entries => uptoBulkEntries entries + 1
  | .held _ => 1
def uptoBulkAll {H : Type} : List (DataW H) → Nat
  | [] => 0
  | d :: r => uptoBulk d + uptoBulkAll r
def uptoBulkEntries {H : Type} : List (Lit × DataW H) → Nat
  | [] => 0
  | x :: r => uptoBulkEntry x + uptoBulkEntries r
def uptoBulkEntry {H : Type} : Lit × DataW H → Nat
  | (.string bytes, d) => bytes.length + uptoBulk d + 1
  | (_, d) => uptoBulk d + 1
 end
def uptoSmall : (H : Type) → List (DataW H) → Bool := fun _ ds => decide (uptoBulkAll ds ≤ 1048576)
def OpenSpec.upto (s : _root_.Go.ChangeSpec) : _root_.Go.OpenSpec := { _root_.Go.OpenSpec.ofChange s with cond := some uptoSmall }

/-- 'tilefarmlaw20.LowerBarriers', WHERE WHAT IT READS IS OF BULK AT MOST 1048576: true; the input reads as it did. -/
def lowerBarriersUptoRow : OpenClaim := { program := "ytdingplbadblpaagreat", sum := "472dee3e88b2d94da9d315d601668fb8dc98aa3281264c703881af41f6f1190b", func := "tilefarm/tilefarmlaw20.LowerBarriers", spec := "lowerBarriers", unfollowed := true, recurses := true, apart := false, narrowed := true }
def LowerBarriersUptoSaid : Prop := lowerBarriersUptoRow.holds Tryz.pinned (OpenSpec.upto lowerBarriersSpec)

/-- 'tilefarmlaw20.LowerTasks', WHERE WHAT IT READS IS OF BULK AT MOST 1048576: true; the input reads as it did. -/
def lowerTasksUptoRow : OpenClaim := { program := "ytdingplbadblpaagreat", sum := "472dee3e88b2d94da9d315d601668fb8dc98aa3281264c703881af41f6f1190b", func := "tilefarm/tilefarmlaw20.LowerTasks", spec := "lowerTasks", unfollowed := true, recurses := true, apart := false, narrowed := true }
def LowerTasksUptoSaid : Prop := lowerTasksUptoRow.holds Tryz.pinned (OpenSpec.upto lowerTasksSpec)

/-- 'tilefarmlaw20.LowerScratch', WHERE WHAT IT READS IS OF BULK AT MOST 1048576: true; the input reads as it did. -/
def lowerScratchUptoRow : OpenClaim := { program := "ytdingplbadblpaagreat", sum := "472dee3e88b2d94da9d315d601668fb8dc98aa3281264c703881af41f6f1190b", func := "tilefarm/tilefarmlaw20.LowerScratch", spec := "lowerScratch", unfollowed := true, recurses := true, apart := false, narrowed := true }
def LowerScratchUptoSaid : Prop := lowerScratchUptoRow.holds Tryz.pinned (OpenSpec.upto lowerScratchSpec)

/-- 'tilefarmlaw20.LowerCovers', WHERE WHAT IT READS IS OF BULK AT MOST 1048576: true; the input reads as it did. -/
def lowerCoversUptoRow : OpenClaim := { program := "ytdingplbadblpaagreat", sum := "472dee3e88b2d94da9d315d601668fb8dc98aa3281264c703881af41f6f1190b", func := "tilefarm/tilefarmlaw20.LowerCovers", spec := "lowerCovers", unfollowed := true, recurses := true, apart := false, narrowed := true }
def LowerCoversUptoSaid : Prop := lowerCoversUptoRow.holds Tryz.pinned (OpenSpec.upto lowerCoversSpec)

/-- 'tilefarmlaw20.LowerDepends', WHERE WHAT IT READS IS OF BULK AT MOST 1048576: true; the input reads as it did. -/
def lowerDependsUptoRow : OpenClaim := { program := "ytdingplbadblpaagreat", sum := "472dee3e88b2d94da9d315d601668fb8dc98aa3281264c703881af41f6f1190b", func := "tilefarm/tilefarmlaw20.LowerDepends", spec := "lowerDepends", unfollowed := true, recurses := true, apart := false, narrowed := true }
def LowerDependsUptoSaid : Prop := lowerDependsUptoRow.holds Tryz.pinned (OpenSpec.upto lowerDependsSpec)

/-- 'tilefarmlaw26.AdmitMonotone', WHERE WHAT IT READS IS OF BULK AT MOST 1048576: true; the input reads as it did. -/
def admitMonotoneUptoRow : OpenClaim := { program := "ytdingplbadblpaagreat", sum := "472dee3e88b2d94da9d315d601668fb8dc98aa3281264c703881af41f6f1190b", func := "tilefarm/tilefarmlaw26.AdmitMonotone", spec := "admitMonotone", unfollowed := true, recurses := true, apart := false, narrowed := true }
def AdmitMonotoneUptoSaid : Prop := admitMonotoneUptoRow.holds Tryz.pinned (OpenSpec.upto admitMonotoneSpec)

/-- 'tilefarmlaw26.AdmitPredicate', WHERE WHAT IT READS IS OF BULK AT MOST 1048576: true; the input reads as it did. -/
def admitPredicateUptoRow : OpenClaim := { program := "ytdingplbadblpaagreat", sum := "472dee3e88b2d94da9d315d601668fb8dc98aa3281264c703881af41f6f1190b", func := "tilefarm/tilefarmlaw26.AdmitPredicate", spec := "admitPredicate", unfollowed := true, recurses := true, apart := false, narrowed := true }
def AdmitPredicateUptoSaid : Prop := admitPredicateUptoRow.holds Tryz.pinned (OpenSpec.upto admitPredicateSpec)

/-- 'tilefarmlaw26.AdmitPrefix', WHERE WHAT IT READS IS OF BULK AT MOST 1048576: true; the input reads as it did. -/
def admitPrefixUptoRow : OpenClaim := { program := "ytdingplbadblpaagreat", sum := "472dee3e88b2d94da9d315d601668fb8dc98aa3281264c703881af41f6f1190b", func := "tilefarm/tilefarmlaw26.AdmitPrefix", spec := "admitPrefix", unfollowed := true, recurses := true, apart := false, narrowed := true }
def AdmitPrefixUptoSaid : Prop := admitPrefixUptoRow.holds Tryz.pinned (OpenSpec.upto admitPrefixSpec)

end Rows
end Go.Proofs.YtdingplbadblpaaGreat
