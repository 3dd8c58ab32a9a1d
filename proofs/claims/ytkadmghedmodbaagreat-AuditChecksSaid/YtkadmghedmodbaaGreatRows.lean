/-
  No cell of these rows narrows 'for every input' (looked for: loops, veiled, ifaces, maps, wideKeys, modest, calm, conditions, laid).
  DERIVED. THE GIVEN ROWS OF THIS SEAT. 3 by the template 'for every input the law returns true; each argument reads behind the call as it read before'; 0 by the template 'total and deterministic' (their statements: YtkadmghedmodbaaGreatTotals.lean).
  GIVEN WITH THE SEED: the statements are not yours to turn. If you find one false, say at which input.
  Laid BY PROGRAM, IN A SANDBOX (cutbox-rows.mjs): the forced cells as the released guide's own fill.sh prints them over the translation b261d5084f336d71… (all of the seat's roots in one cut). By AI agents, Wed Nov 11 2026. No macro, syntax, notation, axiom, sorry.
-/
import Derived.Test.YtkadmghedmodbaaGreatChecked
import GoSem.Claim
import GoSem.ClaimJoined
import GoSem.ClaimMapViews
import Derived.JoinedTies
import Derived.KernelRfl
namespace Go.Proofs.YtkadmghedmodbaaGreat
/- THE CELL 'sum', in the pinned program and in every row, IS THE sha256 OF THE DUMP (.gsa) THAT YtkadmghedmodbaaGreatProg.lean LOADS. Nothing in Lean hashes anything: it is a label: what it is worth is what the hold of that sum in a sandbox is worth. -/
noncomputable def Tryz.pinned : Pinned := { name := "ytkadmghedmodbaagreat", sum := "b261d5084f336d71ac09e3246977ffe5c3fe634b63fa5fe2a8a0eea13d7132ad", checked := Tryz.checked }
namespace Rows
def none {H : Type} : Left H := { results := [], args := [] }

/-- 'tilefarmlaw31.AuditChecks': WHATEVER THE INPUT: true; the input reads as it did. -/
def auditChecksSpec : ChangeSpec := { name := "auditChecks", fn := fun _ => fun
  | [d1, d2, d3, d4] => { results := [.lit (.bool true)], args := [d1, d2, d3, d4] }
  | _ => none }
def auditChecksRow : OpenClaim := { program := "ytkadmghedmodbaagreat", sum := "b261d5084f336d71ac09e3246977ffe5c3fe634b63fa5fe2a8a0eea13d7132ad", func := "tilefarm/tilefarmlaw31.AuditChecks", spec := "auditChecks", recurses := true, apart := false }
def AuditChecksSaid : Prop := auditChecksRow.holds Tryz.pinned (OpenSpec.ofChange auditChecksSpec)

/-- ITS FALSE NEIGHBOUR: 'it returns false'. Refute it at one input. -/
def auditChecksWrong : ChangeSpec := { name := "auditChecks", fn := fun _ => fun
  | [d1, d2, d3, d4] => { results := [.lit (.bool false)], args := [d1, d2, d3, d4] }
  | _ => none }
def AuditChecksWrongFalsely : Prop := auditChecksRow.holds Tryz.pinned (OpenSpec.ofChange auditChecksWrong)

/-- 'tilefarmlaw27.FarmFollows': WHATEVER THE INPUT: true; the input reads as it did. -/
def farmFollowsSpec : ChangeSpec := { name := "farmFollows", fn := fun _ => fun
  | [d1, d2, d3, d4, d5] => { results := [.lit (.bool true)], args := [d1, d2, d3, d4, d5] }
  | _ => none }
def farmFollowsRow : OpenClaim := { program := "ytkadmghedmodbaagreat", sum := "b261d5084f336d71ac09e3246977ffe5c3fe634b63fa5fe2a8a0eea13d7132ad", func := "tilefarm/tilefarmlaw27.FarmFollows", spec := "farmFollows", unfollowed := true, recurses := true, apart := false }
def FarmFollowsSaid : Prop := farmFollowsRow.holds Tryz.pinned (OpenSpec.ofChange farmFollowsSpec)

/-- ITS FALSE NEIGHBOUR: 'it returns false'. Refute it at one input. -/
def farmFollowsWrong : ChangeSpec := { name := "farmFollows", fn := fun _ => fun
  | [d1, d2, d3, d4, d5] => { results := [.lit (.bool false)], args := [d1, d2, d3, d4, d5] }
  | _ => none }
def FarmFollowsWrongFalsely : Prop := farmFollowsRow.holds Tryz.pinned (OpenSpec.ofChange farmFollowsWrong)

/-- 'tilefarmlaw31.AuditAccepts': WHATEVER THE INPUT: true; the input reads as it did. -/
def auditAcceptsSpec : ChangeSpec := { name := "auditAccepts", fn := fun _ => fun
  | [d] => { results := [.lit (.bool true)], args := [d] }
  | _ => none }
def auditAcceptsRow : OpenClaim := { program := "ytkadmghedmodbaagreat", sum := "b261d5084f336d71ac09e3246977ffe5c3fe634b63fa5fe2a8a0eea13d7132ad", func := "tilefarm/tilefarmlaw31.AuditAccepts", spec := "auditAccepts", unfollowed := true, recurses := true, apart := false }
def AuditAcceptsSaid : Prop := auditAcceptsRow.holds Tryz.pinned (OpenSpec.ofChange auditAcceptsSpec)

/-- ITS FALSE NEIGHBOUR: 'it returns false'. Refute it at one input. -/
def auditAcceptsWrong : ChangeSpec := { name := "auditAccepts", fn := fun _ => fun
  | [d] => { results := [.lit (.bool false)], args := [d] }
  | _ => none }
def AuditAcceptsWrongFalsely : Prop := auditAcceptsRow.holds Tryz.pinned (OpenSpec.ofChange auditAcceptsWrong)

/- THE SECOND FORM. 'bulk': how many values and letters a reading holds, each counted each time it is reached (what is shared counts as often as it is met; a slice's spare places count too). A statement '..UptoSaid' is the law's where the arguments, and the package variables that the reading takes, are together of bulk at most 1048576: NARROWER than '..Said'. Prove '..Said' where nothing that the law and all that it calls make is longer than what came in: it says more and counts as full. Else prove '..UptoSaid'. A law counts once. -/
mutual
def uptoBulk {H : Type} : DataW H → Nat
  | .lit (.string bytes) => bytes.length + 1
  | .lit _ => 1
  | .nil => 1
  | .ptr d => uptoBulk d + 1
  | .slice elems spare => uptoBulkAll elems + uptoBulkAll spare + 1
  | .agg parts => uptoBulkAll parts + 1
  | .iface _ d => uptoBulk d + 1
  | .map entries => uptoBulkEntries entries + 1
  | .held _ => 1
def uptoBulkAll {H : Type} : List (DataW H) → Nat
  | [] => 0
  | d :: r => uptoBulk d + uptoBulkAll r
def uptoBulkEntries {H : Type} : List (Lit × DataW H) → Nat
  | [] => 0
  | x :: r => uptoBulkEntry x + uptoBulkEntries r
def uptoBulkEntry {H : Type} : Lit × DataW H → Nat
  | (.string bytes, d) => bytes.length + uptoBulk d + 1
  | (_, d) => uptoBulk d + 1
 end
def uptoSmall : (H : Type) → List (DataW H) → Bool := fun _ ds => decide (uptoBulkAll ds ≤ 1048576)
def OpenSpec.upto (s : _root_.Go.ChangeSpec) : _root_.Go.OpenSpec := { _root_.Go.OpenSpec.ofChange s with cond := some uptoSmall }

/-- 'tilefarmlaw31.AuditChecks', WHERE WHAT IT READS IS OF BULK AT MOST 1048576: true; the input reads as it did. -/
def auditChecksUptoRow : OpenClaim := { program := "ytkadmghedmodbaagreat", sum := "b261d5084f336d71ac09e3246977ffe5c3fe634b63fa5fe2a8a0eea13d7132ad", func := "tilefarm/tilefarmlaw31.AuditChecks", spec := "auditChecks", recurses := true, apart := false, narrowed := true }
def AuditChecksUptoSaid : Prop := auditChecksUptoRow.holds Tryz.pinned (OpenSpec.upto auditChecksSpec)

/-- 'tilefarmlaw27.FarmFollows', WHERE WHAT IT READS IS OF BULK AT MOST 1048576: true; the input reads as it did. -/
def farmFollowsUptoRow : OpenClaim := { program := "ytkadmghedmodbaagreat", sum := "b261d5084f336d71ac09e3246977ffe5c3fe634b63fa5fe2a8a0eea13d7132ad", func := "tilefarm/tilefarmlaw27.FarmFollows", spec := "farmFollows", unfollowed := true, recurses := true, apart := false, narrowed := true }
def FarmFollowsUptoSaid : Prop := farmFollowsUptoRow.holds Tryz.pinned (OpenSpec.upto farmFollowsSpec)

/-- 'tilefarmlaw31.AuditAccepts', WHERE WHAT IT READS IS OF BULK AT MOST 1048576: true; the input reads as it did. -/
def auditAcceptsUptoRow : OpenClaim := { program := "ytkadmghedmodbaagreat", sum := "b261d5084f336d71ac09e3246977ffe5c3fe634b63fa5fe2a8a0eea13d7132ad", func := "tilefarm/tilefarmlaw31.AuditAccepts", spec := "auditAccepts", unfollowed := true, recurses := true, apart := false, narrowed := true }
def AuditAcceptsUptoSaid : Prop := auditAcceptsUptoRow.holds Tryz.pinned (OpenSpec.upto auditAcceptsSpec)

end Rows
end Go.Proofs.YtkadmghedmodbaaGreat
