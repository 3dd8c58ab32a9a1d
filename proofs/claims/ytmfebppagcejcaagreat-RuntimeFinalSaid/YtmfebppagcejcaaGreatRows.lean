/-
  No cell of these rows narrows 'for every input' (looked for: loops, veiled, ifaces, maps, wideKeys, modest, calm, conditions, laid).
  DERIVED. THE GIVEN ROWS OF THIS SEAT. 5 by the template 'for every input the law returns true; each argument reads behind the call as it read before'; 0 by the template 'total and deterministic' (their statements: YtmfebppagcejcaaGreatTotals.lean).
  GIVEN WITH THE SEED: the statements are not yours to turn. If you find one false, say at which input.
  Laid BY PROGRAM, IN A SANDBOX (cutbox-rows.mjs): the forced cells as the released guide's own fill.sh prints them over the translation 755281d49d07a503… (all of the seat's roots in one cut). By AI agents, Wed Nov 11 2026. No macro, syntax, notation, axiom, sorry.
-/
import Derived.Test.YtmfebppagcejcaaGreatChecked
import GoSem.Claim
import GoSem.ClaimJoined
import GoSem.ClaimMapViews
import Derived.JoinedTies
import Derived.KernelRfl
namespace Go.Proofs.YtmfebppagcejcaaGreat
/- THE CELL 'sum', in the pinned program and in every row, IS THE sha256 OF THE DUMP (.gsa) THAT YtmfebppagcejcaaGreatProg.lean LOADS. Nothing in Lean hashes anything: it is a label: what it is worth is what the hold of that sum in a sandbox is worth. -/
noncomputable def Tryz.pinned : Pinned := { name := "ytmfebppagcejcaagreat", sum := "755281d49d07a5031d99c807926845e307d89482b5d1f3102becc62136bcf992", checked := Tryz.checked }
namespace Rows
def none {H : Type} : Left H := { results := [], args := [] }

/-- 'tilefarmtop.TopHistory': WHATEVER THE INPUT: true; the input reads as it did. -/
def topHistorySpec : ChangeSpec := { name := "topHistory", fn := fun _ => fun
  | [d] => { results := [.lit (.bool true)], args := [d] }
  | _ => none }
def topHistoryRow : OpenClaim := { program := "ytmfebppagcejcaagreat", sum := "755281d49d07a5031d99c807926845e307d89482b5d1f3102becc62136bcf992", func := "tilefarm/tilefarmtop.TopHistory", spec := "topHistory", unfollowed := true, recurses := true, apart := false }
def TopHistorySaid : Prop := topHistoryRow.holds Tryz.pinned (OpenSpec.ofChange topHistorySpec)

/-- ITS FALSE NEIGHBOUR: 'it returns false'. Refute it at one input. -/
def topHistoryWrong : ChangeSpec := { name := "topHistory", fn := fun _ => fun
  | [d] => { results := [.lit (.bool false)], args := [d] }
  | _ => none }
def TopHistoryWrongFalsely : Prop := topHistoryRow.holds Tryz.pinned (OpenSpec.ofChange topHistoryWrong)

/-- 'tilefarmlaw28.RuntimeLoad': WHATEVER THE INPUT: true; the input reads as it did. -/
def runtimeLoadSpec : ChangeSpec := { name := "runtimeLoad", fn := fun _ => fun
  | [d1, d2] => { results := [.lit (.bool true)], args := [d1, d2] }
  | _ => none }
def runtimeLoadRow : OpenClaim := { program := "ytmfebppagcejcaagreat", sum := "755281d49d07a5031d99c807926845e307d89482b5d1f3102becc62136bcf992", func := "tilefarm/tilefarmlaw28.RuntimeLoad", spec := "runtimeLoad", unfollowed := true, recurses := true, apart := false }
def RuntimeLoadSaid : Prop := runtimeLoadRow.holds Tryz.pinned (OpenSpec.ofChange runtimeLoadSpec)

/-- ITS FALSE NEIGHBOUR: 'it returns false'. Refute it at one input. -/
def runtimeLoadWrong : ChangeSpec := { name := "runtimeLoad", fn := fun _ => fun
  | [d1, d2] => { results := [.lit (.bool false)], args := [d1, d2] }
  | _ => none }
def RuntimeLoadWrongFalsely : Prop := runtimeLoadRow.holds Tryz.pinned (OpenSpec.ofChange runtimeLoadWrong)

/-- 'tilefarmlaw28.RuntimeFinal': WHATEVER THE INPUT: true; the input reads as it did. -/
def runtimeFinalSpec : ChangeSpec := { name := "runtimeFinal", fn := fun _ => fun
  | [d] => { results := [.lit (.bool true)], args := [d] }
  | _ => none }
def runtimeFinalRow : OpenClaim := { program := "ytmfebppagcejcaagreat", sum := "755281d49d07a5031d99c807926845e307d89482b5d1f3102becc62136bcf992", func := "tilefarm/tilefarmlaw28.RuntimeFinal", spec := "runtimeFinal", unfollowed := true, recurses := true, apart := false }
def RuntimeFinalSaid : Prop := runtimeFinalRow.holds Tryz.pinned (OpenSpec.ofChange runtimeFinalSpec)

/-- ITS FALSE NEIGHBOUR: 'it returns false'. Refute it at one input. -/
def runtimeFinalWrong : ChangeSpec := { name := "runtimeFinal", fn := fun _ => fun
  | [d] => { results := [.lit (.bool false)], args := [d] }
  | _ => none }
def RuntimeFinalWrongFalsely : Prop := runtimeFinalRow.holds Tryz.pinned (OpenSpec.ofChange runtimeFinalWrong)

/-- 'tilefarmlaw30.ScriptSilent': WHATEVER THE INPUT: true; the input reads as it did. -/
def scriptSilentSpec : ChangeSpec := { name := "scriptSilent", fn := fun _ => fun
  | [d] => { results := [.lit (.bool true)], args := [d] }
  | _ => none }
def scriptSilentRow : OpenClaim := { program := "ytmfebppagcejcaagreat", sum := "755281d49d07a5031d99c807926845e307d89482b5d1f3102becc62136bcf992", func := "tilefarm/tilefarmlaw30.ScriptSilent", spec := "scriptSilent", unfollowed := true, recurses := true, apart := false }
def ScriptSilentSaid : Prop := scriptSilentRow.holds Tryz.pinned (OpenSpec.ofChange scriptSilentSpec)

/-- ITS FALSE NEIGHBOUR: 'it returns false'. Refute it at one input. -/
def scriptSilentWrong : ChangeSpec := { name := "scriptSilent", fn := fun _ => fun
  | [d] => { results := [.lit (.bool false)], args := [d] }
  | _ => none }
def ScriptSilentWrongFalsely : Prop := scriptSilentRow.holds Tryz.pinned (OpenSpec.ofChange scriptSilentWrong)

/-- 'tilefarmlaw30.ScriptPrefix': WHATEVER THE INPUT: true; the input reads as it did. -/
def scriptPrefixSpec : ChangeSpec := { name := "scriptPrefix", fn := fun _ => fun
  | [d1, d2] => { results := [.lit (.bool true)], args := [d1, d2] }
  | _ => none }
def scriptPrefixRow : OpenClaim := { program := "ytmfebppagcejcaagreat", sum := "755281d49d07a5031d99c807926845e307d89482b5d1f3102becc62136bcf992", func := "tilefarm/tilefarmlaw30.ScriptPrefix", spec := "scriptPrefix", unfollowed := true, recurses := true, apart := false }
def ScriptPrefixSaid : Prop := scriptPrefixRow.holds Tryz.pinned (OpenSpec.ofChange scriptPrefixSpec)

/-- ITS FALSE NEIGHBOUR: 'it returns false'. Refute it at one input. -/
def scriptPrefixWrong : ChangeSpec := { name := "scriptPrefix", fn := fun _ => fun
  | [d1, d2] => { results := [.lit (.bool false)], args := [d1, d2] }
  | _ => none }
def ScriptPrefixWrongFalsely : Prop := scriptPrefixRow.holds Tryz.pinned (OpenSpec.ofChange scriptPrefixWrong)

/- THE SECOND FORM. 'bulk': how many values and letters a reading holds, each counted each time it is reached (what is shared counts as often as it is met; a slice's spare places count too). A statement '..UptoSaid' is the law's where the arguments, and the package variables that the reading takes, are together of bulk at most 1048576: NARROWER than '..Said'. Prove '..Said' where nothing that the law and all that it calls make is longer than what came in: it says more and counts as full. Else prove '..UptoSaid'. A law counts once. -/
mutual
def uptoBulk {H : Type} : DataW H → Nat
  | .lit (.string bytes) => bytes.length + 1
  | .lit _ => 1
  | .nil => 1
  | .ptr d => uptoBulk d + 1
  | .slice elems spare => uptoBulkAll elems + uptoBulkAll spare + 1
  | .agg parts => uptoBulkAll parts + 1
  | .iface _ d => uptoBulk d + 1
  | .map entries => uptoBulkEntries entries + 1
  | .held _ => 1
def uptoBulkAll {H : Type} : List (DataW H) → Nat
  | [] => 0
  | d :: r => uptoBulk d + uptoBulkAll r
def uptoBulkEntries {H : Type} : List (Lit × DataW H) → Nat
  | [] => 0
  | x :: r => uptoBulkEntry x + uptoBulkEntries r
def uptoBulkEntry {H : Type} : Lit × DataW H → Nat
  | (.string bytes, d) => bytes.length + uptoBulk d + 1
  | (_, d) => uptoBulk d + 1
 end
def uptoSmall : (H : Type) → List (DataW H) → Bool := fun _ ds => decide (uptoBulkAll ds ≤ 1048576)
def OpenSpec.upto (s : _root_.Go.ChangeSpec) : _root_.Go.OpenSpec := { _root_.Go.OpenSpec.ofChange s with cond := some uptoSmall }

/-- 'tilefarmtop.TopHistory', WHERE WHAT IT READS IS OF BULK AT MOST 1048576: true; the input reads as it did. -/
def topHistoryUptoRow : OpenClaim := { program := "ytmfebppagcejcaagreat", sum := "755281d49d07a5031d99c807926845e307d89482b5d1f3102becc62136bcf992", func := "tilefarm/tilefarmtop.TopHistory", spec := "topHistory", unfollowed := true, recurses := true, apart := false, narrowed := true }
def TopHistoryUptoSaid : Prop := topHistoryUptoRow.holds Tryz.pinned (OpenSpec.upto topHistorySpec)

/-- 'tilefarmlaw28.RuntimeLoad', WHERE WHAT IT READS IS OF BULK AT MOST 1048576: true; the input reads as it did. -/
def runtimeLoadUptoRow : OpenClaim := { program := "ytmfebppagcejcaagreat", sum := "755281d49d07a5031d99c807926845e307d89482b5d1f3102becc62136bcf992", func := "tilefarm/tilefarmlaw28.RuntimeLoad", spec := "runtimeLoad", unfollowed := true, recurses := true, apart := false, narrowed := true }
def RuntimeLoadUptoSaid : Prop := runtimeLoadUptoRow.holds Tryz.pinned (OpenSpec.upto runtimeLoadSpec)

/-- 'tilefarmlaw28.RuntimeFinal', WHERE WHAT IT READS IS OF BULK AT MOST 1048576: true; the input reads as it did. -/
def runtimeFinalUptoRow : OpenClaim := { program := "ytmfebppagcejcaagreat", sum := "755281d49d07a5031d99c807926845e307d89482b5d1f3102becc62136bcf992", func := "tilefarm/tilefarmlaw28.RuntimeFinal", spec := "runtimeFinal", unfollowed := true, recurses := true, apart := false, narrowed := true }
def RuntimeFinalUptoSaid : Prop := runtimeFinalUptoRow.holds Tryz.pinned (OpenSpec.upto runtimeFinalSpec)

/-- 'tilefarmlaw30.ScriptSilent', WHERE WHAT IT READS IS OF BULK AT MOST 1048576: true; the input reads as it did. -/
def scriptSilentUptoRow : OpenClaim := { program := "ytmfebppagcejcaagreat", sum := "755281d49d07a5031d99c807926845e307d89482b5d1f3102becc62136bcf992", func := "tilefarm/tilefarmlaw30.ScriptSilent", spec := "scriptSilent", unfollowed := true, recurses := true, apart := false, narrowed := true }
def ScriptSilentUptoSaid : Prop := scriptSilentUptoRow.holds Tryz.pinned (OpenSpec.upto scriptSilentSpec)

/-- 'tilefarmlaw30.ScriptPrefix', WHERE WHAT IT READS IS OF BULK AT MOST 1048576: true; the input reads as it did. -/
def scriptPrefixUptoRow : OpenClaim := { program := "ytmfebppagcejcaagreat", sum := "755281d49d07a5031d99c807926845e307d89482b5d1f3102becc62136bcf992", func := "tilefarm/tilefarmlaw30.ScriptPrefix", spec := "scriptPrefix", unfollowed := true, recurses := true, apart := false, narrowed := true }
def ScriptPrefixUptoSaid : Prop := scriptPrefixUptoRow.holds Tryz.pinned (OpenSpec.upto scriptPrefixSpec)

end Rows
end Go.Proofs.YtmfebppagcejcaaGreat
