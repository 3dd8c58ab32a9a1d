/-
  No cell of these rows narrows 'for every input' (looked for: loops, veiled, ifaces, maps, wideKeys, modest, calm, conditions, laid).
  DERIVED. THE GIVEN ROWS OF THIS SEAT. 4 by the template 'for every input the law returns true; each argument reads behind the call as it read before'; 0 by the template 'total and deterministic' (their statements: YtghcddbhllkbmaaGreatTotals.lean).
  GIVEN WITH THE SEED: the statements are not yours to turn. If you find one false, say at which input.
  Laid BY PROGRAM, IN A SANDBOX (cutbox-rows.mjs): the forced cells as the released guide's own fill.sh prints them over the translation b746a046bdb96a9b… (all of the seat's roots in one cut). By AI agents, Wed Nov 11 2026. No macro, syntax, notation, axiom, sorry.
-/
import Derived.Test.YtghcddbhllkbmaaGreatChecked
import GoSem.Claim
import GoSem.ClaimJoined
import GoSem.ClaimMapViews
import Derived.JoinedTies
import Derived.KernelRfl
namespace Go.Proofs.YtghcddbhllkbmaaGreat
/- THE CELL 'sum', in the pinned program and in every row, IS THE sha256 OF THE DUMP (.gsa) THAT YtghcddbhllkbmaaGreatProg.lean LOADS. Nothing in Lean hashes anything: it is a label: what it is worth is what the hold of that sum in a sandbox is worth. -/
noncomputable def Tryz.pinned : Pinned := { name := "ytghcddbhllkbmaagreat", sum := "b746a046bdb96a9bf9687b28cb67d75c371e3e66dbc4ef603d7479428b32def3", checked := Tryz.checked }
namespace Rows
def none {H : Type} : Left H := { results := [], args := [] }

/-- 'tilefarmlaw21.TileOrderless': WHATEVER THE INPUT: true; the input reads as it did. -/
def tileOrderlessSpec : ChangeSpec := { name := "tileOrderless", fn := fun _ => fun
  | [d] => { results := [.lit (.bool true)], args := [d] }
  | _ => none }
def tileOrderlessRow : OpenClaim := { program := "ytghcddbhllkbmaagreat", sum := "b746a046bdb96a9bf9687b28cb67d75c371e3e66dbc4ef603d7479428b32def3", func := "tilefarm/tilefarmlaw21.TileOrderless", spec := "tileOrderless", unfollowed := true, recurses := true, apart := false }
def TileOrderlessSaid : Prop := tileOrderlessRow.holds Tryz.pinned (OpenSpec.ofChange tileOrderlessSpec)

/-- ITS FALSE NEIGHBOUR: 'it returns false'. Refute it at one input. -/
def tileOrderlessWrong : ChangeSpec := { name := "tileOrderless", fn := fun _ => fun
  | [d] => { results := [.lit (.bool false)], args := [d] }
  | _ => none }
def TileOrderlessWrongFalsely : Prop := tileOrderlessRow.holds Tryz.pinned (OpenSpec.ofChange tileOrderlessWrong)

/-- 'tilefarmlaw21.TileComputes': WHATEVER THE INPUT: true; the input reads as it did. -/
def tileComputesSpec : ChangeSpec := { name := "tileComputes", fn := fun _ => fun
  | [d1, d2, d3] => { results := [.lit (.bool true)], args := [d1, d2, d3] }
  | _ => none }
def tileComputesRow : OpenClaim := { program := "ytghcddbhllkbmaagreat", sum := "b746a046bdb96a9bf9687b28cb67d75c371e3e66dbc4ef603d7479428b32def3", func := "tilefarm/tilefarmlaw21.TileComputes", spec := "tileComputes", unfollowed := true, recurses := true, apart := false }
def TileComputesSaid : Prop := tileComputesRow.holds Tryz.pinned (OpenSpec.ofChange tileComputesSpec)

/-- ITS FALSE NEIGHBOUR: 'it returns false'. Refute it at one input. -/
def tileComputesWrong : ChangeSpec := { name := "tileComputes", fn := fun _ => fun
  | [d1, d2, d3] => { results := [.lit (.bool false)], args := [d1, d2, d3] }
  | _ => none }
def TileComputesWrongFalsely : Prop := tileComputesRow.holds Tryz.pinned (OpenSpec.ofChange tileComputesWrong)

/-- 'tilefarmlaw21.TileAssembles': WHATEVER THE INPUT: true; the input reads as it did. -/
def tileAssemblesSpec : ChangeSpec := { name := "tileAssembles", fn := fun _ => fun
  | [d] => { results := [.lit (.bool true)], args := [d] }
  | _ => none }
def tileAssemblesRow : OpenClaim := { program := "ytghcddbhllkbmaagreat", sum := "b746a046bdb96a9bf9687b28cb67d75c371e3e66dbc4ef603d7479428b32def3", func := "tilefarm/tilefarmlaw21.TileAssembles", spec := "tileAssembles", unfollowed := true, recurses := true, apart := false }
def TileAssemblesSaid : Prop := tileAssemblesRow.holds Tryz.pinned (OpenSpec.ofChange tileAssemblesSpec)

/-- ITS FALSE NEIGHBOUR: 'it returns false'. Refute it at one input. -/
def tileAssemblesWrong : ChangeSpec := { name := "tileAssembles", fn := fun _ => fun
  | [d] => { results := [.lit (.bool false)], args := [d] }
  | _ => none }
def TileAssemblesWrongFalsely : Prop := tileAssemblesRow.holds Tryz.pinned (OpenSpec.ofChange tileAssemblesWrong)

/-- 'tilefarmlaw21.TileDepends': WHATEVER THE INPUT: true; the input reads as it did. -/
def tileDependsSpec : ChangeSpec := { name := "tileDepends", fn := fun _ => fun
  | [d] => { results := [.lit (.bool true)], args := [d] }
  | _ => none }
def tileDependsRow : OpenClaim := { program := "ytghcddbhllkbmaagreat", sum := "b746a046bdb96a9bf9687b28cb67d75c371e3e66dbc4ef603d7479428b32def3", func := "tilefarm/tilefarmlaw21.TileDepends", spec := "tileDepends", unfollowed := true, recurses := true, apart := false }
def TileDependsSaid : Prop := tileDependsRow.holds Tryz.pinned (OpenSpec.ofChange tileDependsSpec)

/-- ITS FALSE NEIGHBOUR: 'it returns false'. Refute it at one input. -/
def tileDependsWrong : ChangeSpec := { name := "tileDepends", fn := fun _ => fun
  | [d] => { results := [.lit (.bool false)], args := [d] }
  | _ => none }
def TileDependsWrongFalsely : Prop := tileDependsRow.holds Tryz.pinned (OpenSpec.ofChange tileDependsWrong)

/- THE SECOND FORM. 'bulk': how many values and letters a reading holds, each counted each time it is reached (what is shared counts as often as it is met; a slice's spare places count too). A statement '..UptoSaid' is the law's where the arguments, and the package variables that the reading takes, are together of bulk at most 1048576: NARROWER than '..Said'. Prove '..Said' where nothing that the law and all that it calls make is longer than what came in: it says more and counts as full. Else prove '..UptoSaid'. A law counts once. -/
mutual
def uptoBulk {H : Type} : DataW H → Nat
  | .lit (.string bytes) => bytes.length + 1
  | .lit _ => 1
  | .nil => 1
  | .ptr d => uptoBulk d + 1
  | .slice elems spare => uptoBulkAll elems + uptoBulkAll spare + 1
  | .agg parts => uptoBulkAll parts + 1
  | .iface _ d => uptoBulk d + 1
  | .map entries => uptoBulkEntries entries + 1
  | .held _ => 1
def uptoBulkAll {H : Type} : List (DataW H) → Nat
  | [] => 0
  | d :: r => uptoBulk d + uptoBulkAll r
def uptoBulkEntries {H : Type} : List (Lit × DataW H) → Nat
  | [] => 0
  | x :: r => uptoBulkEntry x + uptoBulkEntries r
def uptoBulkEntry {H : Type} : Lit × DataW H → Nat
  | (.string bytes, d) => bytes.length + uptoBulk d + 1
  | (_, d) => uptoBulk d + 1
 end
def uptoSmall : (H : Type) → List (DataW H) → Bool := fun _ ds => decide (uptoBulkAll ds ≤ 1048576)
def OpenSpec.upto (s : _root_.Go.ChangeSpec) : _root_.Go.OpenSpec := { _root_.Go.OpenSpec.ofChange s with cond := some uptoSmall }

/-- 'tilefarmlaw21.TileOrderless', WHERE WHAT IT READS IS OF BULK AT MOST 1048576: true; the input reads as it did. -/
def tileOrderlessUptoRow : OpenClaim := { program := "ytghcddbhllkbmaagreat", sum := "b746a046bdb96a9bf9687b28cb67d75c371e3e66dbc4ef603d7479428b32def3", func := "tilefarm/tilefarmlaw21.TileOrderless", spec := "tileOrderless", unfollowed := true, recurses := true, apart := false, narrowed := true }
def TileOrderlessUptoSaid : Prop := tileOrderlessUptoRow.holds Tryz.pinned (OpenSpec.upto tileOrderlessSpec)

/-- 'tilefarmlaw21.TileComputes', WHERE WHAT IT READS IS OF BULK AT MOST 1048576: true; the input reads as it did. -/
def tileComputesUptoRow : OpenClaim := { program := "ytghcddbhllkbmaagreat", sum := "b746a046bdb96a9bf9687b28cb67d75c371e3e66dbc4ef603d7479428b32def3", func := "tilefarm/tilefarmlaw21.TileComputes", spec := "tileComputes", unfollowed := true, recurses := true, apart := false, narrowed := true }
def TileComputesUptoSaid : Prop := tileComputesUptoRow.holds Tryz.pinned (OpenSpec.upto tileComputesSpec)

/-- 'tilefarmlaw21.TileAssembles', WHERE WHAT IT READS IS OF BULK AT MOST 1048576: true; the input reads as it did. -/
def tileAssemblesUptoRow : OpenClaim := { program := "ytghcddbhllkbmaagreat", sum := "b746a046bdb96a9bf9687b28cb67d75c371e3e66dbc4ef603d7479428b32def3", func := "tilefarm/tilefarmlaw21.TileAssembles", spec := "tileAssembles", unfollowed := true, recurses := true, apart := false, narrowed := true }
def TileAssemblesUptoSaid : Prop := tileAssemblesUptoRow.holds Tryz.pinned (OpenSpec.upto tileAssemblesSpec)

/-- 'tilefarmlaw21.TileDepends', WHERE WHAT IT READS IS OF BULK AT MOST 1048576: true; the input reads as it did. -/
def tileDependsUptoRow : OpenClaim := { program := "ytghcddbhllkbmaagreat", sum := "b746a046bdb96a9bf9687b28cb67d75c371e3e66dbc4ef603d7479428b32def3", func := "tilefarm/tilefarmlaw21.TileDepends", spec := "tileDepends", unfollowed := true, recurses := true, apart := false, narrowed := true }
def TileDependsUptoSaid : Prop := tileDependsUptoRow.holds Tryz.pinned (OpenSpec.upto tileDependsSpec)

end Rows
end Go.Proofs.YtghcddbhllkbmaaGreat
