/-
  No cell of these rows narrows 'for every input' (looked for: loops, veiled, ifaces, maps, wideKeys, modest, calm, conditions, laid).
  DERIVED. THE GIVEN ROWS OF THIS SEAT. 3 by the template 'for every input the law returns true; each argument reads behind the call as it read before'; 0 by the template 'total and deterministic' (their statements: YtfcjnhkkfmgmpaaGreatTotals.lean).
  GIVEN WITH THE SEED: the statements are not yours to turn. If you find one false, say at which input.
  Laid BY PROGRAM, IN A SANDBOX (cutbox-rows.mjs): the forced cells as the released guide's own fill.sh prints them over the translation 7f45576844008044… (all of the seat's roots in one cut). By AI agents, Wed Nov 11 2026. No macro, syntax, notation, axiom, sorry.
-/
import Derived.Test.YtfcjnhkkfmgmpaaGreatChecked
import GoSem.Claim
import GoSem.ClaimJoined
import GoSem.ClaimMapViews
import Derived.JoinedTies
import Derived.KernelRfl
namespace Go.Proofs.YtfcjnhkkfmgmpaaGreat
/- THE CELL 'sum', in the pinned program and in every row, IS THE sha256 OF THE DUMP (.gsa) THAT YtfcjnhkkfmgmpaaGreatProg.lean LOADS. Nothing in Lean hashes anything: it is a label: what it is worth is what the hold of that sum in a sandbox is worth. -/
noncomputable def Tryz.pinned : Pinned := { name := "ytfcjnhkkfmgmpaagreat", sum := "7f45576844008044ff1b6eca6dc0e88b220528c2953a8bd1d9f0f041f41f1505", checked := Tryz.checked }
namespace Rows
def none {H : Type} : Left H := { results := [], args := [] }

/-- 'gussetlaw11.MeshFlips': WHATEVER THE INPUT: true; the input reads as it did. -/
def meshFlipsSpec : ChangeSpec := { name := "meshFlips", fn := fun _ => fun
  | [d1, d2, d3] => { results := [.lit (.bool true)], args := [d1, d2, d3] }
  | _ => none }
def meshFlipsRow : OpenClaim := { program := "ytfcjnhkkfmgmpaagreat", sum := "7f45576844008044ff1b6eca6dc0e88b220528c2953a8bd1d9f0f041f41f1505", func := "gusset/gussetlaw11.MeshFlips", spec := "meshFlips", inPlace := ["math/bits.Add64", "math/bits.Sub64", "internal/abi.NoEscape", "internal/bytealg.MakeNoZero"], unfollowed := true, recurses := true, named := ["math/bits.divideError", "math/bits.overflowError"], plainKeys := false, apart := false }
def MeshFlipsSaid : Prop := meshFlipsRow.holds Tryz.pinned (OpenSpec.ofChange meshFlipsSpec)

/-- ITS FALSE NEIGHBOUR: 'it returns false'. Refute it at one input. -/
def meshFlipsWrong : ChangeSpec := { name := "meshFlips", fn := fun _ => fun
  | [d1, d2, d3] => { results := [.lit (.bool false)], args := [d1, d2, d3] }
  | _ => none }
def MeshFlipsWrongFalsely : Prop := meshFlipsRow.holds Tryz.pinned (OpenSpec.ofChange meshFlipsWrong)

/-- 'gussetlaw11.MeshSplits': WHATEVER THE INPUT: true; the input reads as it did. -/
def meshSplitsSpec : ChangeSpec := { name := "meshSplits", fn := fun _ => fun
  | [d1, d2, d3] => { results := [.lit (.bool true)], args := [d1, d2, d3] }
  | _ => none }
def meshSplitsRow : OpenClaim := { program := "ytfcjnhkkfmgmpaagreat", sum := "7f45576844008044ff1b6eca6dc0e88b220528c2953a8bd1d9f0f041f41f1505", func := "gusset/gussetlaw11.MeshSplits", spec := "meshSplits", inPlace := ["math/bits.Add64", "math/bits.Sub64", "internal/abi.NoEscape", "internal/bytealg.MakeNoZero"], unfollowed := true, recurses := true, named := ["math/bits.divideError", "math/bits.overflowError"], plainKeys := false, apart := false }
def MeshSplitsSaid : Prop := meshSplitsRow.holds Tryz.pinned (OpenSpec.ofChange meshSplitsSpec)

/-- ITS FALSE NEIGHBOUR: 'it returns false'. Refute it at one input. -/
def meshSplitsWrong : ChangeSpec := { name := "meshSplits", fn := fun _ => fun
  | [d1, d2, d3] => { results := [.lit (.bool false)], args := [d1, d2, d3] }
  | _ => none }
def MeshSplitsWrongFalsely : Prop := meshSplitsRow.holds Tryz.pinned (OpenSpec.ofChange meshSplitsWrong)

/-- 'gussetlaw11.MeshCuts': WHATEVER THE INPUT: true; the input reads as it did. -/
def meshCutsSpec : ChangeSpec := { name := "meshCuts", fn := fun _ => fun
  | [d] => { results := [.lit (.bool true)], args := [d] }
  | _ => none }
def meshCutsRow : OpenClaim := { program := "ytfcjnhkkfmgmpaagreat", sum := "7f45576844008044ff1b6eca6dc0e88b220528c2953a8bd1d9f0f041f41f1505", func := "gusset/gussetlaw11.MeshCuts", spec := "meshCuts", inPlace := ["math/bits.Add64", "math/bits.Sub64", "internal/abi.NoEscape", "internal/bytealg.MakeNoZero"], unfollowed := true, recurses := true, named := ["math/bits.divideError", "math/bits.overflowError"], plainKeys := false, apart := false }
def MeshCutsSaid : Prop := meshCutsRow.holds Tryz.pinned (OpenSpec.ofChange meshCutsSpec)

/-- ITS FALSE NEIGHBOUR: 'it returns false'. Refute it at one input. -/
def meshCutsWrong : ChangeSpec := { name := "meshCuts", fn := fun _ => fun
  | [d] => { results := [.lit (.bool false)], args := [d] }
  | _ => none }
def MeshCutsWrongFalsely : Prop := meshCutsRow.holds Tryz.pinned (OpenSpec.ofChange meshCutsWrong)

/- THE SECOND FORM. 'bulk': how many values and letters a reading holds, each counted each time it is reached (what is shared counts as often as it is met; a slice's spare places count too). A statement '..UptoSaid' is the law's where the arguments, and the package variables that the reading takes, are together of bulk at most 1048576: NARROWER than '..Said'. Prove '..Said' where nothing that the law and all that it calls make is longer than what came in: it says more and counts as full. Else prove '..UptoSaid'. A law counts once. -/
mutual
def uptoBulk {H : Type} : DataW H → Nat
  | .lit (.string bytes) => bytes.length + 1
  | .lit _ => 1
  | .nil => 1
  | .ptr d => uptoBulk d + 1
  | .slice elems spare => uptoBulkAll elems + uptoBulkAll spare + 1
  | .agg parts => uptoBulkAll parts + 1
  | .iface _ d => uptoBulk d + 1
  | .map entries => uptoBulkEntries entries + 1
  | .held _ => 1
def uptoBulkAll {H : Type} : List (DataW H) → Nat
  | [] => 0
  | d :: r => uptoBulk d + uptoBulkAll r
def uptoBulkEntries {H : Type} : List (Lit × DataW H) → Nat
  | [] => 0
  | x :: r => uptoBulkEntry x + uptoBulkEntries r
def uptoBulkEntry {H : Type} : Lit × DataW H → Nat
  | (.string bytes, d) => bytes.length + uptoBulk d + 1
  | (_, d) => uptoBulk d + 1
 end
def uptoSmall : (H : Type) → List (DataW H) → Bool := fun _ ds => decide (uptoBulkAll ds ≤ 1048576)
def OpenSpec.upto (s : _root_.Go.ChangeSpec) : _root_.Go.OpenSpec := { _root_.Go.OpenSpec.ofChange s with cond := some uptoSmall }

/-- 'gussetlaw11.MeshFlips', WHERE WHAT IT READS IS OF BULK AT MOST 1048576: true; the input reads as it did. -/
def meshFlipsUptoRow : OpenClaim := { program := "ytfcjnhkkfmgmpaagreat", sum := "7f45576844008044ff1b6eca6dc0e88b220528c2953a8bd1d9f0f041f41f1505", func := "gusset/gussetlaw11.MeshFlips", spec := "meshFlips", inPlace := ["math/bits.Add64", "math/bits.Sub64", "internal/abi.NoEscape", "internal/bytealg.MakeNoZero"], unfollowed := true, recurses := true, named := ["math/bits.divideError", "math/bits.overflowError"], plainKeys := false, apart := false, narrowed := true }
def MeshFlipsUptoSaid : Prop := meshFlipsUptoRow.holds Tryz.pinned (OpenSpec.upto meshFlipsSpec)

/-- 'gussetlaw11.MeshSplits', WHERE WHAT IT READS IS OF BULK AT MOST 1048576: true; the input reads as it did. -/
def meshSplitsUptoRow : OpenClaim := { program := "ytfcjnhkkfmgmpaagreat", sum := "7f45576844008044ff1b6eca6dc0e88b220528c2953a8bd1d9f0f041f41f1505", func := "gusset/gussetlaw11.MeshSplits", spec := "meshSplits", inPlace := ["math/bits.Add64", "math/bits.Sub64", "internal/abi.NoEscape", "internal/bytealg.MakeNoZero"], unfollowed := true, recurses := true, named := ["math/bits.divideError", "math/bits.overflowError"], plainKeys := false, apart := false, narrowed := true }
def MeshSplitsUptoSaid : Prop := meshSplitsUptoRow.holds Tryz.pinned (OpenSpec.upto meshSplitsSpec)

/-- 'gussetlaw11.MeshCuts', WHERE WHAT IT READS IS OF BULK AT MOST 1048576: true; the input reads as it did. -/
def meshCutsUptoRow : OpenClaim := { program := "ytfcjnhkkfmgmpaagreat", sum := "7f45576844008044ff1b6eca6dc0e88b220528c2953a8bd1d9f0f041f41f1505", func := "gusset/gussetlaw11.MeshCuts", spec := "meshCuts", inPlace := ["math/bits.Add64", "math/bits.Sub64", "internal/abi.NoEscape", "internal/bytealg.MakeNoZero"], unfollowed := true, recurses := true, named := ["math/bits.divideError", "math/bits.overflowError"], plainKeys := false, apart := false, narrowed := true }
def MeshCutsUptoSaid : Prop := meshCutsUptoRow.holds Tryz.pinned (OpenSpec.upto meshCutsSpec)

end Rows
end Go.Proofs.YtfcjnhkkfmgmpaaGreat
