/-
  No cell of these rows narrows 'for every input' (looked for: loops, veiled, ifaces, maps, wideKeys, modest, calm, conditions, laid).
  DERIVED. THE GIVEN ROWS OF THIS SEAT. 3 by the template 'for every input the law returns true; each argument reads behind the call as it read before'; 0 by the template 'total and deterministic' (their statements: YtcmepkhjggpmeaaGreatTotals.lean).
  GIVEN WITH THE SEED: the statements are not yours to turn. If you find one false, say at which input.
  Laid BY PROGRAM, IN A SANDBOX (cutbox-rows.mjs): the forced cells as the released guide's own fill.sh prints them over the translation 8722e7b5f3e1ef2d… (all of the seat's roots in one cut). By AI agents, Wed Nov 11 2026. No macro, syntax, notation, axiom, sorry.
-/
import Derived.Test.YtcmepkhjggpmeaaGreatChecked
import GoSem.Claim
import GoSem.ClaimJoined
import GoSem.ClaimMapViews
import Derived.JoinedTies
import Derived.KernelRfl
namespace Go.Proofs.YtcmepkhjggpmeaaGreat
/- THE CELL 'sum', in the pinned program and in every row, IS THE sha256 OF THE DUMP (.gsa) THAT YtcmepkhjggpmeaaGreatProg.lean LOADS. Nothing in Lean hashes anything: it is a label: what it is worth is what the hold of that sum in a sandbox is worth. -/
noncomputable def Tryz.pinned : Pinned := { name := "ytcmepkhjggpmeaagreat", sum := "8722e7b5f3e1ef2dd677aec39d719ea54b30a23d6d51a25fca441fcc52741f8f", checked := Tryz.checked }
namespace Rows
def none {H : Type} : Left H := { results := [], args := [] }

/-- 'gussetlaw11.MeshAcross': WHATEVER THE INPUT: true; the input reads as it did. -/
def meshAcrossSpec : ChangeSpec := { name := "meshAcross", fn := fun _ => fun
  | [d1, d2, d3] => { results := [.lit (.bool true)], args := [d1, d2, d3] }
  | _ => none }
def meshAcrossRow : OpenClaim := { program := "ytcmepkhjggpmeaagreat", sum := "8722e7b5f3e1ef2dd677aec39d719ea54b30a23d6d51a25fca441fcc52741f8f", func := "gusset/gussetlaw11.MeshAcross", spec := "meshAcross", inPlace := ["math/bits.Add64", "math/bits.Sub64", "internal/abi.NoEscape", "internal/bytealg.MakeNoZero"], unfollowed := true, recurses := true, named := ["math/bits.divideError", "math/bits.overflowError"], plainKeys := false, apart := false }
def MeshAcrossSaid : Prop := meshAcrossRow.holds Tryz.pinned (OpenSpec.ofChange meshAcrossSpec)

/-- ITS FALSE NEIGHBOUR: 'it returns false'. Refute it at one input. -/
def meshAcrossWrong : ChangeSpec := { name := "meshAcross", fn := fun _ => fun
  | [d1, d2, d3] => { results := [.lit (.bool false)], args := [d1, d2, d3] }
  | _ => none }
def MeshAcrossWrongFalsely : Prop := meshAcrossRow.holds Tryz.pinned (OpenSpec.ofChange meshAcrossWrong)

/-- 'gussetlaw11.MeshChecks': WHATEVER THE INPUT: true; the input reads as it did. -/
def meshChecksSpec : ChangeSpec := { name := "meshChecks", fn := fun _ => fun
  | [d] => { results := [.lit (.bool true)], args := [d] }
  | _ => none }
def meshChecksRow : OpenClaim := { program := "ytcmepkhjggpmeaagreat", sum := "8722e7b5f3e1ef2dd677aec39d719ea54b30a23d6d51a25fca441fcc52741f8f", func := "gusset/gussetlaw11.MeshChecks", spec := "meshChecks", inPlace := ["math/bits.Add64", "math/bits.Sub64", "internal/abi.NoEscape", "internal/bytealg.MakeNoZero"], unfollowed := true, recurses := true, named := ["math/bits.divideError", "math/bits.overflowError"], plainKeys := false, apart := false }
def MeshChecksSaid : Prop := meshChecksRow.holds Tryz.pinned (OpenSpec.ofChange meshChecksSpec)

/-- ITS FALSE NEIGHBOUR: 'it returns false'. Refute it at one input. -/
def meshChecksWrong : ChangeSpec := { name := "meshChecks", fn := fun _ => fun
  | [d] => { results := [.lit (.bool false)], args := [d] }
  | _ => none }
def MeshChecksWrongFalsely : Prop := meshChecksRow.holds Tryz.pinned (OpenSpec.ofChange meshChecksWrong)

/-- 'gussetlaw11.MeshStays': WHATEVER THE INPUT: true; the input reads as it did. -/
def meshStaysSpec : ChangeSpec := { name := "meshStays", fn := fun _ => fun
  | [d] => { results := [.lit (.bool true)], args := [d] }
  | _ => none }
def meshStaysRow : OpenClaim := { program := "ytcmepkhjggpmeaagreat", sum := "8722e7b5f3e1ef2dd677aec39d719ea54b30a23d6d51a25fca441fcc52741f8f", func := "gusset/gussetlaw11.MeshStays", spec := "meshStays", inPlace := ["math/bits.Add64", "math/bits.Sub64", "internal/abi.NoEscape", "internal/bytealg.MakeNoZero"], unfollowed := true, recurses := true, named := ["math/bits.divideError", "math/bits.overflowError"], plainKeys := false, apart := false }
def MeshStaysSaid : Prop := meshStaysRow.holds Tryz.pinned (OpenSpec.ofChange meshStaysSpec)

/-- ITS FALSE NEIGHBOUR: 'it returns false'. Refute it at one input. -/
def meshStaysWrong : ChangeSpec := { name := "meshStays", fn := fun _ => fun
  | [d] => { results := [.lit (.bool false)], args := [d] }
  | _ => none }
def MeshStaysWrongFalsely : Prop := meshStaysRow.holds Tryz.pinned (OpenSpec.ofChange meshStaysWrong)

/- THE SECOND FORM. 'bulk': how many values and letters a reading holds, each counted each time it is reached (what is shared counts as often as it is met; a slice's spare places count too). A statement '..UptoSaid' is the law's where the arguments, and the package variables that the reading takes, are together of bulk at most 1048576: NARROWER than '..Said'. Prove '..Said' where nothing that the law and all that it calls make is longer than what came in: it says more and counts as full. Else prove '..UptoSaid'. A law counts once. -/
mutual
def uptoBulk {H : Type} : DataW H → Nat
  | .lit (.string bytes) => bytes.length + 1
  | .lit _ => 1
  | .nil => 1
  | .ptr d => uptoBulk d + 1
  | .slice elems spare => uptoBulkAll elems + uptoBulkAll spare + 1
  | .agg parts => uptoBulkAll parts + 1
  | .iface _ d => uptoBulk d + 1
  | .map entries => uptoBulkEntries entries + 1
  | .held _ => 1
def uptoBulkAll {H : Type} : List (DataW H) → Nat
  | [] => 0
  | d :: r => uptoBulk d + uptoBulkAll r
def uptoBulkEntries {H : Type} : List (Lit × DataW H) → Nat
  | [] => 0
  | x :: r => uptoBulkEntry x + uptoBulkEntries r
def uptoBulkEntry {H : Type} : Lit × DataW H → Nat
  | (.string bytes, d) => bytes.length + uptoBulk d + 1
  | (_, d) => uptoBulk d + 1
 end
def uptoSmall : (H : Type) → List (DataW H) → Bool := fun _ ds => decide (uptoBulkAll ds ≤ 1048576)
def OpenSpec.upto (s : _root_.Go.ChangeSpec) : _root_.Go.OpenSpec := { _root_.Go.OpenSpec.ofChange s with cond := some uptoSmall }

/-- 'gussetlaw11.MeshAcross', WHERE WHAT IT READS IS OF BULK AT MOST 1048576: true; the input reads as it did. -/
def meshAcrossUptoRow : OpenClaim := { program := "ytcmepkhjggpmeaagreat", sum := "8722e7b5f3e1ef2dd677aec39d719ea54b30a23d6d51a25fca441fcc52741f8f", func := "gusset/gussetlaw11.MeshAcross", spec := "meshAcross", inPlace := ["math/bits.Add64", "math/bits.Sub64", "internal/abi.NoEscape", "internal/bytealg.MakeNoZero"], unfollowed := true, recurses := true, named := ["math/bits.divideError", "math/bits.overflowError"], plainKeys := false, apart := false, narrowed := true }
def MeshAcrossUptoSaid : Prop := meshAcrossUptoRow.holds Tryz.pinned (OpenSpec.upto meshAcrossSpec)

/-- 'gussetlaw11.MeshChecks', WHERE WHAT IT READS IS OF BULK AT MOST 1048576: true; the input reads as it did. -/
def meshChecksUptoRow : OpenClaim := { program := "ytcmepkhjggpmeaagreat", sum := "8722e7b5f3e1ef2dd677aec39d719ea54b30a23d6d51a25fca441fcc52741f8f", func := "gusset/gussetlaw11.MeshChecks", spec := "meshChecks", inPlace := ["math/bits.Add64", "math/bits.Sub64", "internal/abi.NoEscape", "internal/bytealg.MakeNoZero"], unfollowed := true, recurses := true, named := ["math/bits.divideError", "math/bits.overflowError"], plainKeys := false, apart := false, narrowed := true }
def MeshChecksUptoSaid : Prop := meshChecksUptoRow.holds Tryz.pinned (OpenSpec.upto meshChecksSpec)

/-- 'gussetlaw11.MeshStays', WHERE WHAT IT READS IS OF BULK AT MOST 1048576: true; the input reads as it did. -/
def meshStaysUptoRow : OpenClaim := { program := "ytcmepkhjggpmeaagreat", sum := "8722e7b5f3e1ef2dd677aec39d719ea54b30a23d6d51a25fca441fcc52741f8f", func := "gusset/gussetlaw11.MeshStays", spec := "meshStays", inPlace := ["math/bits.Add64", "math/bits.Sub64", "internal/abi.NoEscape", "internal/bytealg.MakeNoZero"], unfollowed := true, recurses := true, named := ["math/bits.divideError", "math/bits.overflowError"], plainKeys := false, apart := false, narrowed := true }
def MeshStaysUptoSaid : Prop := meshStaysUptoRow.holds Tryz.pinned (OpenSpec.upto meshStaysSpec)

end Rows
end Go.Proofs.YtcmepkhjggpmeaaGreat
