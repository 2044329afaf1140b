/-
  NARROWER THAN 'FOR EVERY INPUT', by the rows' own cells (each row's printed sentence says how): RatMakes: laid · RatDecimals: laid · RatNear: laid · RatProducts: laid · RatField: laid · RatSums: laid · RatOrder: laid · RatChecks: laid · RatReads: laid · RatPrints: laid.
  DERIVED. THE GIVEN ROWS OF THIS SEAT. 10 by the template 'for every input the law returns true; each argument reads behind the call as it read before'; 0 by the template 'total and deterministic' (their statements: YtoijlbcbbblbfaaGreatDoorTotals.lean).
  GIVEN WITH THE SEED: the statements are not yours to turn. If you find one false, say at which input.
  Laid BY PROGRAM, IN A SANDBOX (cutbox-rows.mjs): the forced cells as the released guide's own fill.sh prints them over the translation aeb4bc4b0592dd47… (all of the seat's roots in one cut). By AI agents, Wed Nov 11 2026. No macro, syntax, notation, axiom, sorry.
-/
import Derived.Test.YtoijlbcbbblbfaaGreatDoorChecked
import GoSem.PinnedTables
import GoSem.Claim
import GoSem.ClaimJoined
import GoSem.ClaimMapViews
import Derived.JoinedTies
import Derived.KernelRfl
namespace Go.Proofs.YtoijlbcbbblbfaaGreatDoor
/- THE CELL 'sum', in the pinned program and in every row, IS THE sha256 OF THE DUMP (.gsa) THAT YtoijlbcbbblbfaaGreatDoorProg.lean LOADS. Nothing in Lean hashes anything: it is a label: what it is worth is what the hold of that sum in a sandbox is worth. -/
noncomputable def Tryz.pinned : Pinned := { name := "ytoijlbcbbblbfaagreatdoor", sum := "aeb4bc4b0592dd47a6bec9296f115ef3969fa98b14704c017a78269c61144d13", checked := Tryz.checked }
namespace Rows
def none {H : Type} : Left H := { results := [], args := [] }

/- WHAT THE LISTED PACKAGE-LEVEL VARIABLES READ AS WHEN THE CALL BEGINS. Each datum BY PROGRAM (the guide's laid-datum.mjs) off the statement by which the dump's own 'gosem.cut.vars' lays the variable. In a bare row this is a premise. The card (YtoijlbcbbblbfaaGreatDoorCards.lean) ties it to the program's text. -/
def laid_unicode_utf8_acceptRanges {H : Type} : DataW H := .agg [.agg [.lit (.int .u8 128), .lit (.int .u8 191)], .agg [.lit (.int .u8 160), .lit (.int .u8 191)], .agg [.lit (.int .u8 128), .lit (.int .u8 159)], .agg [.lit (.int .u8 144), .lit (.int .u8 191)], .agg [.lit (.int .u8 128), .lit (.int .u8 143)], .agg [.lit (.int .u8 0), .lit (.int .u8 0)], .agg [.lit (.int .u8 0), .lit (.int .u8 0)], .agg [.lit (.int .u8 0), .lit (.int .u8 0)], .agg [.lit (.int .u8 0), .lit (.int .u8 0)], .agg [.lit (.int .u8 0), .lit (.int .u8 0)], .agg [.lit (.int .u8 0), .lit (.int .u8 0)], .agg [.lit (.int .u8 0), .lit (.int .u8 0)], .agg [.lit (.int .u8 0), .lit (.int .u8 0)], .agg [.lit (.int .u8 0), .lit (.int .u8 0)], .agg [.lit (.int .u8 0), .lit (.int .u8 0)], .agg [.lit (.int .u8 0), .lit (.int .u8 0)]]
/-- One of Go's own tables, pinned by name: the form's constant. -/
def laid_unicode_utf8_first : DataW Unit := Go.Pinned.utf8First

/-- 'gussetlaw03.RatMakes': WHATEVER THE INPUT: true; the input reads as it did. -/
def ratMakesSpec : ChangeSpec := { name := "ratMakes", fn := fun _ => fun
  | [d1, d2, d3] => { results := [.lit (.bool true)], args := [d1, d2, d3] }
  | _ => none }
def ratMakesRow : OpenClaim := { program := "ytoijlbcbbblbfaagreatdoor", sum := "aeb4bc4b0592dd47a6bec9296f115ef3969fa98b14704c017a78269c61144d13", func := "gusset/gussetlaw03.RatMakes", spec := "ratMakes", inPlace := ["math/bits.Add64", "math/bits.Sub64", "internal/abi.NoEscape", "internal/bytealg.MakeNoZero", "internal/bytealg.IndexByteString", "internal/bytealg.IndexString"], unfollowed := true, recurses := true, named := ["math/bits.divideError", "math/bits.overflowError", "unicode/utf8.first", "unicode/utf8.acceptRanges", "internal/bytealg.MaxLen"], apart := false, laid := [("unicode/utf8.acceptRanges", laid_unicode_utf8_acceptRanges), ("unicode/utf8.first", laid_unicode_utf8_first)] }
def RatMakesSaid : Prop := ratMakesRow.holds Tryz.pinned (OpenSpec.ofChange ratMakesSpec)

/-- ITS FALSE NEIGHBOUR: 'it returns false'. Refute it at one input. -/
def ratMakesWrong : ChangeSpec := { name := "ratMakes", fn := fun _ => fun
  | [d1, d2, d3] => { results := [.lit (.bool false)], args := [d1, d2, d3] }
  | _ => none }
def RatMakesWrongFalsely : Prop := ratMakesRow.holds Tryz.pinned (OpenSpec.ofChange ratMakesWrong)

/-- 'gussetlaw03.RatDecimals': WHATEVER THE INPUT: true; the input reads as it did. -/
def ratDecimalsSpec : ChangeSpec := { name := "ratDecimals", fn := fun _ => fun
  | [d1, d2] => { results := [.lit (.bool true)], args := [d1, d2] }
  | _ => none }
def ratDecimalsRow : OpenClaim := { program := "ytoijlbcbbblbfaagreatdoor", sum := "aeb4bc4b0592dd47a6bec9296f115ef3969fa98b14704c017a78269c61144d13", func := "gusset/gussetlaw03.RatDecimals", spec := "ratDecimals", inPlace := ["math/bits.Add64", "math/bits.Sub64", "internal/abi.NoEscape", "internal/bytealg.MakeNoZero", "internal/bytealg.IndexByteString", "internal/bytealg.IndexString"], unfollowed := true, recurses := true, named := ["math/bits.divideError", "math/bits.overflowError", "unicode/utf8.first", "unicode/utf8.acceptRanges", "internal/bytealg.MaxLen"], apart := false, laid := [("unicode/utf8.acceptRanges", laid_unicode_utf8_acceptRanges), ("unicode/utf8.first", laid_unicode_utf8_first)] }
def RatDecimalsSaid : Prop := ratDecimalsRow.holds Tryz.pinned (OpenSpec.ofChange ratDecimalsSpec)

/-- ITS FALSE NEIGHBOUR: 'it returns false'. Refute it at one input. -/
def ratDecimalsWrong : ChangeSpec := { name := "ratDecimals", fn := fun _ => fun
  | [d1, d2] => { results := [.lit (.bool false)], args := [d1, d2] }
  | _ => none }
def RatDecimalsWrongFalsely : Prop := ratDecimalsRow.holds Tryz.pinned (OpenSpec.ofChange ratDecimalsWrong)

/-- 'gussetlaw03.RatNear': WHATEVER THE INPUT: true; the input reads as it did. -/
def ratNearSpec : ChangeSpec := { name := "ratNear", fn := fun _ => fun
  | [d1, d2] => { results := [.lit (.bool true)], args := [d1, d2] }
  | _ => none }
def ratNearRow : OpenClaim := { program := "ytoijlbcbbblbfaagreatdoor", sum := "aeb4bc4b0592dd47a6bec9296f115ef3969fa98b14704c017a78269c61144d13", func := "gusset/gussetlaw03.RatNear", spec := "ratNear", inPlace := ["math/bits.Add64", "math/bits.Sub64", "internal/abi.NoEscape", "internal/bytealg.MakeNoZero", "internal/bytealg.IndexByteString", "internal/bytealg.IndexString"], unfollowed := true, recurses := true, named := ["math/bits.divideError", "math/bits.overflowError", "unicode/utf8.first", "unicode/utf8.acceptRanges", "internal/bytealg.MaxLen"], apart := false, laid := [("unicode/utf8.acceptRanges", laid_unicode_utf8_acceptRanges), ("unicode/utf8.first", laid_unicode_utf8_first)] }
def RatNearSaid : Prop := ratNearRow.holds Tryz.pinned (OpenSpec.ofChange ratNearSpec)

/-- ITS FALSE NEIGHBOUR: 'it returns false'. Refute it at one input. -/
def ratNearWrong : ChangeSpec := { name := "ratNear", fn := fun _ => fun
  | [d1, d2] => { results := [.lit (.bool false)], args := [d1, d2] }
  | _ => none }
def RatNearWrongFalsely : Prop := ratNearRow.holds Tryz.pinned (OpenSpec.ofChange ratNearWrong)

/-- 'gussetlaw03.RatProducts': WHATEVER THE INPUT: true; the input reads as it did. -/
def ratProductsSpec : ChangeSpec := { name := "ratProducts", fn := fun _ => fun
  | [d1, d2] => { results := [.lit (.bool true)], args := [d1, d2] }
  | _ => none }
def ratProductsRow : OpenClaim := { program := "ytoijlbcbbblbfaagreatdoor", sum := "aeb4bc4b0592dd47a6bec9296f115ef3969fa98b14704c017a78269c61144d13", func := "gusset/gussetlaw03.RatProducts", spec := "ratProducts", inPlace := ["math/bits.Add64", "math/bits.Sub64", "internal/abi.NoEscape", "internal/bytealg.MakeNoZero", "internal/bytealg.IndexByteString", "internal/bytealg.IndexString"], unfollowed := true, recurses := true, named := ["math/bits.divideError", "math/bits.overflowError", "unicode/utf8.first", "unicode/utf8.acceptRanges", "internal/bytealg.MaxLen"], apart := false, laid := [("unicode/utf8.acceptRanges", laid_unicode_utf8_acceptRanges), ("unicode/utf8.first", laid_unicode_utf8_first)] }
def RatProductsSaid : Prop := ratProductsRow.holds Tryz.pinned (OpenSpec.ofChange ratProductsSpec)

/-- ITS FALSE NEIGHBOUR: 'it returns false'. Refute it at one input. -/
def ratProductsWrong : ChangeSpec := { name := "ratProducts", fn := fun _ => fun
  | [d1, d2] => { results := [.lit (.bool false)], args := [d1, d2] }
  | _ => none }
def RatProductsWrongFalsely : Prop := ratProductsRow.holds Tryz.pinned (OpenSpec.ofChange ratProductsWrong)

/-- 'gussetlaw03.RatField': WHATEVER THE INPUT: true; the input reads as it did. -/
def ratFieldSpec : ChangeSpec := { name := "ratField", fn := fun _ => fun
  | [d1, d2, d3] => { results := [.lit (.bool true)], args := [d1, d2, d3] }
  | _ => none }
def ratFieldRow : OpenClaim := { program := "ytoijlbcbbblbfaagreatdoor", sum := "aeb4bc4b0592dd47a6bec9296f115ef3969fa98b14704c017a78269c61144d13", func := "gusset/gussetlaw03.RatField", spec := "ratField", inPlace := ["math/bits.Add64", "math/bits.Sub64", "internal/abi.NoEscape", "internal/bytealg.MakeNoZero", "internal/bytealg.IndexByteString", "internal/bytealg.IndexString"], unfollowed := true, recurses := true, named := ["math/bits.divideError", "math/bits.overflowError", "unicode/utf8.first", "unicode/utf8.acceptRanges", "internal/bytealg.MaxLen"], apart := false, laid := [("unicode/utf8.acceptRanges", laid_unicode_utf8_acceptRanges), ("unicode/utf8.first", laid_unicode_utf8_first)] }
def RatFieldSaid : Prop := ratFieldRow.holds Tryz.pinned (OpenSpec.ofChange ratFieldSpec)

/-- ITS FALSE NEIGHBOUR: 'it returns false'. Refute it at one input. -/
def ratFieldWrong : ChangeSpec := { name := "ratField", fn := fun _ => fun
  | [d1, d2, d3] => { results := [.lit (.bool false)], args := [d1, d2, d3] }
  | _ => none }
def RatFieldWrongFalsely : Prop := ratFieldRow.holds Tryz.pinned (OpenSpec.ofChange ratFieldWrong)

/-- 'gussetlaw03.RatSums': WHATEVER THE INPUT: true; the input reads as it did. -/
def ratSumsSpec : ChangeSpec := { name := "ratSums", fn := fun _ => fun
  | [d1, d2] => { results := [.lit (.bool true)], args := [d1, d2] }
  | _ => none }
def ratSumsRow : OpenClaim := { program := "ytoijlbcbbblbfaagreatdoor", sum := "aeb4bc4b0592dd47a6bec9296f115ef3969fa98b14704c017a78269c61144d13", func := "gusset/gussetlaw03.RatSums", spec := "ratSums", inPlace := ["math/bits.Add64", "math/bits.Sub64", "internal/abi.NoEscape", "internal/bytealg.MakeNoZero", "internal/bytealg.IndexByteString", "internal/bytealg.IndexString"], unfollowed := true, recurses := true, named := ["math/bits.divideError", "math/bits.overflowError", "unicode/utf8.first", "unicode/utf8.acceptRanges", "internal/bytealg.MaxLen"], apart := false, laid := [("unicode/utf8.acceptRanges", laid_unicode_utf8_acceptRanges), ("unicode/utf8.first", laid_unicode_utf8_first)] }
def RatSumsSaid : Prop := ratSumsRow.holds Tryz.pinned (OpenSpec.ofChange ratSumsSpec)

/-- ITS FALSE NEIGHBOUR: 'it returns false'. Refute it at one input. -/
def ratSumsWrong : ChangeSpec := { name := "ratSums", fn := fun _ => fun
  | [d1, d2] => { results := [.lit (.bool false)], args := [d1, d2] }
  | _ => none }
def RatSumsWrongFalsely : Prop := ratSumsRow.holds Tryz.pinned (OpenSpec.ofChange ratSumsWrong)

/-- 'gussetlaw03.RatOrder': WHATEVER THE INPUT: true; the input reads as it did. -/
def ratOrderSpec : ChangeSpec := { name := "ratOrder", fn := fun _ => fun
  | [d1, d2, d3] => { results := [.lit (.bool true)], args := [d1, d2, d3] }
  | _ => none }
def ratOrderRow : OpenClaim := { program := "ytoijlbcbbblbfaagreatdoor", sum := "aeb4bc4b0592dd47a6bec9296f115ef3969fa98b14704c017a78269c61144d13", func := "gusset/gussetlaw03.RatOrder", spec := "ratOrder", inPlace := ["math/bits.Add64", "math/bits.Sub64", "internal/abi.NoEscape", "internal/bytealg.MakeNoZero", "internal/bytealg.IndexByteString", "internal/bytealg.IndexString"], unfollowed := true, recurses := true, named := ["math/bits.divideError", "math/bits.overflowError", "unicode/utf8.first", "unicode/utf8.acceptRanges", "internal/bytealg.MaxLen"], apart := false, laid := [("unicode/utf8.acceptRanges", laid_unicode_utf8_acceptRanges), ("unicode/utf8.first", laid_unicode_utf8_first)] }
def RatOrderSaid : Prop := ratOrderRow.holds Tryz.pinned (OpenSpec.ofChange ratOrderSpec)

/-- ITS FALSE NEIGHBOUR: 'it returns false'. Refute it at one input. -/
def ratOrderWrong : ChangeSpec := { name := "ratOrder", fn := fun _ => fun
  | [d1, d2, d3] => { results := [.lit (.bool false)], args := [d1, d2, d3] }
  | _ => none }
def RatOrderWrongFalsely : Prop := ratOrderRow.holds Tryz.pinned (OpenSpec.ofChange ratOrderWrong)

/-- 'gussetlaw03.RatChecks': WHATEVER THE INPUT: true; the input reads as it did. -/
def ratChecksSpec : ChangeSpec := { name := "ratChecks", fn := fun _ => fun
  | [d1, d2] => { results := [.lit (.bool true)], args := [d1, d2] }
  | _ => none }
def ratChecksRow : OpenClaim := { program := "ytoijlbcbbblbfaagreatdoor", sum := "aeb4bc4b0592dd47a6bec9296f115ef3969fa98b14704c017a78269c61144d13", func := "gusset/gussetlaw03.RatChecks", spec := "ratChecks", inPlace := ["math/bits.Add64", "math/bits.Sub64", "internal/abi.NoEscape", "internal/bytealg.MakeNoZero", "internal/bytealg.IndexByteString", "internal/bytealg.IndexString"], unfollowed := true, recurses := true, named := ["math/bits.divideError", "math/bits.overflowError", "unicode/utf8.first", "unicode/utf8.acceptRanges", "internal/bytealg.MaxLen"], apart := false, laid := [("unicode/utf8.acceptRanges", laid_unicode_utf8_acceptRanges), ("unicode/utf8.first", laid_unicode_utf8_first)] }
def RatChecksSaid : Prop := ratChecksRow.holds Tryz.pinned (OpenSpec.ofChange ratChecksSpec)

/-- ITS FALSE NEIGHBOUR: 'it returns false'. Refute it at one input. -/
def ratChecksWrong : ChangeSpec := { name := "ratChecks", fn := fun _ => fun
  | [d1, d2] => { results := [.lit (.bool false)], args := [d1, d2] }
  | _ => none }
def RatChecksWrongFalsely : Prop := ratChecksRow.holds Tryz.pinned (OpenSpec.ofChange ratChecksWrong)

/-- 'gussetlaw03.RatReads': WHATEVER THE INPUT: true; the input reads as it did. -/
def ratReadsSpec : ChangeSpec := { name := "ratReads", fn := fun _ => fun
  | [d] => { results := [.lit (.bool true)], args := [d] }
  | _ => none }
def ratReadsRow : OpenClaim := { program := "ytoijlbcbbblbfaagreatdoor", sum := "aeb4bc4b0592dd47a6bec9296f115ef3969fa98b14704c017a78269c61144d13", func := "gusset/gussetlaw03.RatReads", spec := "ratReads", inPlace := ["internal/bytealg.IndexByteString", "internal/bytealg.IndexString", "math/bits.Add64", "internal/abi.NoEscape", "internal/bytealg.MakeNoZero", "math/bits.Sub64"], unfollowed := true, recurses := true, named := ["internal/bytealg.MaxLen", "unicode/utf8.first", "unicode/utf8.acceptRanges", "math/bits.divideError", "math/bits.overflowError"], apart := false, laid := [("unicode/utf8.acceptRanges", laid_unicode_utf8_acceptRanges), ("unicode/utf8.first", laid_unicode_utf8_first)] }
def RatReadsSaid : Prop := ratReadsRow.holds Tryz.pinned (OpenSpec.ofChange ratReadsSpec)

/-- ITS FALSE NEIGHBOUR: 'it returns false'. Refute it at one input. -/
def ratReadsWrong : ChangeSpec := { name := "ratReads", fn := fun _ => fun
  | [d] => { results := [.lit (.bool false)], args := [d] }
  | _ => none }
def RatReadsWrongFalsely : Prop := ratReadsRow.holds Tryz.pinned (OpenSpec.ofChange ratReadsWrong)

/-- 'gussetlaw03.RatPrints': WHATEVER THE INPUT: true; the input reads as it did. -/
def ratPrintsSpec : ChangeSpec := { name := "ratPrints", fn := fun _ => fun
  | [d] => { results := [.lit (.bool true)], args := [d] }
  | _ => none }
def ratPrintsRow : OpenClaim := { program := "ytoijlbcbbblbfaagreatdoor", sum := "aeb4bc4b0592dd47a6bec9296f115ef3969fa98b14704c017a78269c61144d13", func := "gusset/gussetlaw03.RatPrints", spec := "ratPrints", inPlace := ["math/bits.Add64", "math/bits.Sub64", "internal/abi.NoEscape", "internal/bytealg.MakeNoZero", "internal/bytealg.IndexByteString", "internal/bytealg.IndexString"], unfollowed := true, recurses := true, named := ["math/bits.divideError", "math/bits.overflowError", "unicode/utf8.first", "unicode/utf8.acceptRanges", "internal/bytealg.MaxLen"], apart := false, laid := [("unicode/utf8.acceptRanges", laid_unicode_utf8_acceptRanges), ("unicode/utf8.first", laid_unicode_utf8_first)] }
def RatPrintsSaid : Prop := ratPrintsRow.holds Tryz.pinned (OpenSpec.ofChange ratPrintsSpec)

/-- ITS FALSE NEIGHBOUR: 'it returns false'. Refute it at one input. -/
def ratPrintsWrong : ChangeSpec := { name := "ratPrints", fn := fun _ => fun
  | [d] => { results := [.lit (.bool false)], args := [d] }
  | _ => none }
def RatPrintsWrongFalsely : Prop := ratPrintsRow.holds Tryz.pinned (OpenSpec.ofChange ratPrintsWrong)

/- THE SECOND FORM. 'bulk': how many values and letters a reading holds, each counted each time it is reached (what is shared counts as often as it is met; a slice's spare places count too). A statement '..UptoSaid' is the law's where the arguments, and the package variables that the reading takes, are together of bulk at most 1048576: NARROWER than '..Said'. Prove '..Said' where nothing that the law and all that it calls make is longer than what came in: it says more and counts as full. Else prove '..UptoSaid'. A law counts once. -/
mutual
def uptoBulk {H : Type} : DataW H → Nat
  | .lit (.string bytes) => bytes.length + 1
  | .lit _ => 1
  | .nil => 1
  | .ptr d => uptoBulk d + 1
  | .slice elems spare => uptoBulkAll elems + uptoBulkAll spare + 1
  | .agg parts => uptoBulkAll parts + 1
  | .iface _ d => uptoBulk d + 1
  | .map entries => uptoBulkEntries entries + 1
  | .held _ => 1
def uptoBulkAll {H : Type} : List (DataW H) → Nat
  | [] => 0
  | d :: r => uptoBulk d + uptoBulkAll r
def uptoBulkEntries {H : Type} : List (Lit × DataW H) → Nat
  | [] => 0
  | x :: r => uptoBulkEntry x + uptoBulkEntries r
def uptoBulkEntry {H : Type} : Lit × DataW H → Nat
  | (.string bytes, d) => bytes.length + uptoBulk d + 1
  | (_, d) => uptoBulk d + 1
 end
def uptoSmall : (H : Type) → List (DataW H) → Bool := fun _ ds => decide (uptoBulkAll ds ≤ 1048576)
def OpenSpec.upto (s : _root_.Go.ChangeSpec) : _root_.Go.OpenSpec := { _root_.Go.OpenSpec.ofChange s with cond := some uptoSmall }

/-- 'gussetlaw03.RatMakes', WHERE WHAT IT READS IS OF BULK AT MOST 1048576: true; the input reads as it did. -/
def ratMakesUptoRow : OpenClaim := { program := "ytoijlbcbbblbfaagreatdoor", sum := "aeb4bc4b0592dd47a6bec9296f115ef3969fa98b14704c017a78269c61144d13", func := "gusset/gussetlaw03.RatMakes", spec := "ratMakes", inPlace := ["math/bits.Add64", "math/bits.Sub64", "internal/abi.NoEscape", "internal/bytealg.MakeNoZero", "internal/bytealg.IndexByteString", "internal/bytealg.IndexString"], unfollowed := true, recurses := true, named := ["math/bits.divideError", "math/bits.overflowError", "unicode/utf8.first", "unicode/utf8.acceptRanges", "internal/bytealg.MaxLen"], apart := false, laid := [("unicode/utf8.acceptRanges", laid_unicode_utf8_acceptRanges), ("unicode/utf8.first", laid_unicode_utf8_first)], narrowed := true }
def RatMakesUptoSaid : Prop := ratMakesUptoRow.holds Tryz.pinned (OpenSpec.upto ratMakesSpec)

/-- 'gussetlaw03.RatDecimals', WHERE WHAT IT READS IS OF BULK AT MOST 1048576: true; the input reads as it did. -/
def ratDecimalsUptoRow : OpenClaim := { program := "ytoijlbcbbblbfaagreatdoor", sum := "aeb4bc4b0592dd47a6bec9296f115ef3969fa98b14704c017a78269c61144d13", func := "gusset/gussetlaw03.RatDecimals", spec := "ratDecimals", inPlace := ["math/bits.Add64", "math/bits.Sub64", "internal/abi.NoEscape", "internal/bytealg.MakeNoZero", "internal/bytealg.IndexByteString", "internal/bytealg.IndexString"], unfollowed := true, recurses := true, named := ["math/bits.divideError", "math/bits.overflowError", "unicode/utf8.first", "unicode/utf8.acceptRanges", "internal/bytealg.MaxLen"], apart := false, laid := [("unicode/utf8.acceptRanges", laid_unicode_utf8_acceptRanges), ("unicode/utf8.first", laid_unicode_utf8_first)], narrowed := true }
def RatDecimalsUptoSaid : Prop := ratDecimalsUptoRow.holds Tryz.pinned (OpenSpec.upto ratDecimalsSpec)

/-- 'gussetlaw03.RatNear', WHERE WHAT IT READS IS OF BULK AT MOST 1048576: true; the input reads as it did. -/
def ratNearUptoRow : OpenClaim := { program := "ytoijlbcbbblbfaagreatdoor", sum := "aeb4bc4b0592dd47a6bec9296f115ef3969fa98b14704c017a78269c61144d13", func := "gusset/gussetlaw03.RatNear", spec := "ratNear", inPlace := ["math/bits.Add64", "math/bits.Sub64", "internal/abi.NoEscape", "internal/bytealg.MakeNoZero", "internal/bytealg.IndexByteString", "internal/bytealg.IndexString"], unfollowed := true, recurses := true, named := ["math/bits.divideError", "math/bits.overflowError", "unicode/utf8.first", "unicode/utf8.acceptRanges", "internal/bytealg.MaxLen"], apart := false, laid := [("unicode/utf8.acceptRanges", laid_unicode_utf8_acceptRanges), ("unicode/utf8.first", laid_unicode_utf8_first)], narrowed := true }
def RatNearUptoSaid : Prop := ratNearUptoRow.holds Tryz.pinned (OpenSpec.upto ratNearSpec)

/-- 'gussetlaw03.RatProducts', WHERE WHAT IT READS IS OF BULK AT MOST 1048576: true; the input reads as it did. -/
def ratProductsUptoRow : OpenClaim := { program := "ytoijlbcbbblbfaagreatdoor", sum := "aeb4bc4b0592dd47a6bec9296f115ef3969fa98b14704c017a78269c61144d13", func := "gusset/gussetlaw03.RatProducts", spec := "ratProducts", inPlace := ["math/bits.Add64", "math/bits.Sub64", "internal/abi.NoEscape", "internal/bytealg.MakeNoZero", "internal/bytealg.IndexByteString", "internal/bytealg.IndexString"], unfollowed := true, recurses := true, named := ["math/bits.divideError", "math/bits.overflowError", "unicode/utf8.first", "unicode/utf8.acceptRanges", "internal/bytealg.MaxLen"], apart := false, laid := [("unicode/utf8.acceptRanges", laid_unicode_utf8_acceptRanges), ("unicode/utf8.first", laid_unicode_utf8_first)], narrowed := true }
def RatProductsUptoSaid : Prop := ratProductsUptoRow.holds Tryz.pinned (OpenSpec.upto ratProductsSpec)

/-- 'gussetlaw03.RatField', WHERE WHAT IT READS IS OF BULK AT MOST 1048576: true; the input reads as it did. -/
def ratFieldUptoRow : OpenClaim := { program := "ytoijlbcbbblbfaagreatdoor", sum := "aeb4bc4b0592dd47a6bec9296f115ef3969fa98b14704c017a78269c61144d13", func := "gusset/gussetlaw03.RatField", spec := "ratField", inPlace := ["math/bits.Add64", "math/bits.Sub64", "internal/abi.NoEscape", "internal/bytealg.MakeNoZero", "internal/bytealg.IndexByteString", "internal/bytealg.IndexString"], unfollowed := true, recurses := true, named := ["math/bits.divideError", "math/bits.overflowError", "unicode/utf8.first", "unicode/utf8.acceptRanges", "internal/bytealg.MaxLen"], apart := false, laid := [("unicode/utf8.acceptRanges", laid_unicode_utf8_acceptRanges), ("unicode/utf8.first", laid_unicode_utf8_first)], narrowed := true }
def RatFieldUptoSaid : Prop := ratFieldUptoRow.holds Tryz.pinned (OpenSpec.upto ratFieldSpec)

/-- 'gussetlaw03.RatSums', WHERE WHAT IT READS IS OF BULK AT MOST 1048576: true; the input reads as it did. -/
def ratSumsUptoRow : OpenClaim := { program := "ytoijlbcbbblbfaagreatdoor", sum := "aeb4bc4b0592dd47a6bec9296f115ef3969fa98b14704c017a78269c61144d13", func := "gusset/gussetlaw03.RatSums", spec := "ratSums", inPlace := ["math/bits.Add64", "math/bits.Sub64", "internal/abi.NoEscape", "internal/bytealg.MakeNoZero", "internal/bytealg.IndexByteString", "internal/bytealg.IndexString"], unfollowed := true, recurses := true, named := ["math/bits.divideError", "math/bits.overflowError", "unicode/utf8.first", "unicode/utf8.acceptRanges", "internal/bytealg.MaxLen"], apart := false, laid := [("unicode/utf8.acceptRanges", laid_unicode_utf8_acceptRanges), ("unicode/utf8.first", laid_unicode_utf8_first)], narrowed := true }
def RatSumsUptoSaid : Prop := ratSumsUptoRow.holds Tryz.pinned (OpenSpec.upto ratSumsSpec)

/-- 'gussetlaw03.RatOrder', WHERE WHAT IT READS IS OF BULK AT MOST 1048576: true; the input reads as it did. -/
def ratOrderUptoRow : OpenClaim := { program := "ytoijlbcbbblbfaagreatdoor", sum := "aeb4bc4b0592dd47a6bec9296f115ef3969fa98b14704c017a78269c61144d13", func := "gusset/gussetlaw03.RatOrder", spec := "ratOrder", inPlace := ["math/bits.Add64", "math/bits.Sub64", "internal/abi.NoEscape", "internal/bytealg.MakeNoZero", "internal/bytealg.IndexByteString", "internal/bytealg.IndexString"], unfollowed := true, recurses := true, named := ["math/bits.divideError", "math/bits.overflowError", "unicode/utf8.first", "unicode/utf8.acceptRanges", "internal/bytealg.MaxLen"], apart := false, laid := [("unicode/utf8.acceptRanges", laid_unicode_utf8_acceptRanges), ("unicode/utf8.first", laid_unicode_utf8_first)], narrowed := true }
def RatOrderUptoSaid : Prop := ratOrderUptoRow.holds Tryz.pinned (OpenSpec.upto ratOrderSpec)

/-- 'gussetlaw03.RatChecks', WHERE WHAT IT READS IS OF BULK AT MOST 1048576: true; the input reads as it did. -/
def ratChecksUptoRow : OpenClaim := { program := "ytoijlbcbbblbfaagreatdoor", sum := "aeb4bc4b0592dd47a6bec9296f115ef3969fa98b14704c017a78269c61144d13", func := "gusset/gussetlaw03.RatChecks", spec := "ratChecks", inPlace := ["math/bits.Add64", "math/bits.Sub64", "internal/abi.NoEscape", "internal/bytealg.MakeNoZero", "internal/bytealg.IndexByteString", "internal/bytealg.IndexString"], unfollowed := true, recurses := true, named := ["math/bits.divideError", "math/bits.overflowError", "unicode/utf8.first", "unicode/utf8.acceptRanges", "internal/bytealg.MaxLen"], apart := false, laid := [("unicode/utf8.acceptRanges", laid_unicode_utf8_acceptRanges), ("unicode/utf8.first", laid_unicode_utf8_first)], narrowed := true }
def RatChecksUptoSaid : Prop := ratChecksUptoRow.holds Tryz.pinned (OpenSpec.upto ratChecksSpec)

/-- 'gussetlaw03.RatReads', WHERE WHAT IT READS IS OF BULK AT MOST 1048576: true; the input reads as it did. -/
def ratReadsUptoRow : OpenClaim := { program := "ytoijlbcbbblbfaagreatdoor", sum := "aeb4bc4b0592dd47a6bec9296f115ef3969fa98b14704c017a78269c61144d13", func := "gusset/gussetlaw03.RatReads", spec := "ratReads", inPlace := ["internal/bytealg.IndexByteString", "internal/bytealg.IndexString", "math/bits.Add64", "internal/abi.NoEscape", "internal/bytealg.MakeNoZero", "math/bits.Sub64"], unfollowed := true, recurses := true, named := ["internal/bytealg.MaxLen", "unicode/utf8.first", "unicode/utf8.acceptRanges", "math/bits.divideError", "math/bits.overflowError"], apart := false, laid := [("unicode/utf8.acceptRanges", laid_unicode_utf8_acceptRanges), ("unicode/utf8.first", laid_unicode_utf8_first)], narrowed := true }
def RatReadsUptoSaid : Prop := ratReadsUptoRow.holds Tryz.pinned (OpenSpec.upto ratReadsSpec)

/-- 'gussetlaw03.RatPrints', WHERE WHAT IT READS IS OF BULK AT MOST 1048576: true; the input reads as it did. -/
def ratPrintsUptoRow : OpenClaim := { program := "ytoijlbcbbblbfaagreatdoor", sum := "aeb4bc4b0592dd47a6bec9296f115ef3969fa98b14704c017a78269c61144d13", func := "gusset/gussetlaw03.RatPrints", spec := "ratPrints", inPlace := ["math/bits.Add64", "math/bits.Sub64", "internal/abi.NoEscape", "internal/bytealg.MakeNoZero", "internal/bytealg.IndexByteString", "internal/bytealg.IndexString"], unfollowed := true, recurses := true, named := ["math/bits.divideError", "math/bits.overflowError", "unicode/utf8.first", "unicode/utf8.acceptRanges", "internal/bytealg.MaxLen"], apart := false, laid := [("unicode/utf8.acceptRanges", laid_unicode_utf8_acceptRanges), ("unicode/utf8.first", laid_unicode_utf8_first)], narrowed := true }
def RatPrintsUptoSaid : Prop := ratPrintsUptoRow.holds Tryz.pinned (OpenSpec.upto ratPrintsSpec)

end Rows
end Go.Proofs.YtoijlbcbbblbfaaGreatDoor
