/-
  NARROWER THAN 'FOR EVERY INPUT', by the rows' own cells (each row's printed sentence says how): WholeQuotients: laid · WholeCommon: laid · WholeReads: laid · WholePrints: laid · WholeRing: laid · WholeOrders: laid · WholeChecks: laid.
  DERIVED. THE GIVEN ROWS OF THIS SEAT. 7 by the template 'for every input the law returns true; each argument reads behind the call as it read before'; 0 by the template 'total and deterministic' (their statements: YtimpimnaknkgpaaDoorTotals.lean).
  GIVEN WITH THE SEED: the statements are not yours to turn. If you find one false, say at which input.
  Laid BY PROGRAM, IN A SANDBOX (cutbox-rows.mjs): the forced cells as the released guide's own fill.sh prints them over the translation 3807691b69b39654… (all of the seat's roots in one cut). By AI agents, Wed Nov 11 2026. No macro, syntax, notation, axiom, sorry.
-/
import Derived.Test.YtimpimnaknkgpaaDoorChecked
import GoSem.PinnedTables
import GoSem.Claim
import GoSem.ClaimJoined
import GoSem.ClaimMapViews
import Derived.JoinedTies
import Derived.KernelRfl
namespace Go.Proofs.YtimpimnaknkgpaaDoor
/- THE CELL 'sum', in the pinned program and in every row, IS THE sha256 OF THE DUMP (.gsa) THAT YtimpimnaknkgpaaDoorProg.lean LOADS. Nothing in Lean hashes anything: it is a label: what it is worth is what the hold of that sum in a sandbox is worth. -/
noncomputable def Tryd.pinned : Pinned := { name := "ytimpimnaknkgpaadoor", sum := "3807691b69b396546f074206a42d256f948d86b168f823467505a12ee01d3b65", checked := Tryd.checked }
namespace Rows
def none {H : Type} : Left H := { results := [], args := [] }

/- WHAT THE LISTED PACKAGE-LEVEL VARIABLES READ AS WHEN THE CALL BEGINS. Each datum BY PROGRAM (the guide's laid-datum.mjs) off the statement by which the dump's own 'gosem.cut.vars' lays the variable. In a bare row this is a premise. The card (YtimpimnaknkgpaaDoorCards.lean) ties it to the program's text. -/
def laid_unicode_utf8_acceptRanges {H : Type} : DataW H := .agg [.agg [.lit (.int .u8 128), .lit (.int .u8 191)], .agg [.lit (.int .u8 160), .lit (.int .u8 191)], .agg [.lit (.int .u8 128), .lit (.int .u8 159)], .agg [.lit (.int .u8 144), .lit (.int .u8 191)], .agg [.lit (.int .u8 128), .lit (.int .u8 143)], .agg [.lit (.int .u8 0), .lit (.int .u8 0)], .agg [.lit (.int .u8 0), .lit (.int .u8 0)], .agg [.lit (.int .u8 0), .lit (.int .u8 0)], .agg [.lit (.int .u8 0), .lit (.int .u8 0)], .agg [.lit (.int .u8 0), .lit (.int .u8 0)], .agg [.lit (.int .u8 0), .lit (.int .u8 0)], .agg [.lit (.int .u8 0), .lit (.int .u8 0)], .agg [.lit (.int .u8 0), .lit (.int .u8 0)], .agg [.lit (.int .u8 0), .lit (.int .u8 0)], .agg [.lit (.int .u8 0), .lit (.int .u8 0)], .agg [.lit (.int .u8 0), .lit (.int .u8 0)]]
/-- One of Go's own tables, pinned by name: the form's constant. -/
def laid_unicode_utf8_first : DataW Unit := Go.Pinned.utf8First

/-- 'gussetlaw02.WholeQuotients': WHATEVER THE INPUT: true; the input reads as it did. -/
def wholeQuotientsSpec : ChangeSpec := { name := "wholeQuotients", fn := fun _ => fun
  | [d1, d2] => { results := [.lit (.bool true)], args := [d1, d2] }
  | _ => none }
def wholeQuotientsRow : OpenClaim := { program := "ytimpimnaknkgpaadoor", sum := "3807691b69b396546f074206a42d256f948d86b168f823467505a12ee01d3b65", func := "gusset/gussetlaw02.WholeQuotients", spec := "wholeQuotients", inPlace := ["internal/abi.NoEscape", "internal/bytealg.MakeNoZero", "math/bits.Add64", "math/bits.Sub64", "internal/bytealg.IndexByteString", "internal/bytealg.IndexString"], unfollowed := true, recurses := true, named := ["math/bits.divideError", "math/bits.overflowError", "unicode/utf8.first", "unicode/utf8.acceptRanges", "internal/bytealg.MaxLen"], apart := false, laid := [("unicode/utf8.acceptRanges", laid_unicode_utf8_acceptRanges), ("unicode/utf8.first", laid_unicode_utf8_first)] }
def WholeQuotientsSaid : Prop := wholeQuotientsRow.holds Tryd.pinned (OpenSpec.ofChange wholeQuotientsSpec)

/-- ITS FALSE NEIGHBOUR: 'it returns false'. Refute it at one input. -/
def wholeQuotientsWrong : ChangeSpec := { name := "wholeQuotients", fn := fun _ => fun
  | [d1, d2] => { results := [.lit (.bool false)], args := [d1, d2] }
  | _ => none }
def WholeQuotientsWrongFalsely : Prop := wholeQuotientsRow.holds Tryd.pinned (OpenSpec.ofChange wholeQuotientsWrong)

/-- 'gussetlaw02.WholeCommon': WHATEVER THE INPUT: true; the input reads as it did. -/
def wholeCommonSpec : ChangeSpec := { name := "wholeCommon", fn := fun _ => fun
  | [d1, d2] => { results := [.lit (.bool true)], args := [d1, d2] }
  | _ => none }
def wholeCommonRow : OpenClaim := { program := "ytimpimnaknkgpaadoor", sum := "3807691b69b396546f074206a42d256f948d86b168f823467505a12ee01d3b65", func := "gusset/gussetlaw02.WholeCommon", spec := "wholeCommon", inPlace := ["internal/abi.NoEscape", "internal/bytealg.MakeNoZero", "math/bits.Add64", "math/bits.Sub64", "internal/bytealg.IndexByteString", "internal/bytealg.IndexString"], unfollowed := true, recurses := true, named := ["math/bits.divideError", "math/bits.overflowError", "unicode/utf8.first", "unicode/utf8.acceptRanges", "internal/bytealg.MaxLen"], apart := false, laid := [("unicode/utf8.acceptRanges", laid_unicode_utf8_acceptRanges), ("unicode/utf8.first", laid_unicode_utf8_first)] }
def WholeCommonSaid : Prop := wholeCommonRow.holds Tryd.pinned (OpenSpec.ofChange wholeCommonSpec)

/-- ITS FALSE NEIGHBOUR: 'it returns false'. Refute it at one input. -/
def wholeCommonWrong : ChangeSpec := { name := "wholeCommon", fn := fun _ => fun
  | [d1, d2] => { results := [.lit (.bool false)], args := [d1, d2] }
  | _ => none }
def WholeCommonWrongFalsely : Prop := wholeCommonRow.holds Tryd.pinned (OpenSpec.ofChange wholeCommonWrong)

/-- 'gussetlaw02.WholeReads': WHATEVER THE INPUT: true; the input reads as it did. -/
def wholeReadsSpec : ChangeSpec := { name := "wholeReads", fn := fun _ => fun
  | [d1, d2] => { results := [.lit (.bool true)], args := [d1, d2] }
  | _ => none }
def wholeReadsRow : OpenClaim := { program := "ytimpimnaknkgpaadoor", sum := "3807691b69b396546f074206a42d256f948d86b168f823467505a12ee01d3b65", func := "gusset/gussetlaw02.WholeReads", spec := "wholeReads", inPlace := ["internal/bytealg.IndexByteString", "internal/bytealg.IndexString", "math/bits.Add64", "internal/abi.NoEscape", "internal/bytealg.MakeNoZero", "math/bits.Sub64"], unfollowed := true, recurses := true, named := ["unicode/utf8.first", "unicode/utf8.acceptRanges", "math/bits.divideError", "math/bits.overflowError", "internal/bytealg.MaxLen"], apart := false, laid := [("unicode/utf8.acceptRanges", laid_unicode_utf8_acceptRanges), ("unicode/utf8.first", laid_unicode_utf8_first)] }
def WholeReadsSaid : Prop := wholeReadsRow.holds Tryd.pinned (OpenSpec.ofChange wholeReadsSpec)

/-- ITS FALSE NEIGHBOUR: 'it returns false'. Refute it at one input. -/
def wholeReadsWrong : ChangeSpec := { name := "wholeReads", fn := fun _ => fun
  | [d1, d2] => { results := [.lit (.bool false)], args := [d1, d2] }
  | _ => none }
def WholeReadsWrongFalsely : Prop := wholeReadsRow.holds Tryd.pinned (OpenSpec.ofChange wholeReadsWrong)

/-- 'gussetlaw02.WholePrints': WHATEVER THE INPUT: true; the input reads as it did. -/
def wholePrintsSpec : ChangeSpec := { name := "wholePrints", fn := fun _ => fun
  | [d] => { results := [.lit (.bool true)], args := [d] }
  | _ => none }
def wholePrintsRow : OpenClaim := { program := "ytimpimnaknkgpaadoor", sum := "3807691b69b396546f074206a42d256f948d86b168f823467505a12ee01d3b65", func := "gusset/gussetlaw02.WholePrints", spec := "wholePrints", inPlace := ["internal/abi.NoEscape", "internal/bytealg.MakeNoZero", "math/bits.Add64", "math/bits.Sub64", "internal/bytealg.IndexByteString", "internal/bytealg.IndexString"], unfollowed := true, recurses := true, named := ["math/bits.divideError", "math/bits.overflowError", "unicode/utf8.first", "unicode/utf8.acceptRanges", "internal/bytealg.MaxLen"], apart := false, laid := [("unicode/utf8.acceptRanges", laid_unicode_utf8_acceptRanges), ("unicode/utf8.first", laid_unicode_utf8_first)] }
def WholePrintsSaid : Prop := wholePrintsRow.holds Tryd.pinned (OpenSpec.ofChange wholePrintsSpec)

/-- ITS FALSE NEIGHBOUR: 'it returns false'. Refute it at one input. -/
def wholePrintsWrong : ChangeSpec := { name := "wholePrints", fn := fun _ => fun
  | [d] => { results := [.lit (.bool false)], args := [d] }
  | _ => none }
def WholePrintsWrongFalsely : Prop := wholePrintsRow.holds Tryd.pinned (OpenSpec.ofChange wholePrintsWrong)

/-- 'gussetlaw02.WholeRing': WHATEVER THE INPUT: true; the input reads as it did. -/
def wholeRingSpec : ChangeSpec := { name := "wholeRing", fn := fun _ => fun
  | [d1, d2, d3] => { results := [.lit (.bool true)], args := [d1, d2, d3] }
  | _ => none }
def wholeRingRow : OpenClaim := { program := "ytimpimnaknkgpaadoor", sum := "3807691b69b396546f074206a42d256f948d86b168f823467505a12ee01d3b65", func := "gusset/gussetlaw02.WholeRing", spec := "wholeRing", inPlace := ["internal/abi.NoEscape", "internal/bytealg.MakeNoZero", "math/bits.Add64", "math/bits.Sub64", "internal/bytealg.IndexByteString", "internal/bytealg.IndexString"], unfollowed := true, recurses := true, named := ["math/bits.divideError", "math/bits.overflowError", "unicode/utf8.first", "unicode/utf8.acceptRanges", "internal/bytealg.MaxLen"], apart := false, laid := [("unicode/utf8.acceptRanges", laid_unicode_utf8_acceptRanges), ("unicode/utf8.first", laid_unicode_utf8_first)] }
def WholeRingSaid : Prop := wholeRingRow.holds Tryd.pinned (OpenSpec.ofChange wholeRingSpec)

/-- ITS FALSE NEIGHBOUR: 'it returns false'. Refute it at one input. -/
def wholeRingWrong : ChangeSpec := { name := "wholeRing", fn := fun _ => fun
  | [d1, d2, d3] => { results := [.lit (.bool false)], args := [d1, d2, d3] }
  | _ => none }
def WholeRingWrongFalsely : Prop := wholeRingRow.holds Tryd.pinned (OpenSpec.ofChange wholeRingWrong)

/-- 'gussetlaw02.WholeOrders': WHATEVER THE INPUT: true; the input reads as it did. -/
def wholeOrdersSpec : ChangeSpec := { name := "wholeOrders", fn := fun _ => fun
  | [d1, d2, d3] => { results := [.lit (.bool true)], args := [d1, d2, d3] }
  | _ => none }
def wholeOrdersRow : OpenClaim := { program := "ytimpimnaknkgpaadoor", sum := "3807691b69b396546f074206a42d256f948d86b168f823467505a12ee01d3b65", func := "gusset/gussetlaw02.WholeOrders", spec := "wholeOrders", inPlace := ["internal/abi.NoEscape", "internal/bytealg.MakeNoZero", "math/bits.Add64", "math/bits.Sub64", "internal/bytealg.IndexByteString", "internal/bytealg.IndexString"], unfollowed := true, recurses := true, named := ["math/bits.divideError", "math/bits.overflowError", "unicode/utf8.first", "unicode/utf8.acceptRanges", "internal/bytealg.MaxLen"], apart := false, laid := [("unicode/utf8.acceptRanges", laid_unicode_utf8_acceptRanges), ("unicode/utf8.first", laid_unicode_utf8_first)] }
def WholeOrdersSaid : Prop := wholeOrdersRow.holds Tryd.pinned (OpenSpec.ofChange wholeOrdersSpec)

/-- ITS FALSE NEIGHBOUR: 'it returns false'. Refute it at one input. -/
def wholeOrdersWrong : ChangeSpec := { name := "wholeOrders", fn := fun _ => fun
  | [d1, d2, d3] => { results := [.lit (.bool false)], args := [d1, d2, d3] }
  | _ => none }
def WholeOrdersWrongFalsely : Prop := wholeOrdersRow.holds Tryd.pinned (OpenSpec.ofChange wholeOrdersWrong)

/-- 'gussetlaw02.WholeChecks': WHATEVER THE INPUT: true; the input reads as it did. -/
def wholeChecksSpec : ChangeSpec := { name := "wholeChecks", fn := fun _ => fun
  | [d1, d2] => { results := [.lit (.bool true)], args := [d1, d2] }
  | _ => none }
def wholeChecksRow : OpenClaim := { program := "ytimpimnaknkgpaadoor", sum := "3807691b69b396546f074206a42d256f948d86b168f823467505a12ee01d3b65", func := "gusset/gussetlaw02.WholeChecks", spec := "wholeChecks", inPlace := ["internal/abi.NoEscape", "internal/bytealg.MakeNoZero", "math/bits.Add64", "math/bits.Sub64", "internal/bytealg.IndexByteString", "internal/bytealg.IndexString"], unfollowed := true, recurses := true, named := ["math/bits.divideError", "math/bits.overflowError", "unicode/utf8.first", "unicode/utf8.acceptRanges", "internal/bytealg.MaxLen"], apart := false, laid := [("unicode/utf8.acceptRanges", laid_unicode_utf8_acceptRanges), ("unicode/utf8.first", laid_unicode_utf8_first)] }
def WholeChecksSaid : Prop := wholeChecksRow.holds Tryd.pinned (OpenSpec.ofChange wholeChecksSpec)

/-- ITS FALSE NEIGHBOUR: 'it returns false'. Refute it at one input. -/
def wholeChecksWrong : ChangeSpec := { name := "wholeChecks", fn := fun _ => fun
  | [d1, d2] => { results := [.lit (.bool false)], args := [d1, d2] }
  | _ => none }
def WholeChecksWrongFalsely : Prop := wholeChecksRow.holds Tryd.pinned (OpenSpec.ofChange wholeChecksWrong)

/- THE SECOND FORM. 'bulk': how many values and letters a reading holds, each counted each time it is reached (what is shared counts as often as it is met; a slice's spare places count too). A statement '..UptoSaid' is the law's where the arguments, and the package variables that the reading takes, are together of bulk at most 1048576: NARROWER than '..Said'. Prove '..Said' where nothing that the law and all that it calls make is longer than what came in: it says more and counts as full. Else prove '..UptoSaid'. A law counts once. -/
mutual
def uptoBulk {H : Type} : DataW H → Nat
  | .lit (.string bytes) => bytes.length + 1
  | .lit _ => 1
  | .nil => 1
  | .ptr d => uptoBulk d + 1
  | .slice elems spare => uptoBulkAll elems + uptoBulkAll spare + 1
  | .agg parts => uptoBulkAll parts + 1
  | .iface _ d => uptoBulk d + 1
  | .map entries => uptoBulkEntries entries + 1
  | .held _ => 1
def uptoBulkAll {H : Type} : List (DataW H) → Nat
  | [] => 0
  | d :: r => uptoBulk d + uptoBulkAll r
def uptoBulkEntries {H : Type} : List (Lit × DataW H) → Nat
  | [] => 0
  | x :: r => uptoBulkEntry x + uptoBulkEntries r
def uptoBulkEntry {H : Type} : Lit × DataW H → Nat
  | (.string bytes, d) => bytes.length + uptoBulk d + 1
  | (_, d) => uptoBulk d + 1
 end
def uptoSmall : (H : Type) → List (DataW H) → Bool := fun _ ds => decide (uptoBulkAll ds ≤ 1048576)
def OpenSpec.upto (s : _root_.Go.ChangeSpec) : _root_.Go.OpenSpec := { _root_.Go.OpenSpec.ofChange s with cond := some uptoSmall }

/-- 'gussetlaw02.WholeQuotients', WHERE WHAT IT READS IS OF BULK AT MOST 1048576: true; the input reads as it did. -/
def wholeQuotientsUptoRow : OpenClaim := { program := "ytimpimnaknkgpaadoor", sum := "3807691b69b396546f074206a42d256f948d86b168f823467505a12ee01d3b65", func := "gusset/gussetlaw02.WholeQuotients", spec := "wholeQuotients", inPlace := ["internal/abi.NoEscape", "internal/bytealg.MakeNoZero", "math/bits.Add64", "math/bits.Sub64", "internal/bytealg.IndexByteString", "internal/bytealg.IndexString"], unfollowed := true, recurses := true, named := ["math/bits.divideError", "math/bits.overflowError", "unicode/utf8.first", "unicode/utf8.acceptRanges", "internal/bytealg.MaxLen"], apart := false, laid := [("unicode/utf8.acceptRanges", laid_unicode_utf8_acceptRanges), ("unicode/utf8.first", laid_unicode_utf8_first)], narrowed := true }
def WholeQuotientsUptoSaid : Prop := wholeQuotientsUptoRow.holds Tryd.pinned (OpenSpec.upto wholeQuotientsSpec)

/-- 'gussetlaw02.WholeCommon', WHERE WHAT IT READS IS OF BULK AT MOST 1048576: true; the input reads as it did. -/
def wholeCommonUptoRow : OpenClaim := { program := "ytimpimnaknkgpaadoor", sum := "3807691b69b396546f074206a42d256f948d86b168f823467505a12ee01d3b65", func := "gusset/gussetlaw02.WholeCommon", spec := "wholeCommon", inPlace := ["internal/abi.NoEscape", "internal/bytealg.MakeNoZero", "math/bits.Add64", "math/bits.Sub64", "internal/bytealg.IndexByteString", "internal/bytealg.IndexString"], unfollowed := true, recurses := true, named := ["math/bits.divideError", "math/bits.overflowError", "unicode/utf8.first", "unicode/utf8.acceptRanges", "internal/bytealg.MaxLen"], apart := false, laid := [("unicode/utf8.acceptRanges", laid_unicode_utf8_acceptRanges), ("unicode/utf8.first", laid_unicode_utf8_first)], narrowed := true }
def WholeCommonUptoSaid : Prop := wholeCommonUptoRow.holds Tryd.pinned (OpenSpec.upto wholeCommonSpec)

/-- 'gussetlaw02.WholeReads', WHERE WHAT IT READS IS OF BULK AT MOST 1048576: true; the input reads as it did. -/
def wholeReadsUptoRow : OpenClaim := { program := "ytimpimnaknkgpaadoor", sum := "3807691b69b396546f074206a42d256f948d86b168f823467505a12ee01d3b65", func := "gusset/gussetlaw02.WholeReads", spec := "wholeReads", inPlace := ["internal/bytealg.IndexByteString", "internal/bytealg.IndexString", "math/bits.Add64", "internal/abi.NoEscape", "internal/bytealg.MakeNoZero", "math/bits.Sub64"], unfollowed := true, recurses := true, named := ["unicode/utf8.first", "unicode/utf8.acceptRanges", "math/bits.divideError", "math/bits.overflowError", "internal/bytealg.MaxLen"], apart := false, laid := [("unicode/utf8.acceptRanges", laid_unicode_utf8_acceptRanges), ("unicode/utf8.first", laid_unicode_utf8_first)], narrowed := true }
def WholeReadsUptoSaid : Prop := wholeReadsUptoRow.holds Tryd.pinned (OpenSpec.upto wholeReadsSpec)

/-- 'gussetlaw02.WholePrints', WHERE WHAT IT READS IS OF BULK AT MOST 1048576: true; the input reads as it did. -/
def wholePrintsUptoRow : OpenClaim := { program := "ytimpimnaknkgpaadoor", sum := "3807691b69b396546f074206a42d256f948d86b168f823467505a12ee01d3b65", func := "gusset/gussetlaw02.WholePrints", spec := "wholePrints", inPlace := ["internal/abi.NoEscape", "internal/bytealg.MakeNoZero", "math/bits.Add64", "math/bits.Sub64", "internal/bytealg.IndexByteString", "internal/bytealg.IndexString"], unfollowed := true, recurses := true, named := ["math/bits.divideError", "math/bits.overflowError", "unicode/utf8.first", "unicode/utf8.acceptRanges", "internal/bytealg.MaxLen"], apart := false, laid := [("unicode/utf8.acceptRanges", laid_unicode_utf8_acceptRanges), ("unicode/utf8.first", laid_unicode_utf8_first)], narrowed := true }
def WholePrintsUptoSaid : Prop := wholePrintsUptoRow.holds Tryd.pinned (OpenSpec.upto wholePrintsSpec)

/-- 'gussetlaw02.WholeRing', WHERE WHAT IT READS IS OF BULK AT MOST 1048576: true; the input reads as it did. -/
def wholeRingUptoRow : OpenClaim := { program := "ytimpimnaknkgpaadoor", sum := "3807691b69b396546f074206a42d256f948d86b168f823467505a12ee01d3b65", func := "gusset/gussetlaw02.WholeRing", spec := "wholeRing", inPlace := ["internal/abi.NoEscape", "internal/bytealg.MakeNoZero", "math/bits.Add64", "math/bits.Sub64", "internal/bytealg.IndexByteString", "internal/bytealg.IndexString"], unfollowed := true, recurses := true, named := ["math/bits.divideError", "math/bits.overflowError", "unicode/utf8.first", "unicode/utf8.acceptRanges", "internal/bytealg.MaxLen"], apart := false, laid := [("unicode/utf8.acceptRanges", laid_unicode_utf8_acceptRanges), ("unicode/utf8.first", laid_unicode_utf8_first)], narrowed := true }
def WholeRingUptoSaid : Prop := wholeRingUptoRow.holds Tryd.pinned (OpenSpec.upto wholeRingSpec)

/-- 'gussetlaw02.WholeOrders', WHERE WHAT IT READS IS OF BULK AT MOST 1048576: true; the input reads as it did. -/
def wholeOrdersUptoRow : OpenClaim := { program := "ytimpimnaknkgpaadoor", sum := "3807691b69b396546f074206a42d256f948d86b168f823467505a12ee01d3b65", func := "gusset/gussetlaw02.WholeOrders", spec := "wholeOrders", inPlace := ["internal/abi.NoEscape", "internal/bytealg.MakeNoZero", "math/bits.Add64", "math/bits.Sub64", "internal/bytealg.IndexByteString", "internal/bytealg.IndexString"], unfollowed := true, recurses := true, named := ["math/bits.divideError", "math/bits.overflowError", "unicode/utf8.first", "unicode/utf8.acceptRanges", "internal/bytealg.MaxLen"], apart := false, laid := [("unicode/utf8.acceptRanges", laid_unicode_utf8_acceptRanges), ("unicode/utf8.first", laid_unicode_utf8_first)], narrowed := true }
def WholeOrdersUptoSaid : Prop := wholeOrdersUptoRow.holds Tryd.pinned (OpenSpec.upto wholeOrdersSpec)

/-- 'gussetlaw02.WholeChecks', WHERE WHAT IT READS IS OF BULK AT MOST 1048576: true; the input reads as it did. -/
def wholeChecksUptoRow : OpenClaim := { program := "ytimpimnaknkgpaadoor", sum := "3807691b69b396546f074206a42d256f948d86b168f823467505a12ee01d3b65", func := "gusset/gussetlaw02.WholeChecks", spec := "wholeChecks", inPlace := ["internal/abi.NoEscape", "internal/bytealg.MakeNoZero", "math/bits.Add64", "math/bits.Sub64", "internal/bytealg.IndexByteString", "internal/bytealg.IndexString"], unfollowed := true, recurses := true, named := ["math/bits.divideError", "math/bits.overflowError", "unicode/utf8.first", "unicode/utf8.acceptRanges", "internal/bytealg.MaxLen"], apart := false, laid := [("unicode/utf8.acceptRanges", laid_unicode_utf8_acceptRanges), ("unicode/utf8.first", laid_unicode_utf8_first)], narrowed := true }
def WholeChecksUptoSaid : Prop := wholeChecksUptoRow.holds Tryd.pinned (OpenSpec.upto wholeChecksSpec)

end Rows
end Go.Proofs.YtimpimnaknkgpaaDoor
