/-
  DERIVED. GIVEN WITH THE SEED: THE CARDS: each row of YtimpimnaknkgpaaDoorRows.lean that lists a variable, with what it lists TIED to the program's text (the seventh form; the later family's looks); each row that meets fmt, with fmt's text TOLD by the authors' own Lean function (tested against real Go, not proved from fmt's source: count such statements apart). THE CARD IS WHAT COUNTS. Prove the row's statement (the work); the ties are given (YtimpimnaknkgpaaDoorTie.lean); close each card by the builder's one call (the guide's Derived/Test/ToyasCard.lean, 'card_holds'). Laid BY PROGRAM, IN A SANDBOX (cutbox-door.mjs). By AI agents, Wed Nov 11 2026. No macro, syntax, notation, axiom, sorry.
-/
import Derived.Test.YtimpimnaknkgpaaDoorRows
import GoSem.ClaimSeven
namespace Go.Proofs.YtimpimnaknkgpaaDoor
namespace Rows

/-- THE TIED CARD OF 'gussetlaw02.WholeQuotients'. -/
def wholeQuotientsCard : Claim7 := { stood := { row := wholeQuotientsRow, standIns := [], harness := (true, "07e6fc3ccb18985c8f2d9418f14f028b0731a316fa5a38b5dde6dac839407cab"), looks := false }, kinds := [], alts := [], laidByText := true, laidKinds := [.data, .pinned], laidTests := true, laidLooks := .later }
def WholeQuotientsCardSaid : Prop := Claim7.holds Tryd.pinned (.plain (OpenSpec.ofChange wholeQuotientsSpec)) wholeQuotientsCard

/-- THE TIED CARD OF 'gussetlaw02.WholeCommon'. -/
def wholeCommonCard : Claim7 := { stood := { row := wholeCommonRow, standIns := [], harness := (true, "07e6fc3ccb18985c8f2d9418f14f028b0731a316fa5a38b5dde6dac839407cab"), looks := false }, kinds := [], alts := [], laidByText := true, laidKinds := [.data, .pinned], laidTests := true, laidLooks := .later }
def WholeCommonCardSaid : Prop := Claim7.holds Tryd.pinned (.plain (OpenSpec.ofChange wholeCommonSpec)) wholeCommonCard

/-- THE TIED CARD OF 'gussetlaw02.WholeReads'. -/
def wholeReadsCard : Claim7 := { stood := { row := wholeReadsRow, standIns := [], harness := (true, "07e6fc3ccb18985c8f2d9418f14f028b0731a316fa5a38b5dde6dac839407cab"), looks := false }, kinds := [], alts := [], laidByText := true, laidKinds := [.data, .pinned], laidTests := true, laidLooks := .later }
def WholeReadsCardSaid : Prop := Claim7.holds Tryd.pinned (.plain (OpenSpec.ofChange wholeReadsSpec)) wholeReadsCard

/-- THE TIED CARD OF 'gussetlaw02.WholePrints'. -/
def wholePrintsCard : Claim7 := { stood := { row := wholePrintsRow, standIns := [], harness := (true, "07e6fc3ccb18985c8f2d9418f14f028b0731a316fa5a38b5dde6dac839407cab"), looks := false }, kinds := [], alts := [], laidByText := true, laidKinds := [.data, .pinned], laidTests := true, laidLooks := .later }
def WholePrintsCardSaid : Prop := Claim7.holds Tryd.pinned (.plain (OpenSpec.ofChange wholePrintsSpec)) wholePrintsCard

/-- THE TIED CARD OF 'gussetlaw02.WholeRing'. -/
def wholeRingCard : Claim7 := { stood := { row := wholeRingRow, standIns := [], harness := (true, "07e6fc3ccb18985c8f2d9418f14f028b0731a316fa5a38b5dde6dac839407cab"), looks := false }, kinds := [], alts := [], laidByText := true, laidKinds := [.data, .pinned], laidTests := true, laidLooks := .later }
def WholeRingCardSaid : Prop := Claim7.holds Tryd.pinned (.plain (OpenSpec.ofChange wholeRingSpec)) wholeRingCard

/-- THE TIED CARD OF 'gussetlaw02.WholeOrders'. -/
def wholeOrdersCard : Claim7 := { stood := { row := wholeOrdersRow, standIns := [], harness := (true, "07e6fc3ccb18985c8f2d9418f14f028b0731a316fa5a38b5dde6dac839407cab"), looks := false }, kinds := [], alts := [], laidByText := true, laidKinds := [.data, .pinned], laidTests := true, laidLooks := .later }
def WholeOrdersCardSaid : Prop := Claim7.holds Tryd.pinned (.plain (OpenSpec.ofChange wholeOrdersSpec)) wholeOrdersCard

/-- THE TIED CARD OF 'gussetlaw02.WholeChecks'. -/
def wholeChecksCard : Claim7 := { stood := { row := wholeChecksRow, standIns := [], harness := (true, "07e6fc3ccb18985c8f2d9418f14f028b0731a316fa5a38b5dde6dac839407cab"), looks := false }, kinds := [], alts := [], laidByText := true, laidKinds := [.data, .pinned], laidTests := true, laidLooks := .later }
def WholeChecksCardSaid : Prop := Claim7.holds Tryd.pinned (.plain (OpenSpec.ofChange wholeChecksSpec)) wholeChecksCard

/-- THE SECOND FORM's CARD OF 'gussetlaw02.WholeQuotients'. -/
def wholeQuotientsUptoCard : Claim7 := { stood := { row := wholeQuotientsUptoRow, standIns := [], harness := (true, "07e6fc3ccb18985c8f2d9418f14f028b0731a316fa5a38b5dde6dac839407cab"), looks := false }, kinds := [], alts := [], laidByText := true, laidKinds := [.data, .pinned], laidTests := true, laidLooks := .later }
def WholeQuotientsUptoCardSaid : Prop := Claim7.holds Tryd.pinned (.plain (OpenSpec.upto wholeQuotientsSpec)) wholeQuotientsUptoCard

/-- THE SECOND FORM's CARD OF 'gussetlaw02.WholeCommon'. -/
def wholeCommonUptoCard : Claim7 := { stood := { row := wholeCommonUptoRow, standIns := [], harness := (true, "07e6fc3ccb18985c8f2d9418f14f028b0731a316fa5a38b5dde6dac839407cab"), looks := false }, kinds := [], alts := [], laidByText := true, laidKinds := [.data, .pinned], laidTests := true, laidLooks := .later }
def WholeCommonUptoCardSaid : Prop := Claim7.holds Tryd.pinned (.plain (OpenSpec.upto wholeCommonSpec)) wholeCommonUptoCard

/-- THE SECOND FORM's CARD OF 'gussetlaw02.WholeReads'. -/
def wholeReadsUptoCard : Claim7 := { stood := { row := wholeReadsUptoRow, standIns := [], harness := (true, "07e6fc3ccb18985c8f2d9418f14f028b0731a316fa5a38b5dde6dac839407cab"), looks := false }, kinds := [], alts := [], laidByText := true, laidKinds := [.data, .pinned], laidTests := true, laidLooks := .later }
def WholeReadsUptoCardSaid : Prop := Claim7.holds Tryd.pinned (.plain (OpenSpec.upto wholeReadsSpec)) wholeReadsUptoCard

/-- THE SECOND FORM's CARD OF 'gussetlaw02.WholePrints'. -/
def wholePrintsUptoCard : Claim7 := { stood := { row := wholePrintsUptoRow, standIns := [], harness := (true, "07e6fc3ccb18985c8f2d9418f14f028b0731a316fa5a38b5dde6dac839407cab"), looks := false }, kinds := [], alts := [], laidByText := true, laidKinds := [.data, .pinned], laidTests := true, laidLooks := .later }
def WholePrintsUptoCardSaid : Prop := Claim7.holds Tryd.pinned (.plain (OpenSpec.upto wholePrintsSpec)) wholePrintsUptoCard

/-- THE SECOND FORM's CARD OF 'gussetlaw02.WholeRing'. -/
def wholeRingUptoCard : Claim7 := { stood := { row := wholeRingUptoRow, standIns := [], harness := (true, "07e6fc3ccb18985c8f2d9418f14f028b0731a316fa5a38b5dde6dac839407cab"), looks := false }, kinds := [], alts := [], laidByText := true, laidKinds := [.data, .pinned], laidTests := true, laidLooks := .later }
def WholeRingUptoCardSaid : Prop := Claim7.holds Tryd.pinned (.plain (OpenSpec.upto wholeRingSpec)) wholeRingUptoCard

/-- THE SECOND FORM's CARD OF 'gussetlaw02.WholeOrders'. -/
def wholeOrdersUptoCard : Claim7 := { stood := { row := wholeOrdersUptoRow, standIns := [], harness := (true, "07e6fc3ccb18985c8f2d9418f14f028b0731a316fa5a38b5dde6dac839407cab"), looks := false }, kinds := [], alts := [], laidByText := true, laidKinds := [.data, .pinned], laidTests := true, laidLooks := .later }
def WholeOrdersUptoCardSaid : Prop := Claim7.holds Tryd.pinned (.plain (OpenSpec.upto wholeOrdersSpec)) wholeOrdersUptoCard

/-- THE SECOND FORM's CARD OF 'gussetlaw02.WholeChecks'. -/
def wholeChecksUptoCard : Claim7 := { stood := { row := wholeChecksUptoRow, standIns := [], harness := (true, "07e6fc3ccb18985c8f2d9418f14f028b0731a316fa5a38b5dde6dac839407cab"), looks := false }, kinds := [], alts := [], laidByText := true, laidKinds := [.data, .pinned], laidTests := true, laidLooks := .later }
def WholeChecksUptoCardSaid : Prop := Claim7.holds Tryd.pinned (.plain (OpenSpec.upto wholeChecksSpec)) wholeChecksUptoCard
end Rows
end Go.Proofs.YtimpimnaknkgpaaDoor
