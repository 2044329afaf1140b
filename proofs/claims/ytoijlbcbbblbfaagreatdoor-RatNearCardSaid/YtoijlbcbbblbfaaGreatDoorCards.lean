/-
  DERIVED. GIVEN WITH THE SEED: THE CARDS: each row of YtoijlbcbbblbfaaGreatDoorRows.lean that lists a variable, with what it lists TIED to the program's text (the seventh form; the later family's looks); each row that meets fmt, with fmt's text TOLD by the authors' own Lean function (tested against real Go, not proved from fmt's source: count such statements apart). THE CARD IS WHAT COUNTS. Prove the row's statement (the work); the ties are given (YtoijlbcbbblbfaaGreatDoorTie.lean); close each card by the builder's one call (the guide's Derived/Test/ToyasCard.lean, 'card_holds'). Laid BY PROGRAM, IN A SANDBOX (cutbox-door.mjs). By AI agents, Wed Nov 11 2026. No macro, syntax, notation, axiom, sorry.
-/
import Derived.Test.YtoijlbcbbblbfaaGreatDoorRows
import GoSem.ClaimSeven
namespace Go.Proofs.YtoijlbcbbblbfaaGreatDoor
namespace Rows

/-- THE TIED CARD OF 'gussetlaw03.RatMakes'. -/
def ratMakesCard : Claim7 := { stood := { row := ratMakesRow, standIns := [], harness := (true, "2c955d6dc2e6044d7dba5090ff5fe9a231f9416325c17bec174c0de1496a7b5f"), looks := false }, kinds := [], alts := [], laidByText := true, laidKinds := [.data, .pinned], laidTests := true, laidLooks := .later }
def RatMakesCardSaid : Prop := Claim7.holds Tryz.pinned (.plain (OpenSpec.ofChange ratMakesSpec)) ratMakesCard

/-- THE TIED CARD OF 'gussetlaw03.RatDecimals'. -/
def ratDecimalsCard : Claim7 := { stood := { row := ratDecimalsRow, standIns := [], harness := (true, "2c955d6dc2e6044d7dba5090ff5fe9a231f9416325c17bec174c0de1496a7b5f"), looks := false }, kinds := [], alts := [], laidByText := true, laidKinds := [.data, .pinned], laidTests := true, laidLooks := .later }
def RatDecimalsCardSaid : Prop := Claim7.holds Tryz.pinned (.plain (OpenSpec.ofChange ratDecimalsSpec)) ratDecimalsCard

/-- THE TIED CARD OF 'gussetlaw03.RatNear'. -/
def ratNearCard : Claim7 := { stood := { row := ratNearRow, standIns := [], harness := (true, "2c955d6dc2e6044d7dba5090ff5fe9a231f9416325c17bec174c0de1496a7b5f"), looks := false }, kinds := [], alts := [], laidByText := true, laidKinds := [.data, .pinned], laidTests := true, laidLooks := .later }
def RatNearCardSaid : Prop := Claim7.holds Tryz.pinned (.plain (OpenSpec.ofChange ratNearSpec)) ratNearCard

/-- THE TIED CARD OF 'gussetlaw03.RatProducts'. -/
def ratProductsCard : Claim7 := { stood := { row := ratProductsRow, standIns := [], harness := (true, "2c955d6dc2e6044d7dba5090ff5fe9a231f9416325c17bec174c0de1496a7b5f"), looks := false }, kinds := [], alts := [], laidByText := true, laidKinds := [.data, .pinned], laidTests := true, laidLooks := .later }
def RatProductsCardSaid : Prop := Claim7.holds Tryz.pinned (.plain (OpenSpec.ofChange ratProductsSpec)) ratProductsCard

/-- THE TIED CARD OF 'gussetlaw03.RatField'. -/
def ratFieldCard : Claim7 := { stood := { row := ratFieldRow, standIns := [], harness := (true, "2c955d6dc2e6044d7dba5090ff5fe9a231f9416325c17bec174c0de1496a7b5f"), looks := false }, kinds := [], alts := [], laidByText := true, laidKinds := [.data, .pinned], laidTests := true, laidLooks := .later }
def RatFieldCardSaid : Prop := Claim7.holds Tryz.pinned (.plain (OpenSpec.ofChange ratFieldSpec)) ratFieldCard

/-- THE TIED CARD OF 'gussetlaw03.RatSums'. -/
def ratSumsCard : Claim7 := { stood := { row := ratSumsRow, standIns := [], harness := (true, "2c955d6dc2e6044d7dba5090ff5fe9a231f9416325c17bec174c0de1496a7b5f"), looks := false }, kinds := [], alts := [], laidByText := true, laidKinds := [.data, .pinned], laidTests := true, laidLooks := .later }
def RatSumsCardSaid : Prop := Claim7.holds Tryz.pinned (.plain (OpenSpec.ofChange ratSumsSpec)) ratSumsCard

/-- THE TIED CARD OF 'gussetlaw03.RatOrder'. -/
def ratOrderCard : Claim7 := { stood := { row := ratOrderRow, standIns := [], harness := (true, "2c955d6dc2e6044d7dba5090ff5fe9a231f9416325c17bec174c0de1496a7b5f"), looks := false }, kinds := [], alts := [], laidByText := true, laidKinds := [.data, .pinned], laidTests := true, laidLooks := .later }
def RatOrderCardSaid : Prop := Claim7.holds Tryz.pinned (.plain (OpenSpec.ofChange ratOrderSpec)) ratOrderCard

/-- THE TIED CARD OF 'gussetlaw03.RatChecks'. -/
def ratChecksCard : Claim7 := { stood := { row := ratChecksRow, standIns := [], harness := (true, "2c955d6dc2e6044d7dba5090ff5fe9a231f9416325c17bec174c0de1496a7b5f"), looks := false }, kinds := [], alts := [], laidByText := true, laidKinds := [.data, .pinned], laidTests := true, laidLooks := .later }
def RatChecksCardSaid : Prop := Claim7.holds Tryz.pinned (.plain (OpenSpec.ofChange ratChecksSpec)) ratChecksCard

/-- THE TIED CARD OF 'gussetlaw03.RatReads'. -/
def ratReadsCard : Claim7 := { stood := { row := ratReadsRow, standIns := [], harness := (true, "2c955d6dc2e6044d7dba5090ff5fe9a231f9416325c17bec174c0de1496a7b5f"), looks := false }, kinds := [], alts := [], laidByText := true, laidKinds := [.data, .pinned], laidTests := true, laidLooks := .later }
def RatReadsCardSaid : Prop := Claim7.holds Tryz.pinned (.plain (OpenSpec.ofChange ratReadsSpec)) ratReadsCard

/-- THE TIED CARD OF 'gussetlaw03.RatPrints'. -/
def ratPrintsCard : Claim7 := { stood := { row := ratPrintsRow, standIns := [], harness := (true, "2c955d6dc2e6044d7dba5090ff5fe9a231f9416325c17bec174c0de1496a7b5f"), looks := false }, kinds := [], alts := [], laidByText := true, laidKinds := [.data, .pinned], laidTests := true, laidLooks := .later }
def RatPrintsCardSaid : Prop := Claim7.holds Tryz.pinned (.plain (OpenSpec.ofChange ratPrintsSpec)) ratPrintsCard

/-- THE SECOND FORM's CARD OF 'gussetlaw03.RatMakes'. -/
def ratMakesUptoCard : Claim7 := { stood := { row := ratMakesUptoRow, standIns := [], harness := (true, "2c955d6dc2e6044d7dba5090ff5fe9a231f9416325c17bec174c0de1496a7b5f"), looks := false }, kinds := [], alts := [], laidByText := true, laidKinds := [.data, .pinned], laidTests := true, laidLooks := .later }
def RatMakesUptoCardSaid : Prop := Claim7.holds Tryz.pinned (.plain (OpenSpec.upto ratMakesSpec)) ratMakesUptoCard

/-- THE SECOND FORM's CARD OF 'gussetlaw03.RatDecimals'. -/
def ratDecimalsUptoCard : Claim7 := { stood := { row := ratDecimalsUptoRow, standIns := [], harness := (true, "2c955d6dc2e6044d7dba5090ff5fe9a231f9416325c17bec174c0de1496a7b5f"), looks := false }, kinds := [], alts := [], laidByText := true, laidKinds := [.data, .pinned], laidTests := true, laidLooks := .later }
def RatDecimalsUptoCardSaid : Prop := Claim7.holds Tryz.pinned (.plain (OpenSpec.upto ratDecimalsSpec)) ratDecimalsUptoCard

/-- THE SECOND FORM's CARD OF 'gussetlaw03.RatNear'. -/
def ratNearUptoCard : Claim7 := { stood := { row := ratNearUptoRow, standIns := [], harness := (true, "2c955d6dc2e6044d7dba5090ff5fe9a231f9416325c17bec174c0de1496a7b5f"), looks := false }, kinds := [], alts := [], laidByText := true, laidKinds := [.data, .pinned], laidTests := true, laidLooks := .later }
def RatNearUptoCardSaid : Prop := Claim7.holds Tryz.pinned (.plain (OpenSpec.upto ratNearSpec)) ratNearUptoCard

/-- THE SECOND FORM's CARD OF 'gussetlaw03.RatProducts'. -/
def ratProductsUptoCard : Claim7 := { stood := { row := ratProductsUptoRow, standIns := [], harness := (true, "2c955d6dc2e6044d7dba5090ff5fe9a231f9416325c17bec174c0de1496a7b5f"), looks := false }, kinds := [], alts := [], laidByText := true, laidKinds := [.data, .pinned], laidTests := true, laidLooks := .later }
def RatProductsUptoCardSaid : Prop := Claim7.holds Tryz.pinned (.plain (OpenSpec.upto ratProductsSpec)) ratProductsUptoCard

/-- THE SECOND FORM's CARD OF 'gussetlaw03.RatField'. -/
def ratFieldUptoCard : Claim7 := { stood := { row := ratFieldUptoRow, standIns := [], harness := (true, "2c955d6dc2e6044d7dba5090ff5fe9a231f9416325c17bec174c0de1496a7b5f"), looks := false }, kinds := [], alts := [], laidByText := true, laidKinds := [.data, .pinned], laidTests := true, laidLooks := .later }
def RatFieldUptoCardSaid : Prop := Claim7.holds Tryz.pinned (.plain (OpenSpec.upto ratFieldSpec)) ratFieldUptoCard

/-- THE SECOND FORM's CARD OF 'gussetlaw03.RatSums'. -/
def ratSumsUptoCard : Claim7 := { stood := { row := ratSumsUptoRow, standIns := [], harness := (true, "2c955d6dc2e6044d7dba5090ff5fe9a231f9416325c17bec174c0de1496a7b5f"), looks := false }, kinds := [], alts := [], laidByText := true, laidKinds := [.data, .pinned], laidTests := true, laidLooks := .later }
def RatSumsUptoCardSaid : Prop := Claim7.holds Tryz.pinned (.plain (OpenSpec.upto ratSumsSpec)) ratSumsUptoCard

/-- THE SECOND FORM's CARD OF 'gussetlaw03.RatOrder'. -/
def ratOrderUptoCard : Claim7 := { stood := { row := ratOrderUptoRow, standIns := [], harness := (true, "2c955d6dc2e6044d7dba5090ff5fe9a231f9416325c17bec174c0de1496a7b5f"), looks := false }, kinds := [], alts := [], laidByText := true, laidKinds := [.data, .pinned], laidTests := true, laidLooks := .later }
def RatOrderUptoCardSaid : Prop := Claim7.holds Tryz.pinned (.plain (OpenSpec.upto ratOrderSpec)) ratOrderUptoCard

/-- THE SECOND FORM's CARD OF 'gussetlaw03.RatChecks'. -/
def ratChecksUptoCard : Claim7 := { stood := { row := ratChecksUptoRow, standIns := [], harness := (true, "2c955d6dc2e6044d7dba5090ff5fe9a231f9416325c17bec174c0de1496a7b5f"), looks := false }, kinds := [], alts := [], laidByText := true, laidKinds := [.data, .pinned], laidTests := true, laidLooks := .later }
def RatChecksUptoCardSaid : Prop := Claim7.holds Tryz.pinned (.plain (OpenSpec.upto ratChecksSpec)) ratChecksUptoCard

/-- THE SECOND FORM's CARD OF 'gussetlaw03.RatReads'. -/
def ratReadsUptoCard : Claim7 := { stood := { row := ratReadsUptoRow, standIns := [], harness := (true, "2c955d6dc2e6044d7dba5090ff5fe9a231f9416325c17bec174c0de1496a7b5f"), looks := false }, kinds := [], alts := [], laidByText := true, laidKinds := [.data, .pinned], laidTests := true, laidLooks := .later }
def RatReadsUptoCardSaid : Prop := Claim7.holds Tryz.pinned (.plain (OpenSpec.upto ratReadsSpec)) ratReadsUptoCard

/-- THE SECOND FORM's CARD OF 'gussetlaw03.RatPrints'. -/
def ratPrintsUptoCard : Claim7 := { stood := { row := ratPrintsUptoRow, standIns := [], harness := (true, "2c955d6dc2e6044d7dba5090ff5fe9a231f9416325c17bec174c0de1496a7b5f"), looks := false }, kinds := [], alts := [], laidByText := true, laidKinds := [.data, .pinned], laidTests := true, laidLooks := .later }
def RatPrintsUptoCardSaid : Prop := Claim7.holds Tryz.pinned (.plain (OpenSpec.upto ratPrintsSpec)) ratPrintsUptoCard
end Rows
end Go.Proofs.YtoijlbcbbblbfaaGreatDoor
