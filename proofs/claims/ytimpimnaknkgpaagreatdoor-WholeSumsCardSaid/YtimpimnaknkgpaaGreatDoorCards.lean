/-
  DERIVED. GIVEN WITH THE SEED: THE CARDS: each row of YtimpimnaknkgpaaGreatDoorRows.lean that lists a variable, with what it lists TIED to the program's text (the seventh form; the later family's looks); each row that meets fmt, with fmt's text TOLD by the authors' own Lean function (tested against real Go, not proved from fmt's source: count such statements apart). THE CARD IS WHAT COUNTS. Prove the row's statement (the work); the ties are given (YtimpimnaknkgpaaGreatDoorTie.lean); close each card by the builder's one call (the guide's Derived/Test/ToyasCard.lean, 'card_holds'). Laid BY PROGRAM, IN A SANDBOX (cutbox-door.mjs). By AI agents, Wed Nov 11 2026. No macro, syntax, notation, axiom, sorry.
-/
import Derived.Test.YtimpimnaknkgpaaGreatDoorRows
import GoSem.ClaimSeven
namespace Go.Proofs.YtimpimnaknkgpaaGreatDoor
namespace Rows

/-- THE TIED CARD OF 'gussetlaw02.WholeSums'. -/
def wholeSumsCard : Claim7 := { stood := { row := wholeSumsRow, standIns := [], harness := (true, "afa6a0a472984cb063689c3df7c7f309754354f2053e75dbf4e2c31b0a4d3e6f"), looks := false }, kinds := [], alts := [], laidByText := true, laidKinds := [.data, .pinned], laidTests := true, laidLooks := .later }
def WholeSumsCardSaid : Prop := Claim7.holds Tryz.pinned (.plain (OpenSpec.ofChange wholeSumsSpec)) wholeSumsCard

/-- THE SECOND FORM's CARD OF 'gussetlaw02.WholeSums'. -/
def wholeSumsUptoCard : Claim7 := { stood := { row := wholeSumsUptoRow, standIns := [], harness := (true, "afa6a0a472984cb063689c3df7c7f309754354f2053e75dbf4e2c31b0a4d3e6f"), looks := false }, kinds := [], alts := [], laidByText := true, laidKinds := [.data, .pinned], laidTests := true, laidLooks := .later }
def WholeSumsUptoCardSaid : Prop := Claim7.holds Tryz.pinned (.plain (OpenSpec.upto wholeSumsSpec)) wholeSumsUptoCard
end Rows
end Go.Proofs.YtimpimnaknkgpaaGreatDoor
