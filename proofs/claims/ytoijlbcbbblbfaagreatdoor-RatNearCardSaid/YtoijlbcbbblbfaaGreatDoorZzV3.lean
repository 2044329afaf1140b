import Derived.Test.YtoijlbcbbblbfaaGreatDoorZzV2
import Derived.Test.YtoijlbcbbblbfaaGreatDoorZzG0x1
namespace Go.Proofs.YtoijlbcbbblbfaaGreatDoor
open Go.RowKit Num Go.Proofs.YtoijlbcbbblbfaaGreatDoorH.R Go.Proofs.YtoijlbcbbblbfaaGreatDoorW.PrintWords
set_option linter.unusedVariables false
set_option linter.unusedSimpArgs false

set_option maxRecDepth 100000 in
theorem live_12 : gussetlaw03_live.f 12 = some true := by decide +kernel
set_option maxRecDepth 100000 in
theorem live_b : ∀ k, k < 30 → gussetlaw03_live.f (12 + k) = some true := by decide +kernel
theorem live_k {k : Nat} (h : 12 ≤ k) (h2 : k < 42 := by omega) : gussetlaw03_live.f k = some true := by
 obtain ⟨d, rfl⟩ := Nat.exists_eq_add_of_le h
 exact live_b d (by omega)
end Go.Proofs.YtoijlbcbbblbfaaGreatDoor
