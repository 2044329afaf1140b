import Derived.Test.YtoijlbcbbblbfaaGreatDoorY2EX
import Derived.Test.YtoijlbcbbblbfaaGreatDoorY2Rd
namespace Go.Proofs.YtoijlbcbbblbfaaGreatDoor
open Go.RowKit Num
set_option linter.unusedVariables false
set_option linter.unusedSimpArgs false

theorem parseF_V (s : ByteArray) : parseV s.data.toList = .tuple #[.agg #[.bool (parseF s).1.1, .string (parseF s).1.2], .int .i64 (parseF s).2] := by
 unfold parseV parseF
 split <;> rfl
end Go.Proofs.YtoijlbcbbblbfaaGreatDoor
