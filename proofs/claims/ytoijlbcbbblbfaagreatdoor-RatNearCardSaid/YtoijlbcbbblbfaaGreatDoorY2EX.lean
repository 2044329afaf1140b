import Derived.Test.YtoijlbcbbblbfaaGreatDoorY2L3s
namespace Go.Proofs.YtoijlbcbbblbfaaGreatDoor
open Go.RowKit Num
set_option linter.unusedVariables false
set_option linter.unusedSimpArgs false

/-- No number. -/
def no0 : Bool × ByteArray := (false, ⟨#[]⟩)
/-- What Div tells. -/
def quoF (a b : Bool × ByteArray) : (Bool × ByteArray) × (Bool × ByteArray) × Int :=
 if bad2 a.1 a.2 b.1 b.2 ≠ 0 then (no0, no0, bad2 a.1 a.2 b.1 b.2) else if nv b.2 = 0 then (no0, no0, 3) else (pv (ival a.1 a.2 / ival b.1 b.2), pv (ival a.1 a.2 % ival b.1 b.2), 0)
theorem quo_f2 (a b : Bool × ByteArray) (h1 : a.2.size ≤ 15000) (h2 : b.2.size ≤ 15000) (w : World) : Calls Tryz.prog 81 #[.agg #[.bool a.1, .string a.2], .agg #[.bool b.1, .string b.2]] w fun e w' => e = .returned (.tuple #[.agg #[.bool (quoF a b).1.1, .string (quoF a b).1.2], .agg #[.bool (quoF a b).2.1.1, .string (quoF a b).2.1.2], .int .i64 (quoF a b).2.2]) ∧ Below w.heap.size w w' :=
 (divw_c a.1 a.2 b.1 b.2 h1 h2 w).mono fun e w' h => by
  refine ⟨?_, h.2.2.2⟩
  unfold quoF
  split
  ·rename_i h0; exact h.1 h0
  ·rename_i h0
   split
   ·rename_i hz; exact h.2.1 (Decidable.not_not.mp h0) hz
   ·rename_i hz; exact h.2.2.1 (Decidable.not_not.mp h0) hz
/-- What Gcd tells. -/
def gcdF (a b : Bool × ByteArray) : (Bool × ByteArray) × Int :=
 if bad2 a.1 a.2 b.1 b.2 ≠ 0 then (no0, bad2 a.1 a.2 b.1 b.2) else (pv (Int.gcd (ival a.1 a.2) (ival b.1 b.2) : Nat), 0)
theorem natAbs_ival (n : Bool) (s : ByteArray) : (ival n s).natAbs = (nv s).toNat := by
 have h0 := (nv_bd s).1
 unfold ival sgn
 split <;> omega
theorem gcd_f2 (a b : Bool × ByteArray) (h1 : a.2.size ≤ 15000) (h2 : b.2.size ≤ 15000) (w : World) : Calls Tryz.prog 77 #[.agg #[.bool a.1, .string a.2], .agg #[.bool b.1, .string b.2]] w fun e w' => e = .returned (.tuple #[.agg #[.bool (gcdF a b).1.1, .string (gcdF a b).1.2], .int .i64 (gcdF a b).2]) ∧ Below w.heap.size w w' :=
 (gcdw_c a.1 a.2 b.1 b.2 h1 h2 w).mono fun e w' h => by
  refine ⟨?_, h.2.2⟩
  unfold gcdF
  split
  ·rename_i h0; exact h.1 h0
  ·rename_i h0
   rw [h.2.1 (Decidable.not_not.mp h0)]
   have e1 : (pv ((Int.gcd (ival a.1 a.2) (ival b.1 b.2) : Nat) : Int)) = (false, encN ((Nat.gcd (nv a.2).toNat (nv b.2).toNat : Nat) : Int)) := by
    unfold pv Int.gcd
    rw [natAbs_ival, natAbs_ival, Int.natAbs_natCast]
    exact congrArg (fun z => (z, _)) (decide_eq_false (by omega))
   rw [e1]
/-- What Print tells. -/
def printF (a : Bool × ByteArray) : ByteArray × Int := if chk a.1 a.2 ≠ 0 then (⟨#[]⟩, chk a.1 a.2) else (⟨(textL a.1 (nv a.2).toNat).toArray⟩, 0)
theorem print_f2 (a : Bool × ByteArray) (h1 : a.2.size ≤ 15000) (w : World) : Calls Tryz.prog 61 #[.agg #[.bool a.1, .string a.2]] w fun e w' => e = .returned (.tuple #[.string (printF a).1, .int .i64 (printF a).2]) ∧ Below w.heap.size w w' :=
 (print_c a.1 a.2 h1 w).mono fun e w' h => by
  refine ⟨?_, h.2⟩
  rw [h.1]
  unfold printV printF
  split <;> rfl
/-- What Parse tells. -/
def parseF (s : ByteArray) : (Bool × ByteArray) × Int := if numS (restS s.data.toList) (negS s.data.toList) then (pv (sgn (negS s.data.toList) (dv (restS s.data.toList))), 0) else (no0, 4)
theorem parse_f2 (s : ByteArray) (w : World) : Calls Tryz.prog 79 #[.string s] w fun e w' => e = .returned (.tuple #[.agg #[.bool (parseF s).1.1, .string (parseF s).1.2], .int .i64 (parseF s).2]) ∧ Below w.heap.size w w' :=
 (parse_c s w).mono fun e w' h => by
  refine ⟨?_, h.2⟩
  rw [h.1]
  unfold parseV parseF
  split <;> rfl
end Go.Proofs.YtoijlbcbbblbfaaGreatDoor
