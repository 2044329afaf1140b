import Derived.Test.YtoijlbcbbblbfaaGreatDoorY2L0
import Derived.Test.YtoijlbcbbblbfaaGreatDoorY2G2x0
namespace Go.Proofs.YtoijlbcbbblbfaaGreatDoor
open Go.RowKit Num
set_option linter.unusedVariables false
set_option linter.unusedSimpArgs false

theorem add_f (a b : Bool × ByteArray) (h1 : a.2.size ≤ 15000) (h2 : b.2.size ≤ 15000) : Hid (∀ w, Calls Tryz.prog 74 #[.agg #[.bool a.1, .string a.2], .agg #[.bool b.1, .string b.2]] w fun e w' => e = .returned (.tuple #[.agg #[.bool (binF (· + ·) a b).1.1, .string (binF (· + ·) a b).1.2], .int .i64 (binF (· + ·) a b).2]) ∧ Below w.heap.size w w') :=
 Lib.hid fun w => (add_w a.1 a.2 b.1 b.2 h1 h2 w).mono fun e w' h => bin_of h
theorem sub_f (a b : Bool × ByteArray) (h1 : a.2.size ≤ 15000) (h2 : b.2.size ≤ 15000) : Hid (∀ w, Calls Tryz.prog 76 #[.agg #[.bool a.1, .string a.2], .agg #[.bool b.1, .string b.2]] w fun e w' => e = .returned (.tuple #[.agg #[.bool (binF (· - ·) a b).1.1, .string (binF (· - ·) a b).1.2], .int .i64 (binF (· - ·) a b).2]) ∧ Below w.heap.size w w') :=
 Lib.hid fun w => (sub_w a.1 a.2 b.1 b.2 h1 h2 w).mono fun e w' h => bin_of h
theorem mul_f (a b : Bool × ByteArray) (h1 : a.2.size ≤ 15000) (h2 : b.2.size ≤ 15000) : Hid (∀ w, Calls Tryz.prog 58 #[.agg #[.bool a.1, .string a.2], .agg #[.bool b.1, .string b.2]] w fun e w' => e = .returned (.tuple #[.agg #[.bool (binF (· * ·) a b).1.1, .string (binF (· * ·) a b).1.2], .int .i64 (binF (· * ·) a b).2]) ∧ Below w.heap.size w w') :=
 Lib.hid fun w => (mul_w a.1 a.2 b.1 b.2 h1 h2 w).mono fun e w' h => bin_of h
theorem binF_add_size {a b : Bool × ByteArray} {k m : Nat} (ha : a.2.size ≤ k) (hb : b.2.size ≤ k) (hm : k + 1 ≤ m) : (binF (· + ·) a b).1.2.size ≤ m := binF_size (add_bd (ival_bd ha) (ival_bd hb) hm)
theorem binF_sub_size {a b : Bool × ByteArray} {k m : Nat} (ha : a.2.size ≤ k) (hb : b.2.size ≤ k) (hm : k + 1 ≤ m) : (binF (· - ·) a b).1.2.size ≤ m := binF_size (sub_bd (ival_bd ha) (ival_bd hb) hm)
theorem binF_mul_size {a b : Bool × ByteArray} {k l m : Nat} (ha : a.2.size ≤ k) (hb : b.2.size ≤ l) (hm : k + l ≤ m) : (binF (· * ·) a b).1.2.size ≤ m := binF_size (mul_bd (ival_bd ha) (ival_bd hb) hm)
/-- What Cmp tells. -/
def cmpF (a b : Bool × ByteArray) : Int × Int := if bad2 a.1 a.2 b.1 b.2 = 0 then (cmpI (ival a.1 a.2) (ival b.1 b.2), 0) else (0, bad2 a.1 a.2 b.1 b.2)

theorem cmp_f (a b : Bool × ByteArray) : Hid (∀ w, Calls Tryz.prog 75 #[.agg #[.bool a.1, .string a.2], .agg #[.bool b.1, .string b.2]] w fun e w' => e = .returned (.tuple #[.int .i64 (cmpF a b).1, .int .i64 (cmpF a b).2]) ∧ Below w.heap.size w w') :=
 Lib.hid fun w => (cmp_w a.1 a.2 b.1 b.2 w).mono fun e w' h => by
  refine ⟨?_, h.2.2⟩
  unfold cmpF
  split
  ·rename_i h0; exact h.2.1 h0
  ·rename_i h0; exact h.1 h0
theorem cmpF_err {a b : Bool × ByteArray} : (cmpF a b).2 = bad2 a.1 a.2 b.1 b.2 := by
 unfold cmpF
 split
 ·rename_i h; exact h.symm
 ·rfl
theorem cmpF_ok {a b : Bool × ByteArray} (h : bad2 a.1 a.2 b.1 b.2 = 0) : cmpF a b = (cmpI (ival a.1 a.2) (ival b.1 b.2), 0) := if_pos h
end Go.Proofs.YtoijlbcbbblbfaaGreatDoor
