import Derived.Test.YtimpimnaknkgpaaDoorL0
import Derived.Test.YtimpimnaknkgpaaDoorR5
namespace Go.Proofs.YtimpimnaknkgpaaDoor
open Go.RowKit Num
set_option linter.unusedVariables false
set_option linter.unusedSimpArgs false

set_option maxHeartbeats 1000000 in
theorem small_c (n1 : Bool) (s1 : ByteArray) (n2 : Bool) (s2 : ByteArray) (w : World) :
    Calls Tryd.prog 10 #[.agg #[.bool n1, .string s1], .agg #[.bool n2, .string s2]] w fun e w' => e = .returned (.bool (decide (s1.size ≤ 400) && decide (s2.size ≤ 400))) ∧ Below w.heap.size w w' := by
  have hb : Below w.heap.size w ((w.alloc (.cells #[.bool n1, .string s1] 24)).alloc (.cells #[.bool n2, .string s2] 24)) := ((Below.refl _ _).alloc (Nat.le_refl _) _).alloc (by simp) _
  have HB := Lib.hid hb
  clear hb
  by_cases h1 : s1.size ≤ 400
  · have t1 : decide ((s1.size : Int) ≤ 400) = true := decide_eq_true (by omega)
    by_cases h2 : s2.size ≤ 400
    · have t2 : decide ((s2.size : Int) ≤ 400) = true := decide_eq_true (by omega)
      rw [decide_eq_true h1, decide_eq_true h2]
      clear h1 h2
      go_enter Tryd.func10, Tryd.ntmps10
      go_wp2
      repeat (go_quiet (fail); try go_wp2)
      go_ret
      exact ⟨rfl, by first | exact HB.out | exact bdrN HB.out _ | exact HB.out.drew⟩
    · have t2 : decide ((s2.size : Int) ≤ 400) = false := decide_eq_false (by omega)
      rw [decide_eq_true h1, decide_eq_false h2]
      clear h1 h2
      go_enter Tryd.func10, Tryd.ntmps10
      go_wp2
      repeat (go_quiet (fail); try go_wp2)
      go_ret
      exact ⟨rfl, by first | exact HB.out | exact bdrN HB.out _ | exact HB.out.drew⟩
  · have t1 : decide ((s1.size : Int) ≤ 400) = false := decide_eq_false (by omega)
    rw [decide_eq_false h1, Bool.false_and]
    clear h1
    go_enter Tryd.func10, Tryd.ntmps10
    go_wp2
    repeat (go_quiet (fail); try go_wp2)
    go_ret
    exact ⟨rfl, by first | exact HB.out | exact bdrN HB.out _ | exact HB.out.drew⟩
theorem add_f (a b : Bool × ByteArray) (h1 : a.2.size ≤ 15000) (h2 : b.2.size ≤ 15000) : Hid (∀ w, Calls Tryd.prog 27 #[.agg #[.bool a.1, .string a.2], .agg #[.bool b.1, .string b.2]] w fun e w' => e = .returned (.tuple #[.agg #[.bool (binF (· + ·) a b).1.1, .string (binF (· + ·) a b).1.2], .int .i64 (binF (· + ·) a b).2]) ∧ Below w.heap.size w w') :=
  Lib.hid fun w => (add_w a.1 a.2 b.1 b.2 h1 h2 w).mono fun e w' h => bin_of h
theorem sub_f (a b : Bool × ByteArray) (h1 : a.2.size ≤ 15000) (h2 : b.2.size ≤ 15000) : Hid (∀ w, Calls Tryd.prog 29 #[.agg #[.bool a.1, .string a.2], .agg #[.bool b.1, .string b.2]] w fun e w' => e = .returned (.tuple #[.agg #[.bool (binF (· - ·) a b).1.1, .string (binF (· - ·) a b).1.2], .int .i64 (binF (· - ·) a b).2]) ∧ Below w.heap.size w w') :=
  Lib.hid fun w => (sub_w a.1 a.2 b.1 b.2 h1 h2 w).mono fun e w' h => bin_of h
theorem mul_f (a b : Bool × ByteArray) (h1 : a.2.size ≤ 15000) (h2 : b.2.size ≤ 15000) : Hid (∀ w, Calls Tryd.prog 28 #[.agg #[.bool a.1, .string a.2], .agg #[.bool b.1, .string b.2]] w fun e w' => e = .returned (.tuple #[.agg #[.bool (binF (· * ·) a b).1.1, .string (binF (· * ·) a b).1.2], .int .i64 (binF (· * ·) a b).2]) ∧ Below w.heap.size w w') :=
  Lib.hid fun w => (mul_w a.1 a.2 b.1 b.2 h1 h2 w).mono fun e w' h => bin_of h
theorem binF_add_size {a b : Bool × ByteArray} {k m : Nat} (ha : a.2.size ≤ k) (hb : b.2.size ≤ k) (hm : k + 1 ≤ m) : (binF (· + ·) a b).1.2.size ≤ m := binF_size (add_bd (ival_bd ha) (ival_bd hb) hm)
theorem binF_sub_size {a b : Bool × ByteArray} {k m : Nat} (ha : a.2.size ≤ k) (hb : b.2.size ≤ k) (hm : k + 1 ≤ m) : (binF (· - ·) a b).1.2.size ≤ m := binF_size (sub_bd (ival_bd ha) (ival_bd hb) hm)
theorem binF_mul_size {a b : Bool × ByteArray} {k l m : Nat} (ha : a.2.size ≤ k) (hb : b.2.size ≤ l) (hm : k + l ≤ m) : (binF (· * ·) a b).1.2.size ≤ m := binF_size (mul_bd (ival_bd ha) (ival_bd hb) hm)
theorem small_f (a b : Bool × ByteArray) (x : Bool) (h : (decide (a.2.size ≤ 400) && decide (b.2.size ≤ 400)) = x) : Hid (∀ w, Calls Tryd.prog 10 #[.agg #[.bool a.1, .string a.2], .agg #[.bool b.1, .string b.2]] w fun e w' => e = .returned (.bool x) ∧ Below w.heap.size w w') :=
  Lib.hid fun w => h ▸ small_c a.1 a.2 b.1 b.2 w

/-- What Cmp tells. -/
def cmpF (a b : Bool × ByteArray) : Int × Int := if bad2 a.1 a.2 b.1 b.2 = 0 then (cmpI (ival a.1 a.2) (ival b.1 b.2), 0) else (0, bad2 a.1 a.2 b.1 b.2)

theorem cmp_f (a b : Bool × ByteArray) : Hid (∀ w, Calls Tryd.prog 30 #[.agg #[.bool a.1, .string a.2], .agg #[.bool b.1, .string b.2]] w fun e w' => e = .returned (.tuple #[.int .i64 (cmpF a b).1, .int .i64 (cmpF a b).2]) ∧ Below w.heap.size w w') :=
  Lib.hid fun w => (cmp_w a.1 a.2 b.1 b.2 w).mono fun e w' h => by
    refine ⟨?_, h.2.2⟩
    unfold cmpF
    split
    · rename_i h0; exact h.2.1 h0
    · rename_i h0; exact h.1 h0
theorem cmpF_err {a b : Bool × ByteArray} : (cmpF a b).2 = bad2 a.1 a.2 b.1 b.2 := by
  unfold cmpF
  split
  · rename_i h; exact h.symm
  · rfl
theorem cmpF_ok {a b : Bool × ByteArray} (h : bad2 a.1 a.2 b.1 b.2 = 0) : cmpF a b = (cmpI (ival a.1 a.2) (ival b.1 b.2), 0) := if_pos h
end Go.Proofs.YtimpimnaknkgpaaDoor
