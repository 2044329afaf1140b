import Derived.Test.YtimpimnaknkgpaaDoorL2
namespace Go.Proofs.YtimpimnaknkgpaaDoor
open Go.RowKit Num
set_option linter.unusedVariables false
set_option linter.unusedSimpArgs false

theorem add_f (a b : Bool × ByteArray) (h1 : a.2.size ≤ 15000) (h2 : b.2.size ≤ 15000) : Hid (∀ w, Calls Tryd.prog 27 #[.agg #[.bool a.1, .string a.2], .agg #[.bool b.1, .string b.2]] w fun e w' => e = .returned (.tuple #[.agg #[.bool (binF (· + ·) a b).1.1, .string (binF (· + ·) a b).1.2], .int .i64 (binF (· + ·) a b).2]) ∧ Below w.heap.size w w') :=
  Lib.hid fun w => (add_w a.1 a.2 b.1 b.2 h1 h2 w).mono fun e w' h => bin_of h
theorem sub_f (a b : Bool × ByteArray) (h1 : a.2.size ≤ 15000) (h2 : b.2.size ≤ 15000) : Hid (∀ w, Calls Tryd.prog 29 #[.agg #[.bool a.1, .string a.2], .agg #[.bool b.1, .string b.2]] w fun e w' => e = .returned (.tuple #[.agg #[.bool (binF (· - ·) a b).1.1, .string (binF (· - ·) a b).1.2], .int .i64 (binF (· - ·) a b).2]) ∧ Below w.heap.size w w') :=
  Lib.hid fun w => (sub_w a.1 a.2 b.1 b.2 h1 h2 w).mono fun e w' h => bin_of h
theorem mul_f (a b : Bool × ByteArray) (h1 : a.2.size ≤ 15000) (h2 : b.2.size ≤ 15000) : Hid (∀ w, Calls Tryd.prog 28 #[.agg #[.bool a.1, .string a.2], .agg #[.bool b.1, .string b.2]] w fun e w' => e = .returned (.tuple #[.agg #[.bool (binF (· * ·) a b).1.1, .string (binF (· * ·) a b).1.2], .int .i64 (binF (· * ·) a b).2]) ∧ Below w.heap.size w w') :=
  Lib.hid fun w => (mul_w a.1 a.2 b.1 b.2 h1 h2 w).mono fun e w' h => bin_of h
theorem binF_add_size {a b : Bool × ByteArray} {k m : Nat} (ha : a.2.size ≤ k) (hb : b.2.size ≤ k) (hm : k + 1 ≤ m) : (binF (· + ·) a b).1.2.size ≤ m := binF_size (add_bd (ival_bd ha) (ival_bd hb) hm)
theorem binF_sub_size {a b : Bool × ByteArray} {k m : Nat} (ha : a.2.size ≤ k) (hb : b.2.size ≤ k) (hm : k + 1 ≤ m) : (binF (· - ·) a b).1.2.size ≤ m := binF_size (sub_bd (ival_bd ha) (ival_bd hb) hm)
theorem binF_mul_size {a b : Bool × ByteArray} {k l m : Nat} (ha : a.2.size ≤ k) (hb : b.2.size ≤ l) (hm : k + l ≤ m) : (binF (· * ·) a b).1.2.size ≤ m := binF_size (mul_bd (ival_bd ha) (ival_bd hb) hm)
theorem small_f (a b : Bool × ByteArray) (x : Bool) (h : (decide (a.2.size ≤ 400) && decide (b.2.size ≤ 400)) = x) : Hid (∀ w, Calls Tryd.prog 10 #[.agg #[.bool a.1, .string a.2], .agg #[.bool b.1, .string b.2]] w fun e w' => e = .returned (.bool x) ∧ Below w.heap.size w w') :=
  Lib.hid fun w => h ▸ small_c a.1 a.2 b.1 b.2 w

theorem ring_law {a b c : Bool × ByteArray} (h1 : (binF (· + ·) a b).2 = 0) (h2 : (binF (· * ·) (binF (· + ·) a b).1 c).2 = 0) (h3 : (binF (· * ·) a c).2 = 0) (h4 : (binF (· * ·) b c).2 = 0)
    (h5 : (binF (· + ·) (binF (· * ·) a c).1 (binF (· * ·) b c).1).2 = 0) (h6 : (binF (· - ·) (binF (· + ·) a b).1 b).2 = 0) :
    binF (· + ·) (binF (· * ·) a c).1 (binF (· * ·) b c).1 = ((binF (· * ·) (binF (· + ·) a b).1 c).1, 0) ∧ binF (· - ·) (binF (· + ·) a b).1 b = (a, 0) := by
  rw [binF_err] at h1 h2 h3 h4 h5 h6
  have e1 := binF_ok (f := (· + ·)) h1
  have e3 := binF_ok (f := (· * ·)) h3
  have e4 := binF_ok (f := (· * ·)) h4
  have e2 := binF_ok (f := (· * ·)) h2
  have e5 := binF_ok (f := (· + ·)) h5
  have e6 := binF_ok (f := (· - ·)) h6
  rw [e1] at e2 e6 ⊢
  rw [e3, e4] at e5 ⊢
  simp only [ival_pv] at e2 e5 e6
  refine ⟨?_, ?_⟩
  · rw [e5, e2, Int.add_mul]
  · rw [e6, Int.add_sub_cancel, pv_ival (bad2_ok.1 h1).1]

theorem ring_c (a b c : Bool × ByteArray) (w : World) :
    Calls Tryd.prog 7 #[.agg #[.bool a.1, .string a.2], .agg #[.bool b.1, .string b.2], .agg #[.bool c.1, .string c.2]] w fun e w' => e = .returned (.bool true) ∧ Below w.heap.size w w' := by
  cases hs : (decide (a.2.size ≤ 400) && decide (b.2.size ≤ 400)) with
  | false => exact ring_big _ _ _ _ _ _ (small_f a b false hs) w
  | true =>
    have HS := small_f a b true hs
    simp only [Bool.and_eq_true, decide_eq_true_eq] at hs
    obtain ⟨ha, hb⟩ := hs
    by_cases hc : 400 < c.2.size
    · exact ring_big2 _ _ _ _ _ _ HS (decide_eq_true (by omega)) w
    · have hc' : c.2.size ≤ 400 := by omega
      have hcd : decide ((400 : Int) < (c.2.size : Int)) = false := decide_eq_false (by omega)
      have zs := binF_add_size (m := 401) ha hb (by omega)
      have zq := binF_mul_size (m := 800) ha hc' (by omega)
      have zr := binF_mul_size (m := 800) hb hc' (by omega)
      have H1 := add_f a b (by omega) (by omega)
      have H2 := mul_f (binF (· + ·) a b).1 c (by omega) (by omega)
      have H3 := mul_f a c (by omega) (by omega)
      have H4 := mul_f b c (by omega) (by omega)
      have H5 := add_f (binF (· * ·) a c).1 (binF (· * ·) b c).1 (by omega) (by omega)
      have H6 := sub_f (binF (· + ·) a b).1 b (by omega) (by omega)
      by_cases hz : (binF (· + ·) a b).2 = 0 ∧ (binF (· * ·) (binF (· + ·) a b).1 c).2 = 0 ∧ (binF (· * ·) a c).2 = 0 ∧ (binF (· * ·) b c).2 = 0 ∧ (binF (· + ·) (binF (· * ·) a c).1 (binF (· * ·) b c).1).2 = 0 ∧ (binF (· - ·) (binF (· + ·) a b).1 b).2 = 0
      · obtain ⟨z1, z2, z3, z4, z5, z6⟩ := hz
        obtain ⟨e5, e6⟩ := ring_law z1 z2 z3 z4 z5 z6
        rw [e5] at H5
        rw [e6] at H6
        rw [z1] at H1
        rw [z2] at H2
        rw [z3] at H3
        rw [z4] at H4
        exact ring_ok _ _ _ _ _ _ HS hcd _ _ _ _ _ _ _ _ H1 H2 H3 H4 H5 H6 w
      · exact ring_err _ _ _ _ _ _ HS hcd _ _ _ _ _ _ _ _ _ _ _ _ _ _ _ _ _ _ H1 H2 H3 H4 H5 H6 hz w
#print axioms ring_c
end Go.Proofs.YtimpimnaknkgpaaDoor
