import Derived.Test.YtoijlbcbbblbfaaGreatDoorY2R4
import Derived.Test.YtoijlbcbbblbfaaGreatDoorY2Zc
namespace Go.Proofs.YtoijlbcbbblbfaaGreatDoor
open Go.RowKit Num
set_option linter.unusedVariables false
set_option linter.unusedSimpArgs false

/-- A whole number's sign and magnitude. -/
def pv (v : Int) : Bool × ByteArray := (decide (v < 0), encN (v.natAbs : Int))
def ag (x : Bool × ByteArray) : Value := .agg #[.bool x.1, .string x.2]
theorem putV_pv (v : Int) : putV v = ag (pv v) := rfl
theorem nb_le {v : Int} {k : Nat} (h : v < 256 ^ k) (h0 : 0 ≤ v) : nb v ≤ k := by
 rcases (show v = 0 ∨ 0 < v by omega) with h1 | h1
 ·rw [h1, nb_zero]; exact Nat.zero_le _
 ·obtain ⟨h2, h3, h4⟩ := nb_spec h1
  refine Nat.le_of_not_lt fun h5 => ?_
  have := Ymono (show k ≤ nb v - 1 by omega)
  omega
theorem size_pv {v : Int} {k : Nat} (h : (v.natAbs : Int) < 256 ^ k) : (pv v).2.size ≤ k := by
 show (encN _).size ≤ k
 rw [encN_size]
 exact nb_le h (by omega)
theorem ival_pv (v : Int) : ival (pv v).1 (pv v).2 = v := by
 unfold ival pv sgn
 rw [nv_encN (by omega)]
 by_cases h : v < 0
 ·rw [if_pos (by simpa using h)]; omega
 ·rw [if_neg (by simpa using h)]; omega
theorem okI_pv {v : Int} (h : (pv v).2.size ≤ 32000) : okI (pv v).1 (pv v).2 := by
 refine ⟨h, canon_encN _ (by omega), fun hn => ?_⟩
 have hn : v < 0 := by simpa [pv] using hn
 show 0 < (encN _).size
 rw [encN_size]
 have := (nb_spec (v := (v.natAbs : Int)) (by omega)).2.2
 omega
theorem pv_ival {n : Bool} {s : ByteArray} (h : okI n s) : pv (ival n s) = (n, s) := by
 have h0 := (nv_bd s).1
 unfold pv ival
 have e : ((sgn n (nv s)).natAbs : Int) = nv s := sgn_abs h0
 rw [e, encN_nv h.2.1]
 cases n with
 | false => simp [sgn]; omega
 | true =>
  have h1 := h.2.2 rfl
  have h2 : nv s ≠ 0 := by
   intro hz
   have := size_of_canon h.2.1
   rw [hz, nb_zero] at this
   omega
  simp [sgn]
  omega
theorem pv_inj {a b : Int} (h : pv a = pv b) : a = b := by rw [← ival_pv a, h, ival_pv]
theorem bad_pv {a b : Int} (ha : (pv a).2.size ≤ 32000) (hb : (pv b).2.size ≤ 32000) : bad2 (pv a).1 (pv a).2 (pv b).1 (pv b).2 = 0 := bad2_ok.2 ⟨okI_pv ha, okI_pv hb⟩
theorem small_pv {v : Int} (h : (v.natAbs : Int) < 256) : (pv v).2.size ≤ 1 := size_pv (by simpa using h)

/-- What Add, Sub and Mul tell. -/
def binF (f : Int → Int → Int) (a b : Bool × ByteArray) : (Bool × ByteArray) × Int := if bad2 a.1 a.2 b.1 b.2 = 0 then (pv (f (ival a.1 a.2) (ival b.1 b.2)), 0) else ((false, ⟨#[]⟩), bad2 a.1 a.2 b.1 b.2)
theorem binF_ok {f : Int → Int → Int} {a b : Bool × ByteArray} (h : bad2 a.1 a.2 b.1 b.2 = 0) : binF f a b = (pv (f (ival a.1 a.2) (ival b.1 b.2)), 0) := if_pos h
theorem binF_err {f : Int → Int → Int} {a b : Bool × ByteArray} : (binF f a b).2 = bad2 a.1 a.2 b.1 b.2 := by
 unfold binF
 split
 ·rename_i h; exact h.symm
 ·rfl
theorem bin_of {f : Int → Int → Int} {a b : Bool × ByteArray} {w : World} {e : Ending} {w' : World} (h : BinP f a.1 a.2 b.1 b.2 w e w') : e = .returned (.tuple #[ag (binF f a b).1, .int .i64 (binF f a b).2]) ∧ Below w.heap.size w w' := by
 refine ⟨?_, h.2.2⟩
 unfold binF
 split
 ·rename_i h0; exact h.2.1 h0
 ·rename_i h0; exact h.1 h0
theorem binF_size {f : Int → Int → Int} {a b : Bool × ByteArray} {k : Nat} (h : ((f (ival a.1 a.2) (ival b.1 b.2)).natAbs : Int) < 256 ^ k) : (binF f a b).1.2.size ≤ k := by
 unfold binF
 split
 ·exact size_pv h
 ·exact Nat.zero_le _
theorem ival_bd {n : Bool} {s : ByteArray} {k : Nat} (h : s.size ≤ k) : ((ival n s).natAbs : Int) < 256 ^ k := by
 have h0 := (nv_bd s).1
 unfold ival
 rw [sgn_abs h0]
 exact size_pow h
theorem add_bd {a b : Int} {k m : Nat} (ha : (a.natAbs : Int) < 256 ^ k) (hb : (b.natAbs : Int) < 256 ^ k) (hm : k + 1 ≤ m) : ((a + b).natAbs : Int) < 256 ^ m := by
 have h3 := Ymono hm
 rw [Ys] at h3
 generalize (256 : Int) ^ m = u at *
 generalize (256 : Int) ^ k = u at *
 omega
theorem sub_bd {a b : Int} {k m : Nat} (ha : (a.natAbs : Int) < 256 ^ k) (hb : (b.natAbs : Int) < 256 ^ k) (hm : k + 1 ≤ m) : ((a - b).natAbs : Int) < 256 ^ m := by
 have h3 := Ymono hm
 rw [Ys] at h3
 generalize (256 : Int) ^ m = u at *
 generalize (256 : Int) ^ k = u at *
 omega
theorem mul_bd {a b : Int} {k l m : Nat} (ha : (a.natAbs : Int) < 256 ^ k) (hb : (b.natAbs : Int) < 256 ^ l) (hm : k + l ≤ m) : ((a * b).natAbs : Int) < 256 ^ m := by
 have h3 := Ymono hm
 rw [Int.pow_add] at h3
 have hp := Yp k
 rw [Int.natAbs_mul, Int.natCast_mul]
 generalize (256 : Int) ^ m = u at *
 generalize (256 : Int) ^ k = y at *
 generalize (256 : Int) ^ l = z at *
 have h5 : (a.natAbs : Int) * (b.natAbs : Int) ≤ (a.natAbs : Int) * z := Int.mul_le_mul_of_nonneg_left (by omega) (by omega)
 have h6 : (a.natAbs : Int) * z < y * z := Int.mul_lt_mul_of_pos_right ha (by omega)
 omega

end Go.Proofs.YtoijlbcbbblbfaaGreatDoor
