import Derived.Lib.Hide
namespace Go.Proofs.YtoijlbcbbblbfaaGreatDoor.Num
set_option linter.unusedVariables false
set_option linter.unusedSimpArgs false

/-- The lowest m decimal digits of a number, as bytes' values, the lowest first. -/
def ds (v : Nat) : Nat → List Int
 | 0 => []
 | m + 1 => ds v m ++ [((48 + v / 10 ^ m % 10 : Nat) : Int)]
theorem ds_len (v : Nat) : ∀ m, (ds v m).length = m
 | 0 => rfl
 | m + 1 => by simp [ds, ds_len v m]
theorem dig_part (v m j : Nat) (hj : j < 18) : (v / 10 ^ m % 1000000000000000000) / 10 ^ j % 10 = v / 10 ^ (m + j) % 10 := by
 rw [Nat.pow_add, ← Nat.div_div_eq_div_mul]
 generalize v / 10 ^ m = x
 have h : (1000000000000000000 : Nat) = 10 ^ j * 10 ^ (18 - j) := by rw [← Nat.pow_add, show j + (18 - j) = 18 by omega]
 rw [h, Nat.mod_mul_right_div_self, Nat.mod_mod_of_dvd]
 exact Nat.dvd_trans (by decide : 10 ∣ 10 ^ 1) (Nat.pow_dvd_pow 10 (by omega))
theorem ds_join (v m : Nat) : ∀ j, j ≤ 18 → ds v m ++ ds (v / 10 ^ m % 1000000000000000000) j = ds v (m + j)
 | 0, _ => by simp [ds]
 | j + 1, h => by
  rw [show m + (j + 1) = (m + j) + 1 from rfl]
  simp only [ds]
  rw [← List.append_assoc, ds_join v m j (by omega), dig_part v m j (by omega)]
/-- The decimal digits of a number, the highest first; none for 0. -/
def dec (v : Nat) : List UInt8 := if _h : v = 0 then [] else dec (v / 10) ++ [UInt8.ofNat (48 + v % 10)]
theorem dec_zero : dec 0 = [] := by unfold dec; simp
theorem dec_pos {v : Nat} (h : 0 < v) : dec v = dec (v / 10) ++ [UInt8.ofNat (48 + v % 10)] := by
 rw [dec, dif_neg (by omega)]
theorem dec_ne {v : Nat} (h : 0 < v) : dec v ≠ [] := by rw [dec_pos h]; simp
theorem ds_shift (v : Nat) : ∀ m, ds v (m + 1) = ((48 + v % 10 : Nat) : Int) :: ds (v / 10) m
 | 0 => by simp [ds]
 | m + 1 => by
  rw [show ds v (m + 1 + 1) = ds v (m + 1) ++ [((48 + v / 10 ^ (m + 1) % 10 : Nat) : Int)] from rfl, ds_shift v m, List.cons_append]
  congr 1
  rw [show ds (v / 10) (m + 1) = ds (v / 10) m ++ [((48 + v / 10 / 10 ^ m % 10 : Nat) : Int)] from rfl, Nat.div_div_eq_div_mul, Nat.pow_succ, Nat.mul_comm]
def bys' (l : List Int) : List UInt8 := l.map fun n => UInt8.ofNat n.toNat
theorem dw_app {α : Type} (p : α → Bool) : ∀ (a b : List α), (a ++ b).dropWhile p = if a.dropWhile p = [] then b.dropWhile p else a.dropWhile p ++ b
 | [], b => by simp
 | x :: a, b => by
  rw [List.cons_append, List.dropWhile_cons, List.dropWhile_cons]
  cases h : p x with
  | true => simpa [h] using dw_app p a b
  | false => simp [h]
theorem dec_ds : ∀ (m v : Nat), v < 10 ^ m → (bys' (ds v m).reverse).dropWhile (· == 48) = dec v
 | 0, v, h => by
  have : v = 0 := by simpa using h
  subst this
  simp [ds, bys', dec_zero]
 | m + 1, v, h => by
  have ih := dec_ds m (v / 10) (Nat.div_lt_of_lt_mul (by rw [Nat.pow_succ, Nat.mul_comm] at h; exact h))
  rw [ds_shift, List.reverse_cons]
  have e : bys' ((ds (v / 10) m).reverse ++ [((48 + v % 10 : Nat) : Int)]) = bys' (ds (v / 10) m).reverse ++ [UInt8.ofNat (48 + v % 10)] := by
   unfold bys'
   rw [List.map_append]
   rfl
  rw [e, dw_app, ih]
  by_cases hv : v = 0
  ·subst hv
   simp [dec_zero]
  ·rw [dec_pos (v := v) (by omega)]
   by_cases h2 : v / 10 = 0
   ·rw [h2, dec_zero, if_pos rfl]
    have hb : ∀ d : Nat, d < 10 → 0 < d → (UInt8.ofNat (48 + d) == 48) = false := by decide
    rw [List.dropWhile_cons, hb (v % 10) (by omega) (by omega)]
    simp
   ·rw [if_neg (dec_ne (v := v / 10) (by omega))]
end Go.Proofs.YtoijlbcbbblbfaaGreatDoor.Num
