import Derived.Test.YtoijlbcbbblbfaaGreatDoorZzV5a
namespace Go.Proofs.YtoijlbcbbblbfaaGreatDoor
open Go.RowKit Num Go.Proofs.YtoijlbcbbblbfaaGreatDoorH.R Go.Proofs.YtoijlbcbbblbfaaGreatDoorW.PrintWords
set_option linter.unusedVariables false
set_option linter.unusedSimpArgs false

/-! ### Order of rational numbers -/
theorem cmpQ_sub (p q : Rat) : cmpQ (p - q) 0 = cmpQ p q := by
 unfold cmpQ
 have h1 : p - q < 0 ↔ p < q := by rw [Rat.sub_lt_iff, Rat.zero_add]
 have h2 : 0 < p - q ↔ q < p := (Rat.lt_iff_sub_pos q p).symm
 simp only [h1, h2]
theorem cmpQ_mul (p q k : Rat) : cmpQ (p * k) (q * k) = cmpQ p q * cmpQ k 0 := by
 have neg : ∀ x y z : Rat, z < 0 → (x * z < y * z ↔ y < x) := by
  intro x y z hz
  have hz2 : 0 < -z := by
   have := (Rat.lt_iff_sub_pos z 0).1 hz
   rwa [Rat.sub_eq_add_neg, Rat.zero_add] at this
  have := Rat.mul_lt_mul_right (a := y) (b := x) hz2
  rw [← this, Rat.lt_iff_sub_pos, Rat.lt_iff_sub_pos (y * -z)]
  have e : y * z - x * z = x * -z - y * -z := by rw [Rat.mul_neg, Rat.mul_neg]; grind
  rw [e]
 by_cases h1 : k < 0
 ·have e : cmpQ k 0 = -1 := if_pos h1
  rw [e]
  unfold cmpQ
  have a1 := neg p q k h1
  have a2 := neg q p k h1
  by_cases b1 : p < q
  ·have b2 : ¬ q < p := Rat.not_lt.2 (Rat.le_of_lt b1)
   simp only [a1, a2, b1, b2, if_true, if_false]
   decide
  ·by_cases b2 : q < p
   ·simp only [a1, a2, b1, b2, if_true, if_false]
    decide
   ·simp only [a1, a2, b1, b2, if_true, if_false]
    decide
 ·by_cases h2 : 0 < k
  ·have e : cmpQ k 0 = 1 := by unfold cmpQ; rw [if_neg h1, if_pos h2]
   rw [e, Int.mul_one]
   unfold cmpQ
   simp only [Rat.mul_lt_mul_right h2]
  ·have e0 : k = 0 := Rat.le_antisymm (Rat.not_lt.1 h2) (Rat.not_lt.1 h1)
   have e : cmpQ k 0 = 0 := by unfold cmpQ; rw [if_neg h1, if_neg h2]
   rw [e, Int.mul_zero, e0, Rat.mul_zero, Rat.mul_zero]
   unfold cmpQ
   rw [if_neg Rat.lt_irrefl, if_neg Rat.lt_irrefl]
theorem cmpQ_bd (p q : Rat) : -1 ≤ cmpQ p q ∧ cmpQ p q ≤ 1 := by
 unfold cmpQ
 split
 ·omega
 ·split <;> omega
theorem cmpQ_wrap (p q r s : Rat) : wrap64 (cmpQ p q * cmpQ r s) = cmpQ p q * cmpQ r s := by
 have h1 : cmpQ p q = -1 ∨ cmpQ p q = 0 ∨ cmpQ p q = 1 := by have := cmpQ_bd p q; omega
 have h2 : cmpQ r s = -1 ∨ cmpQ r s = 0 ∨ cmpQ r s = 1 := by have := cmpQ_bd r s; omega
 rcases h1 with h1 | h1 | h1 <;> rcases h2 with h2 | h2 | h2 <;> rw [h1, h2] <;> (unfold wrap64; omega)
theorem sgn_q {a : RG} (h : okR a) : cmpQ (rq a) 0 = (if a.1 = true then -1 else if a.2.1.size = 0 then 0 else 1) := by
 have hq := h.q.1
 have e1 : rq a < 0 ↔ rnum a < 0 := by rw [← hq, ← Rat.not_le, ← Rat.num_nonneg]; omega
 have e2 : 0 < rq a ↔ 0 < rnum a := by rw [← hq, Rat.lt_iff]; simp
 unfold cmpQ
 simp only [e1, e2]
 have hk := h.kn
 have hr : rnum a = ival a.1 a.2.1 := rfl
 rw [hr]
 by_cases hz : a.2.1.size = 0
 ·have hn : ¬ a.1 = true := fun hc => by have := hk.2.2 hc; omega
  have e : a.2.1 = ⟨#[]⟩ := ba_nil hz
  have hv : ival a.1 a.2.1 = 0 := by unfold ival sgn; rw [if_neg hn, e]; rfl
  rw [hv, if_neg (by omega), if_neg (by omega), if_neg hn, if_pos hz]
 ·have hp : 0 < nv a.2.1 := nv_pos hk.2.1 (Nat.pos_of_ne_zero hz)
  by_cases hn : a.1 = true
  ·have hv : ival a.1 a.2.1 = - nv a.2.1 := by unfold ival sgn; rw [if_pos hn]
   rw [hv, if_pos (by omega), if_pos hn]
  ·have hv : ival a.1 a.2.1 = nv a.2.1 := by unfold ival sgn; rw [if_neg hn]
   rw [hv, if_neg (by omega), if_pos (by omega), if_neg hn, if_neg hz]
/-! ### Sizes -/
theorem addsz {a b : RG} (ha : okR a) (hb : okR b) {k : Nat} (h1 : a.2.1.size ≤ k) (h2 : a.2.2.size ≤ k) (h3 : b.2.1.size ≤ k) (h4 : b.2.2.size ≤ k) :
  (pq (rq a + rq b)).2.1.size ≤ k + k + 1 ∧ (pq (rq a + rq b)).2.2.size ≤ k + k := by
 rw [← q_add ha hb]
 have d1 : rden b = ival false b.2.2 := rfl
 have d2 : rden a = ival false a.2.2 := rfl
 have hp := Int.mul_pos ha.dp hb.dp
 refine low_size hp (add_bd (k := k + k) (mul_bd (k := k) (l := k) (ival_bd h1) (ival_bd (n := false) h4) (Nat.le_refl _)) (mul_bd (k := k) (l := k) (ival_bd h3) (ival_bd (n := false) h2) (Nat.le_refl _)) (Nat.le_refl _)) ?_
 have := mul_bd (k := k) (l := k) (m := k + k) (ival_bd (n := false) h2) (ival_bd (n := false) h4) (Nat.le_refl _)
 rw [← d1, ← d2] at this
 omega
theorem subsz {a b : RG} (ha : okR a) (hb : okR b) {k : Nat} (h1 : a.2.1.size ≤ k) (h2 : a.2.2.size ≤ k) (h3 : b.2.1.size ≤ k) (h4 : b.2.2.size ≤ k) :
  (pq (rq a - rq b)).2.1.size ≤ k + k + 1 ∧ (pq (rq a - rq b)).2.2.size ≤ k + k := by
 rw [← q_sub ha hb]
 have d1 : rden b = ival false b.2.2 := rfl
 have d2 : rden a = ival false a.2.2 := rfl
 have hp := Int.mul_pos ha.dp hb.dp
 refine low_size hp (sub_bd (k := k + k) (mul_bd (k := k) (l := k) (ival_bd h1) (ival_bd (n := false) h4) (Nat.le_refl _)) (mul_bd (k := k) (l := k) (ival_bd h3) (ival_bd (n := false) h2) (Nat.le_refl _)) (Nat.le_refl _)) ?_
 have := mul_bd (k := k) (l := k) (m := k + k) (ival_bd (n := false) h2) (ival_bd (n := false) h4) (Nat.le_refl _)
 rw [← d1, ← d2] at this
 omega
theorem mulsz {a b : RG} (ha : okR a) (hb : okR b) {k : Nat} {l : Nat} (h1 : a.2.1.size ≤ k) (h2 : a.2.2.size ≤ k) (h3 : b.2.1.size ≤ l) (h4 : b.2.2.size ≤ l) :
  (pq (rq a * rq b)).2.1.size ≤ k + l ∧ (pq (rq a * rq b)).2.2.size ≤ k + l := by
 rw [← q_mul]
 have d1 : rden b = ival false b.2.2 := rfl
 have d2 : rden a = ival false a.2.2 := rfl
 have hp := Int.mul_pos ha.dp hb.dp
 refine low_size hp (mul_bd (k := k) (l := l) (ival_bd h1) (ival_bd h3) (Nat.le_refl _)) ?_
 have := mul_bd (k := k) (l := l) (m := k + l) (ival_bd (n := false) h2) (ival_bd (n := false) h4) (Nat.le_refl _)
 rw [← d1, ← d2] at this
 omega
end Go.Proofs.YtoijlbcbbblbfaaGreatDoor
