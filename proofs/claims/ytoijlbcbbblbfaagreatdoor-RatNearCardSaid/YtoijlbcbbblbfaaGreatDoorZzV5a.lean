import Derived.Test.YtoijlbcbbblbfaaGreatDoorZzV4s
import Derived.Test.YtoijlbcbbblbfaaGreatDoorZzG8x0
import Derived.Test.YtoijlbcbbblbfaaGreatDoorZzG0x0
namespace Go.Proofs.YtoijlbcbbblbfaaGreatDoor
open Go.RowKit Num Go.Proofs.YtoijlbcbbblbfaaGreatDoorH.R Go.Proofs.YtoijlbcbbblbfaaGreatDoorW.PrintWords
set_option linter.unusedVariables false
set_option linter.unusedSimpArgs false

def smallB (a : RG) : Bool := decide (a.2.1.size ≤ 120) && decide (a.2.2.size ≤ 120)
theorem small_p (a : RG) : gussetlaw03_small.f a.1 a.2.1 a.2.2 = some (smallB a) := by
 unfold gussetlaw03_small.f smallB
 by_cases h : a.2.1.size ≤ 120
 ·rw [if_pos (by omega), decide_eq_true h, Bool.true_and]
  congr 1
  by_cases h2 : a.2.2.size ≤ 120
  ·rw [decide_eq_true h2, decide_eq_true (by omega)]
  ·rw [decide_eq_false h2, decide_eq_false (by omega)]
 ·rw [if_neg (by omega), decide_eq_false h, Bool.false_and]
theorem smallB_t {a : RG} (h : smallB a = true) : a.2.1.size ≤ 120 ∧ a.2.2.size ≤ 120 := by
 unfold smallB at h
 simpa using h
/-! ### Products -/
theorem lowv_p (k : Nat) (n d : Int) (hn : (pv n).2.size ≤ 15000) (hd : (pv d).2.size ≤ 15000) (h0 : d ≠ 0) : rat_lowest.f (k + 1) (pv n).1 (pv n).2 (pv d).1 (pv d).2 = some (pq (Rat.divInt n d)) := by
 have := low_p k (pv n) (pv d) (okI_pv (by omega)) (okI_pv (by omega)) hn hd (by rw [ival_pv]; exact h0)
 rw [ival_pv, ival_pv] at this
 exact this
theorem muls (a0 : Bool) (a1 : ByteArray) (b0 : Bool) (b1 : ByteArray) (ha : okI a0 a1) (hb : okI b0 b1) (h1 : a1.size ≤ 15000) (h2 : b1.size ≤ 15000) : rat_do_of_whole_Mul.f a0 a1 b0 b1 = some (pv (ival a0 a1 * ival b0 b1)) := mulS (a := (a0, a1)) (b := (b0, b1)) ha hb h1 h2
theorem szmul {x y : Int} {k l m : Nat} (hx : (x.natAbs : Int) < 256 ^ k) (hy : (y.natAbs : Int) < 256 ^ l) (hm : k + l ≤ m) : (pv (x * y)).2.size ≤ m := size_pv (mul_bd hx hy hm)
theorem mul_p (k : Nat) (a b : RG) (ha : okR a) (hb : okR b) (h1 : a.2.1.size ≤ 4000) (h2 : a.2.2.size ≤ 4000) (h3 : b.2.1.size ≤ 4000) (h4 : b.2.2.size ≤ 4000) :
  rat_Mul.f (k + 2) a.1 a.2.1 a.2.2 b.1 b.2.1 b.2.2 = some ((pq (rq a * rq b)).1, (pq (rq a * rq b)).2.1, (pq (rq a * rq b)).2.2, 0) := by
 unfold rat_Mul.f
 have e1 : rat_den.f a.1 a.2.1 a.2.2 = some (false, a.2.2) := rfl
 have e2 : rat_den.f b.1 b.2.1 b.2.2 = some (false, b.2.2) := rfl
 rw [both_p k a b (by omega) (by omega) (by omega) (by omega), Option.bind_some, if_pos (badR_ok.2 ⟨ha, hb⟩), muls _ _ _ _ ha.kn hb.kn (by omega) (by omega), Option.bind_some, e1, Option.bind_some, e2, Option.bind_some, muls _ _ _ _ ha.kd hb.kd (by omega) (by omega), Option.bind_some]
 have hp : ival false a.2.2 * ival false b.2.2 ≠ 0 := by
  have := Int.mul_pos ha.dp hb.dp
  have e : ival false a.2.2 * ival false b.2.2 = rden a * rden b := rfl
  omega
 rw [lowv_p (k + 1) _ _ (szmul (k := 4000) (l := 4000) (ival_bd h1) (ival_bd h3) (by omega)) (szmul (k := 4000) (l := 4000) (ival_bd h2) (ival_bd h4) (by omega)) hp, Option.bind_some]
 have e : Rat.divInt (ival a.1 a.2.1 * ival b.1 b.2.1) (ival false a.2.2 * ival false b.2.2) = rq a * rq b := q_mul
 rw [e]
theorem div_p (k : Nat) (a b : RG) (ha : okR a) (hb : okR b) (h1 : a.2.1.size ≤ 4000) (h2 : a.2.2.size ≤ 4000) (h3 : b.2.1.size ≤ 4000) (h4 : b.2.2.size ≤ 4000) :
  rat_Div.f (k + 2) a.1 a.2.1 a.2.2 b.1 b.2.1 b.2.2 = some (if b.2.1.size = 0 then (false, ⟨#[]⟩, ⟨#[]⟩, 3) else ((pq (rq a / rq b)).1, (pq (rq a / rq b)).2.1, (pq (rq a / rq b)).2.2, 0)) := by
 unfold rat_Div.f
 have e1 : rat_den.f a.1 a.2.1 a.2.2 = some (false, a.2.2) := rfl
 have e2 : rat_den.f b.1 b.2.1 b.2.2 = some (false, b.2.2) := rfl
 rw [both_p k a b (by omega) (by omega) (by omega) (by omega), Option.bind_some, if_pos (badR_ok.2 ⟨ha, hb⟩)]
 by_cases hz : b.2.1.size = 0
 ·rw [if_pos (tl_nil.2 hz), if_pos hz]
 ·rw [if_neg (fun hc => hz (tl_nil.1 hc)), if_neg hz, e2, Option.bind_some, muls _ _ _ _ ha.kn hb.kd (by omega) (by omega), Option.bind_some, e1, Option.bind_some, muls _ _ _ _ ha.kd hb.kn (by omega) (by omega), Option.bind_some]
  have hp : ival false a.2.2 * ival b.1 b.2.1 ≠ 0 := by
   have h5 := ha.dp
   have h6 := ival_nz hb.kn hz
   have e : ival false a.2.2 = rden a := rfl
   rw [e]
   intro hc
   rcases Int.mul_eq_zero.1 hc with h | h
   ·omega
   ·exact h6 h
  rw [lowv_p (k + 1) _ _ (szmul (k := 4000) (l := 4000) (ival_bd h1) (ival_bd h4) (by omega)) (szmul (k := 4000) (l := 4000) (ival_bd h2) (ival_bd h3) (by omega)) hp, Option.bind_some]
  have e : Rat.divInt (ival a.1 a.2.1 * ival false b.2.2) (ival false a.2.2 * ival b.1 b.2.1) = rq a / rq b := q_div
  rw [e]
theorem q_int (n : Int) : pq (Rat.divInt n 1) = ((pv n).1, (pv n).2, ⟨#[1]⟩) := by
 have hn := low_num (n := n) (d := 1) (by decide)
 have hd := low_den (n := n) (d := 1) (by decide)
 rw [Int.gcd_one_right] at hn hd
 have e1 : n / ((1 : Nat) : Int) = n := Int.ediv_one n
 have e2 : (1 : Int) / ((1 : Nat) : Int) = 1 := Int.ediv_one 1
 rw [e1] at hn
 rw [e2] at hd
 unfold pq
 rw [hn, hd, pv_1]
theorem rden_one {a : RG} (h : a.2.2.toList = ([1] : List UInt8)) : rden a = 1 := by
 unfold rden
 rw [tl_iff.1 h]
 exact nv_1
end Go.Proofs.YtoijlbcbbblbfaaGreatDoor
