import Derived.Test.YtoijlbcbbblbfaaGreatDoorY2V7
import Derived.Test.YtoijlbcbbblbfaaGreatDoorY2G0x3
import Derived.Test.YtoijlbcbbblbfaaGreatDoorY2V3
import Derived.Test.YtoijlbcbbblbfaaGreatDoorY2V5
import Derived.Test.YtoijlbcbbblbfaaGreatDoorY2G0x4
namespace Go.Proofs.YtoijlbcbbblbfaaGreatDoor
open Go.RowKit Num Go.Proofs.YtoijlbcbbblbfaaGreatDoorH.R Go.Proofs.YtoijlbcbbblbfaaGreatDoorW.PrintWords
set_option linter.unusedVariables false
set_option linter.unusedSimpArgs false

/-- rat.over at any whole operation. -/
theorem over_any (F : Bool → ByteArray → Bool → ByteArray → Option (Bool × ByteArray)) (op : Int → Int → Int) (oq : Rat → Rat → Rat)
  (hF : ∀ a0 a1 b0 b1, okI a0 a1 → okI b0 b1 → a1.size ≤ 15000 → b1.size ≤ 15000 → F a0 a1 b0 b1 = some (pv (op (ival a0 a1) (ival b0 b1))))
  (hB : ∀ (x y : Int) (k m : Nat), (x.natAbs : Int) < 256 ^ k → (y.natAbs : Int) < 256 ^ k → k + 1 ≤ m → ((op x y).natAbs : Int) < 256 ^ m)
  (hQ : ∀ a b : RG, okR a → okR b → Rat.divInt (op (rnum a * rden b) (rnum b * rden a)) (rden a * rden b) = oq (rq a) (rq b))
  (k : Nat) (a b : RG) (h1 : a.2.1.size ≤ 4000) (h2 : a.2.2.size ≤ 4000) (h3 : b.2.1.size ≤ 4000) (h4 : b.2.2.size ≤ 4000) :
  ∃ r : RG, rat_over_gen.f F (k + 2) a.1 a.2.1 a.2.2 b.1 b.2.1 b.2.2 = some (r.1, r.2.1, r.2.2, badR a b) ∧ (badR a b = 0 → r = pq (oq (rq a) (rq b))) ∧ (badR a b ≠ 0 → r = nor) := by
 unfold rat_over_gen.f
 rw [both_p k a b (by omega) (by omega) (by omega) (by omega), Option.bind_some]
 by_cases hb0 : badR a b = 0
 ·obtain ⟨ha, hb⟩ := badR_ok.1 hb0
  rw [if_pos hb0, hb0]
  have e1 : rat_den.f a.1 a.2.1 a.2.2 = some (false, a.2.2) := rfl
  have e2 : rat_den.f b.1 b.2.1 b.2.2 = some (false, b.2.2) := rfl
  have key : rat_over_gen.j0 F (k + 1 + 1) false a.1 a.2.1 a.2.2 b.1 b.2.1 b.2.2 = some ((pq (oq (rq a) (rq b))).1, (pq (oq (rq a) (rq b))).2.1, (pq (oq (rq a) (rq b))).2.2, 0) := by
   rw [rat_over_gen.j0, if_neg (by decide)]
   simp only [e1, e2, Option.bind_some]
   have hp : ival false a.2.2 * ival false b.2.2 ≠ 0 := by
    have := Int.mul_pos ha.dp hb.dp
    have e : ival false a.2.2 * ival false b.2.2 = rden a * rden b := rfl
    omega
   have z1 := szmul (k := 4000) (l := 4000) (m := 8000) (ival_bd (n := a.1) h1) (ival_bd (n := false) h4) (by omega)
   have z2 := szmul (k := 4000) (l := 4000) (m := 8000) (ival_bd (n := b.1) h3) (ival_bd (n := false) h2) (by omega)
   have hf := hF (pv (ival a.1 a.2.1 * ival false b.2.2)).1 (pv (ival a.1 a.2.1 * ival false b.2.2)).2 (pv (ival b.1 b.2.1 * ival false a.2.2)).1 (pv (ival b.1 b.2.1 * ival false a.2.2)).2 (okI_pv (by omega)) (okI_pv (by omega)) (by omega) (by omega)
   rw [ival_pv, ival_pv] at hf
   rw [muls _ _ _ _ ha.kn hb.kd (by omega) (by omega), Option.bind_some, muls _ _ _ _ hb.kn ha.kd (by omega) (by omega), Option.bind_some,
    hf, Option.bind_some, muls _ _ _ _ ha.kd hb.kd (by omega) (by omega), Option.bind_some,
    lowv_p k _ _ (size_pv (hB _ _ 8000 15000 (mul_bd (k := 4000) (l := 4000) (ival_bd h1) (ival_bd h4) (by omega)) (mul_bd (k := 4000) (l := 4000) (ival_bd h3) (ival_bd h2) (by omega)) (by omega))) (szmul (k := 4000) (l := 4000) (ival_bd h2) (ival_bd h4) (by omega)) hp, Option.bind_some]
   have e : Rat.divInt (op (ival a.1 a.2.1 * ival false b.2.2) (ival b.1 b.2.1 * ival false a.2.2)) (ival false a.2.2 * ival false b.2.2) = oq (rq a) (rq b) := hQ a b ha hb
   rw [e]
  by_cases c1 : a.2.2.toList = ([1] : List UInt8)
  ·rw [if_pos c1]
   by_cases c2 : b.2.2.toList = ([1] : List UInt8)
   ·rw [beq_iff_eq.2 c2]
    refine ⟨pq (oq (rq a) (rq b)), ?_, fun _ => rfl, fun hc => absurd rfl hc⟩
    have e : oq (rq a) (rq b) = Rat.divInt (op (ival a.1 a.2.1) (ival b.1 b.2.1)) 1 := by
     rw [← hQ a b ha hb, rden_one c1, rden_one c2, Int.mul_one, Int.mul_one, Int.mul_one]
     rfl
    rw [show k + 2 = (k + 1) + 1 from rfl, rat_over_gen.j0, if_pos rfl, hF _ _ _ _ ha.kn hb.kn (by omega) (by omega), Option.bind_some, e, q_int]
   ·rw [beq_eq_false_iff_ne.2 c2]
    exact ⟨_, key, fun _ => rfl, fun hc => absurd rfl hc⟩
  ·rw [if_neg c1]
   exact ⟨_, key, fun _ => rfl, fun hc => absurd rfl hc⟩
 ·rw [if_neg hb0]
  exact ⟨(false, ⟨#[]⟩, ⟨#[]⟩), rfl, fun hc => absurd hc hb0, fun _ => rfl⟩
theorem adds (a0 : Bool) (a1 : ByteArray) (b0 : Bool) (b1 : ByteArray) (ha : okI a0 a1) (hb : okI b0 b1) (h1 : a1.size ≤ 15000) (h2 : b1.size ≤ 15000) : rat_do_of_whole_Add.f a0 a1 b0 b1 = some (pv (ival a0 a1 + ival b0 b1)) := by
 unfold rat_do_of_whole_Add.f whole_Add.f
 rw [if_pos ⟨h1, h2⟩, binS (f := (· + ·)) (a := (a0, a1)) (b := (b0, b1)) ha hb]
 rfl
theorem subs (a0 : Bool) (a1 : ByteArray) (b0 : Bool) (b1 : ByteArray) (ha : okI a0 a1) (hb : okI b0 b1) (h1 : a1.size ≤ 15000) (h2 : b1.size ≤ 15000) : rat_do_of_whole_Sub.f a0 a1 b0 b1 = some (pv (ival a0 a1 - ival b0 b1)) := by
 unfold rat_do_of_whole_Sub.f whole_Sub.f
 rw [if_pos ⟨h1, h2⟩, binS (f := (· - ·)) (a := (a0, a1)) (b := (b0, b1)) ha hb]
 rfl
theorem add_any (k : Nat) (a b : RG) (h1 : a.2.1.size ≤ 4000) (h2 : a.2.2.size ≤ 4000) (h3 : b.2.1.size ≤ 4000) (h4 : b.2.2.size ≤ 4000) :
  ∃ r : RG, rat_Add.f (k + 2) a.1 a.2.1 a.2.2 b.1 b.2.1 b.2.2 = some (r.1, r.2.1, r.2.2, badR a b) ∧ (badR a b = 0 → r = pq (rq a + rq b)) ∧ (badR a b ≠ 0 → r = nor) := by
 obtain ⟨r, hr, hf⟩ := over_any rat_do_of_whole_Add.f (· + ·) (· + ·) adds (fun _ _ _ _ => add_bd) (fun _ _ ha hb => q_add ha hb) k a b h1 h2 h3 h4
 refine ⟨r, ?_, hf⟩
 unfold rat_Add.f rat_over_of_whole_Add.f
 rw [hr, Option.bind_some]
theorem sub_any (k : Nat) (a b : RG) (h1 : a.2.1.size ≤ 4000) (h2 : a.2.2.size ≤ 4000) (h3 : b.2.1.size ≤ 4000) (h4 : b.2.2.size ≤ 4000) :
  ∃ r : RG, rat_Sub.f (k + 2) a.1 a.2.1 a.2.2 b.1 b.2.1 b.2.2 = some (r.1, r.2.1, r.2.2, badR a b) ∧ (badR a b = 0 → r = pq (rq a - rq b)) ∧ (badR a b ≠ 0 → r = nor) := by
 obtain ⟨r, hr, hf⟩ := over_any rat_do_of_whole_Sub.f (· - ·) (· - ·) subs (fun _ _ _ _ => sub_bd) (fun _ _ ha hb => q_sub ha hb) k a b h1 h2 h3 h4
 refine ⟨r, ?_, hf⟩
 unfold rat_Sub.f rat_over_of_whole_Sub.f
 rw [hr, Option.bind_some]
end Go.Proofs.YtoijlbcbbblbfaaGreatDoor

namespace Go.Proofs.YtoijlbcbbblbfaaGreatDoor
open Go.RowKit Num Go.Proofs.YtoijlbcbbblbfaaGreatDoorH.R Go.Proofs.YtoijlbcbbblbfaaGreatDoorW.PrintWords
set_option linter.unusedVariables false
set_option linter.unusedSimpArgs false

theorem mul_any (k : Nat) (a b : RG) (h1 : a.2.1.size ≤ 4000) (h2 : a.2.2.size ≤ 4000) (h3 : b.2.1.size ≤ 4000) (h4 : b.2.2.size ≤ 4000) :
  ∃ r : RG, rat_Mul.f (k + 2) a.1 a.2.1 a.2.2 b.1 b.2.1 b.2.2 = some (r.1, r.2.1, r.2.2, badR a b) ∧ (badR a b = 0 → r = pq (rq a * rq b)) ∧ (badR a b ≠ 0 → r = nor) := by
 by_cases hb0 : badR a b = 0
 ·obtain ⟨ha, hb⟩ := badR_ok.1 hb0
  rw [hb0]
  exact ⟨_, mul_p k a b ha hb h1 h2 h3 h4, fun _ => rfl, fun hc => absurd rfl hc⟩
 ·unfold rat_Mul.f
  rw [both_p k a b (by omega) (by omega) (by omega) (by omega), Option.bind_some, if_neg hb0]
  exact ⟨(false, ⟨#[]⟩, ⟨#[]⟩), rfl, fun hc => absurd hc hb0, fun _ => rfl⟩
theorem cmpS {x y : Int} (hx : (pv x).2.size ≤ 32000) (hy : (pv y).2.size ≤ 32000) : whole_Cmp.f (pv x).1 (pv x).2 (pv y).1 (pv y).2 = some (cmpI x y, 0) := by
 unfold whole_Cmp.f cmpF
 dsimp only
 rw [if_pos (bad2_ok.2 ⟨okI_pv hx, okI_pv hy⟩), ival_pv, ival_pv]
theorem cmp_any (k : Nat) (a b : RG) (h1 : a.2.1.size ≤ 4000) (h2 : a.2.2.size ≤ 4000) (h3 : b.2.1.size ≤ 4000) (h4 : b.2.2.size ≤ 4000) :
  ∃ c, rat_Cmp.f (k + 2) a.1 a.2.1 a.2.2 b.1 b.2.1 b.2.2 = some (c, badR a b) ∧ (badR a b = 0 → c = cmpQ (rq a) (rq b)) := by
 unfold rat_Cmp.f
 rw [both_p k a b (by omega) (by omega) (by omega) (by omega), Option.bind_some]
 by_cases hb0 : badR a b = 0
 ·obtain ⟨ha, hb⟩ := badR_ok.1 hb0
  rw [if_pos hb0, hb0]
  have e1 : rat_den.f a.1 a.2.1 a.2.2 = some (false, a.2.2) := rfl
  have e2 : rat_den.f b.1 b.2.1 b.2.2 = some (false, b.2.2) := rfl
  simp only [e1, e2, Option.bind_some]
  rw [muls _ _ _ _ ha.kn hb.kd (by omega) (by omega), Option.bind_some, muls _ _ _ _ hb.kn ha.kd (by omega) (by omega), Option.bind_some,
   cmpS (Nat.le_trans (szmul (k := 4000) (l := 4000) (m := 8000) (ival_bd h1) (ival_bd h4) (by omega)) (by omega)) (Nat.le_trans (szmul (k := 4000) (l := 4000) (m := 8000) (ival_bd h3) (ival_bd h2) (by omega)) (by omega)), Option.bind_some]
  exact ⟨_, rfl, fun _ => q_cmp ha hb⟩
 ·rw [if_neg hb0]
  exact ⟨_, rfl, fun hc => absurd hc hb0⟩
theorem sign_any (k : Nat) (a : RG) (h1 : a.2.1.size ≤ 15000) (h2 : a.2.2.size ≤ 15000) :
  ∃ s, rat_Sign.f (k + 2) a.1 a.2.1 a.2.2 = some (s, chkR a) ∧ (chkR a = 0 → s = cmpQ (rq a) 0) := by
 unfold rat_Sign.f
 rw [check_p k a h1 h2, Option.bind_some]
 by_cases hc : chkR a = 0
 ·have e := sgn_q (chkR_ok.1 hc)
  rw [if_pos hc, hc]
  by_cases n : a.1 = true
  ·rw [if_pos n]
   rw [if_pos n] at e
   exact ⟨_, rfl, fun _ => e.symm⟩
  ·rw [if_neg n]
   rw [if_neg n] at e
   by_cases z : a.2.1.size = 0
   ·rw [if_pos (tl_nil.2 z)]
    rw [if_pos z] at e
    exact ⟨_, rfl, fun _ => e.symm⟩
   ·rw [if_neg (fun h => z (tl_nil.1 h))]
    rw [if_neg z] at e
    exact ⟨_, rfl, fun _ => e.symm⟩
 ·rw [if_neg hc]
  exact ⟨_, rfl, fun h => absurd h hc⟩
end Go.Proofs.YtoijlbcbbblbfaaGreatDoor

namespace Go.Proofs.YtoijlbcbbblbfaaGreatDoor
open Go.RowKit Num Go.Proofs.YtoijlbcbbblbfaaGreatDoorH.R Go.Proofs.YtoijlbcbbblbfaaGreatDoorW.PrintWords
set_option linter.unusedVariables false
set_option linter.unusedSimpArgs false

theorem low3 {n d : Int} (hn : (pv n).2.size ≤ 1000) (hd : (pv d).2.size ≤ 1000) (h0 : d ≠ 0) : gussetref03_Lowest.f (pv n).1 (pv n).2 (pv d).1 (pv d).2 = some (pq (Rat.divInt n d)) := by
 unfold gussetref03_Lowest.f
 rw [ival_pv, ival_pv, if_pos ⟨hn, hd, chk_ok.2 (okI_pv (by omega)), chk_ok.2 (okI_pv (by omega)), h0⟩]
theorem tim3 {a0 : Bool} {a1 : ByteArray} {b0 : Bool} {b1 : ByteArray} (h1 : a1.size ≤ 4000) (h2 : b1.size ≤ 4000) : gussetref02_Times.f a0 a1 b0 b1 = some (pv (ival a0 a1 * ival b0 b1)) := by
 unfold gussetref02_Times.f
 rw [if_pos ⟨h1, h2⟩]
theorem sum2 {a0 : Bool} {a1 : ByteArray} {b0 : Bool} {b1 : ByteArray} (h1 : a1.size ≤ 4000) (h2 : b1.size ≤ 4000) : gussetref02_Sum.f a0 a1 b0 b1 = some (pv (ival a0 a1 + ival b0 b1)) := by
 unfold gussetref02_Sum.f
 rw [if_pos ⟨h1, h2⟩]
theorem ord2 {a0 : Bool} {a1 : ByteArray} {b0 : Bool} {b1 : ByteArray} (h1 : a1.size ≤ 4000) (h2 : b1.size ≤ 4000) (ha : okI a0 a1) (hb : okI b0 b1) : gussetref02_Order.f a0 a1 b0 b1 = some (cmpI (ival a0 a1) (ival b0 b1)) := by
 unfold gussetref02_Order.f
 rw [if_pos ⟨h1, h2, chk_ok.2 ha, chk_ok.2 hb⟩]
theorem sum3_p (k : Nat) (a b : RG) (ha : okR a) (hb : okR b) (h1 : a.2.1.size ≤ 400) (h2 : a.2.2.size ≤ 400) (h3 : b.2.1.size ≤ 400) (h4 : b.2.2.size ≤ 400) :
  gussetref03_Sum.f (k + 1) a.1 a.2.1 a.2.2 b.1 b.2.1 b.2.2 = some (pq (rq a + rq b)) := by
 have key : gussetref03_Sum.j0 (k + 1) false a.1 a.2.1 a.2.2 b.1 b.2.1 b.2.2 = some (pq (rq a + rq b)) := by
  have e1 : gussetref03_den.f a.1 a.2.1 a.2.2 = some (false, a.2.2) := rfl
  have e2 : gussetref03_den.f b.1 b.2.1 b.2.2 = some (false, b.2.2) := rfl
  have z1 := szmul (k := 400) (l := 400) (m := 800) (ival_bd (n := a.1) h1) (ival_bd (n := false) h4) (by omega)
  have z2 := szmul (k := 400) (l := 400) (m := 800) (ival_bd (n := b.1) h3) (ival_bd (n := false) h2) (by omega)
  have hp : ival false a.2.2 * ival false b.2.2 ≠ 0 := by
   have := Int.mul_pos ha.dp hb.dp
   have e : ival false a.2.2 * ival false b.2.2 = rden a * rden b := rfl
   omega
  rw [gussetref03_Sum.j0, if_neg (by decide)]
  simp only [e1, e2, Option.bind_some]
  rw [tim3 (by omega) (by omega), Option.bind_some, tim3 (by omega) (by omega), Option.bind_some, sum2 (by omega) (by omega), Option.bind_some, ival_pv, ival_pv, tim3 (by omega) (by omega), Option.bind_some,
   low3 (size_pv (add_bd (k := 800) (mul_bd (k := 400) (l := 400) (ival_bd h1) (ival_bd h4) (by omega)) (mul_bd (k := 400) (l := 400) (ival_bd h3) (ival_bd h2) (by omega)) (by omega))) (szmul (k := 400) (l := 400) (ival_bd h2) (ival_bd h4) (by omega)) hp, Option.bind_some]
  have e : Rat.divInt (ival a.1 a.2.1 * ival false b.2.2 + ival b.1 b.2.1 * ival false a.2.2) (ival false a.2.2 * ival false b.2.2) = rq a + rq b := q_add ha hb
  rw [e]
 unfold gussetref03_Sum.f
 by_cases c1 : a.2.2.toList = ([1] : List UInt8)
 ·rw [if_pos c1]
  by_cases c2 : b.2.2.toList = ([1] : List UInt8)
  ·rw [beq_iff_eq.2 c2, gussetref03_Sum.j0, if_pos rfl, sum2 (by omega) (by omega), Option.bind_some]
   have e : rq a + rq b = Rat.divInt (ival a.1 a.2.1 + ival b.1 b.2.1) 1 := by
    rw [← q_add ha hb, rden_one c1, rden_one c2, Int.mul_one, Int.mul_one, Int.mul_one]
    rfl
   rw [e, q_int]
  ·rw [beq_eq_false_iff_ne.2 c2]
   exact key
 ·rw [if_neg c1]
  exact key
/-- a's negative. -/
def ngR (a : RG) : RG := (!a.1 && decide (0 < a.2.1.size), a.2.1, a.2.2)
theorem rnum_ng {a : RG} (h : okR a) : rnum (ngR a) = - rnum a := ival_ng h.kn
theorem ok_ng {a : RG} (h : okR a) : okR (ngR a) := by
 refine ⟨h.sn, h.sd, okI_neg h.kn, h.kd, h.nz, ?_⟩
 rw [rnum_ng h, Int.neg_gcd]
 exact h.co
theorem rq_ng {a : RG} (h : okR a) : rq (ngR a) = - rq a := by
 unfold rq
 rw [rnum_ng h, Rat.neg_divInt]
 rfl
theorem less3_p (k : Nat) (a b : RG) (ha : okR a) (hb : okR b) (h1 : a.2.1.size ≤ 400) (h2 : a.2.2.size ≤ 400) (h3 : b.2.1.size ≤ 400) (h4 : b.2.2.size ≤ 400) :
  gussetref03_Less.f (k + 1) a.1 a.2.1 a.2.2 b.1 b.2.1 b.2.2 = some (pq (rq a - rq b)) := by
 have e : gussetref03_Negate.f b.1 b.2.1 b.2.2 = some (ngR b) := rfl
 have h := sum3_p k a (ngR b) ha (ok_ng hb) h1 h2 h3 h4
 unfold gussetref03_Less.f
 rw [e, Option.bind_some, h, Option.bind_some, rq_ng hb, ← Rat.sub_eq_add_neg]
theorem tl_inj {s t : ByteArray} (h : s.toList = t.toList) : s = t := (tl_iff.1 h).trans (tl_iff.1 (rfl : t.toList = t.toList)).symm
theorem cmpI_mul {x y d : Int} (h : 0 < d) : cmpI (x * d) (y * d) = cmpI x y := by
 unfold cmpI
 simp only [Int.mul_lt_mul_right h]
theorem order3_p (a b : RG) (ha : okR a) (hb : okR b) (h1 : a.2.1.size ≤ 400) (h2 : a.2.2.size ≤ 400) (h3 : b.2.1.size ≤ 400) (h4 : b.2.2.size ≤ 400) :
  gussetref03_Order.f a.1 a.2.1 a.2.2 b.1 b.2.1 b.2.2 = some (cmpQ (rq a) (rq b)) := by
 unfold gussetref03_Order.f
 rw [← q_cmp ha hb]
 by_cases c1 : a.2.2.toList = b.2.2.toList
 ·have e : rden b = rden a := by unfold rden; rw [tl_inj c1]
  rw [if_pos c1, ord2 (by omega) (by omega) ha.kn hb.kn, Option.bind_some, e, cmpI_mul ha.dp]
  rfl
 ·have e1 : gussetref03_den.f a.1 a.2.1 a.2.2 = some (false, a.2.2) := rfl
  have e2 : gussetref03_den.f b.1 b.2.1 b.2.2 = some (false, b.2.2) := rfl
  have z1 := szmul (k := 400) (l := 400) (m := 800) (ival_bd (n := a.1) h1) (ival_bd (n := false) h4) (by omega)
  have z2 := szmul (k := 400) (l := 400) (m := 800) (ival_bd (n := b.1) h3) (ival_bd (n := false) h2) (by omega)
  rw [if_neg c1, e2, Option.bind_some, tim3 (by omega) (by dsimp only; omega), Option.bind_some, e1, Option.bind_some, tim3 (by omega) (by dsimp only; omega), Option.bind_some]
  dsimp only
  rw [ord2 (by omega) (by omega) (okI_pv (by omega)) (okI_pv (by omega)), Option.bind_some, ival_pv, ival_pv]
  rfl
theorem sign3_q {a : RG} (h : okR a) : gussetref03_Sign.f a.1 a.2.1 a.2.2 = some (cmpQ (rq a) 0) := by
 rw [sgn_q h]
 unfold gussetref03_Sign.f
 by_cases n : a.1 = true
 ·rw [if_pos n, if_pos n]
 ·rw [if_neg n, if_neg n]
  by_cases z : a.2.1.size = 0
  ·rw [if_pos (tl_nil.2 z), if_pos z]
  ·rw [if_neg (fun hc => z (tl_nil.1 hc)), if_neg z]
theorem ratSums_p (a b : RG) : gussetlaw03_RatSums.f 30 a.1 a.2.1 a.2.2 b.1 b.2.1 b.2.2 = some true := by
 unfold gussetlaw03_RatSums.f
 obtain ⟨x, hx, hf⟩ := fine_p 28 a b
 rw [hx, Option.bind_some]
 cases x with
 | false => rw [if_neg (by decide), live_k (by omega)]; rfl
 | true =>
  obtain ⟨sa, sb, ha, hb⟩ := hf rfl
  have sa := smallB_t sa
  have sb := smallB_t sb
  have b0 : badR a b = 0 := badR_ok.2 ⟨ha, hb⟩
  have ca := chkR_ok.2 ha
  obtain ⟨c, hc, fc⟩ := cmp_any 28 a b (by omega) (by omega) (by omega) (by omega)
  obtain ⟨s, hs, fs, -⟩ := add_any 28 a b (by omega) (by omega) (by omega) (by omega)
  obtain ⟨d, hd, fd, -⟩ := sub_any 28 a b (by omega) (by omega) (by omega) (by omega)
  obtain ⟨n, hn, fn⟩ := sign_any 28 a (by omega) (by omega)
  rw [if_pos rfl, hc, Option.bind_some, hs, Option.bind_some, hd, Option.bind_some, hn, Option.bind_some]
  dsimp only
  rw [order3_p a b ha hb (by omega) (by omega) (by omega) (by omega), Option.bind_some, if_pos (fc b0), sum3_p 29 a b ha hb (by omega) (by omega) (by omega) (by omega), Option.bind_some, if_pos (by rw [fs b0]; simp),
   less3_p 29 a b ha hb (by omega) (by omega) (by omega) (by omega), Option.bind_some, if_pos (by rw [fd b0]; simp), sign3_q ha, Option.bind_some, if_pos (fn ca), if_pos b0, if_pos b0, if_pos b0, if_pos ca, live_k (by omega)]
  rfl
theorem ratSums_c (a b : RG) (w : World) :
  Calls Tryz.prog 8 #[.agg #[.bool a.1, .string a.2.1, .string a.2.2], .agg #[.bool b.1, .string b.2.1, .string b.2.2]] w fun e w' => e = .returned (.bool true) ∧ Below w.heap.size w w' :=
 gussetlaw03_RatSums.calls 30 _ _ _ _ _ _ true w (ratSums_p a b)
end Go.Proofs.YtoijlbcbbblbfaaGreatDoor
