import Derived.Test.YtoijlbcbbblbfaaGreatDoorZzV7
import Derived.Test.YtoijlbcbbblbfaaGreatDoorZzG8x1
namespace Go.Proofs.YtoijlbcbbblbfaaGreatDoor
open Go.RowKit Num Go.Proofs.YtoijlbcbbblbfaaGreatDoorH.R Go.Proofs.YtoijlbcbbblbfaaGreatDoorW.PrintWords
set_option linter.unusedVariables false
set_option linter.unusedSimpArgs false

/-- rat.over at any whole operation. -/
theorem over_any (F : Bool → ByteArray → Bool → ByteArray → Option (Bool × ByteArray)) (op : Int → Int → Int) (oq : Rat → Rat → Rat)
  (hF : ∀ a0 a1 b0 b1, okI a0 a1 → okI b0 b1 → a1.size ≤ 15000 → b1.size ≤ 15000 → F a0 a1 b0 b1 = some (pv (op (ival a0 a1) (ival b0 b1))))
  (hB : ∀ (x y : Int) (k m : Nat), (x.natAbs : Int) < 256 ^ k → (y.natAbs : Int) < 256 ^ k → k + 1 ≤ m → ((op x y).natAbs : Int) < 256 ^ m)
  (hQ : ∀ a b : RG, okR a → okR b → Rat.divInt (op (rnum a * rden b) (rnum b * rden a)) (rden a * rden b) = oq (rq a) (rq b))
  (k : Nat) (a b : RG) (h1 : a.2.1.size ≤ 4000) (h2 : a.2.2.size ≤ 4000) (h3 : b.2.1.size ≤ 4000) (h4 : b.2.2.size ≤ 4000) :
  ∃ r : RG, rat_over_gen.f F (k + 2) a.1 a.2.1 a.2.2 b.1 b.2.1 b.2.2 = some (r.1, r.2.1, r.2.2, badR a b) ∧ (badR a b = 0 → r = pq (oq (rq a) (rq b))) ∧ (badR a b ≠ 0 → r = nor) := by
 unfold rat_over_gen.f
 rw [both_p k a b (by omega) (by omega) (by omega) (by omega), Option.bind_some]
 by_cases hb0 : badR a b = 0
 ·obtain ⟨ha, hb⟩ := badR_ok.1 hb0
  rw [if_pos hb0, hb0]
  have e1 : rat_den.f a.1 a.2.1 a.2.2 = some (false, a.2.2) := rfl
  have e2 : rat_den.f b.1 b.2.1 b.2.2 = some (false, b.2.2) := rfl
  have key : rat_over_gen.j0 F (k + 1 + 1) false a.1 a.2.1 a.2.2 b.1 b.2.1 b.2.2 = some ((pq (oq (rq a) (rq b))).1, (pq (oq (rq a) (rq b))).2.1, (pq (oq (rq a) (rq b))).2.2, 0) := by
   rw [rat_over_gen.j0, if_neg (by decide)]
   simp only [e1, e2, Option.bind_some]
   have hp : ival false a.2.2 * ival false b.2.2 ≠ 0 := by
    have := Int.mul_pos ha.dp hb.dp
    have e : ival false a.2.2 * ival false b.2.2 = rden a * rden b := rfl
    omega
   have z1 := szmul (k := 4000) (l := 4000) (m := 8000) (ival_bd (n := a.1) h1) (ival_bd (n := false) h4) (by omega)
   have z2 := szmul (k := 4000) (l := 4000) (m := 8000) (ival_bd (n := b.1) h3) (ival_bd (n := false) h2) (by omega)
   have hf := hF (pv (ival a.1 a.2.1 * ival false b.2.2)).1 (pv (ival a.1 a.2.1 * ival false b.2.2)).2 (pv (ival b.1 b.2.1 * ival false a.2.2)).1 (pv (ival b.1 b.2.1 * ival false a.2.2)).2 (okI_pv (by omega)) (okI_pv (by omega)) (by omega) (by omega)
   rw [ival_pv, ival_pv] at hf
   rw [muls _ _ _ _ ha.kn hb.kd (by omega) (by omega), Option.bind_some, muls _ _ _ _ hb.kn ha.kd (by omega) (by omega), Option.bind_some,
    hf, Option.bind_some, muls _ _ _ _ ha.kd hb.kd (by omega) (by omega), Option.bind_some,
    lowv_p k _ _ (size_pv (hB _ _ 8000 15000 (mul_bd (k := 4000) (l := 4000) (ival_bd h1) (ival_bd h4) (by omega)) (mul_bd (k := 4000) (l := 4000) (ival_bd h3) (ival_bd h2) (by omega)) (by omega))) (szmul (k := 4000) (l := 4000) (ival_bd h2) (ival_bd h4) (by omega)) hp, Option.bind_some]
   have e : Rat.divInt (op (ival a.1 a.2.1 * ival false b.2.2) (ival b.1 b.2.1 * ival false a.2.2)) (ival false a.2.2 * ival false b.2.2) = oq (rq a) (rq b) := hQ a b ha hb
   rw [e]
  by_cases c1 : a.2.2.toList = ([1] : List UInt8)
  ·rw [if_pos c1]
   by_cases c2 : b.2.2.toList = ([1] : List UInt8)
   ·rw [beq_iff_eq.2 c2]
    refine ⟨pq (oq (rq a) (rq b)), ?_, fun _ => rfl, fun hc => absurd rfl hc⟩
    have e : oq (rq a) (rq b) = Rat.divInt (op (ival a.1 a.2.1) (ival b.1 b.2.1)) 1 := by
     rw [← hQ a b ha hb, rden_one c1, rden_one c2, Int.mul_one, Int.mul_one, Int.mul_one]
     rfl
    rw [show k + 2 = (k + 1) + 1 from rfl, rat_over_gen.j0, if_pos rfl, hF _ _ _ _ ha.kn hb.kn (by omega) (by omega), Option.bind_some, e, q_int]
   ·rw [beq_eq_false_iff_ne.2 c2]
    exact ⟨_, key, fun _ => rfl, fun hc => absurd rfl hc⟩
  ·rw [if_neg c1]
   exact ⟨_, key, fun _ => rfl, fun hc => absurd rfl hc⟩
 ·rw [if_neg hb0]
  exact ⟨(false, ⟨#[]⟩, ⟨#[]⟩), rfl, fun hc => absurd hc hb0, fun _ => rfl⟩
theorem adds (a0 : Bool) (a1 : ByteArray) (b0 : Bool) (b1 : ByteArray) (ha : okI a0 a1) (hb : okI b0 b1) (h1 : a1.size ≤ 15000) (h2 : b1.size ≤ 15000) : rat_do_of_whole_Add.f a0 a1 b0 b1 = some (pv (ival a0 a1 + ival b0 b1)) := by
 unfold rat_do_of_whole_Add.f whole_Add.f
 rw [if_pos ⟨h1, h2⟩, binS (f := (· + ·)) (a := (a0, a1)) (b := (b0, b1)) ha hb]
 rfl
theorem subs (a0 : Bool) (a1 : ByteArray) (b0 : Bool) (b1 : ByteArray) (ha : okI a0 a1) (hb : okI b0 b1) (h1 : a1.size ≤ 15000) (h2 : b1.size ≤ 15000) : rat_do_of_whole_Sub.f a0 a1 b0 b1 = some (pv (ival a0 a1 - ival b0 b1)) := by
 unfold rat_do_of_whole_Sub.f whole_Sub.f
 rw [if_pos ⟨h1, h2⟩, binS (f := (· - ·)) (a := (a0, a1)) (b := (b0, b1)) ha hb]
 rfl
theorem add_any (k : Nat) (a b : RG) (h1 : a.2.1.size ≤ 4000) (h2 : a.2.2.size ≤ 4000) (h3 : b.2.1.size ≤ 4000) (h4 : b.2.2.size ≤ 4000) :
  ∃ r : RG, rat_Add.f (k + 2) a.1 a.2.1 a.2.2 b.1 b.2.1 b.2.2 = some (r.1, r.2.1, r.2.2, badR a b) ∧ (badR a b = 0 → r = pq (rq a + rq b)) ∧ (badR a b ≠ 0 → r = nor) := by
 obtain ⟨r, hr, hf⟩ := over_any rat_do_of_whole_Add.f (· + ·) (· + ·) adds (fun _ _ _ _ => add_bd) (fun _ _ ha hb => q_add ha hb) k a b h1 h2 h3 h4
 refine ⟨r, ?_, hf⟩
 unfold rat_Add.f rat_over_of_whole_Add.f
 rw [hr, Option.bind_some]
theorem sub_any (k : Nat) (a b : RG) (h1 : a.2.1.size ≤ 4000) (h2 : a.2.2.size ≤ 4000) (h3 : b.2.1.size ≤ 4000) (h4 : b.2.2.size ≤ 4000) :
  ∃ r : RG, rat_Sub.f (k + 2) a.1 a.2.1 a.2.2 b.1 b.2.1 b.2.2 = some (r.1, r.2.1, r.2.2, badR a b) ∧ (badR a b = 0 → r = pq (rq a - rq b)) ∧ (badR a b ≠ 0 → r = nor) := by
 obtain ⟨r, hr, hf⟩ := over_any rat_do_of_whole_Sub.f (· - ·) (· - ·) subs (fun _ _ _ _ => sub_bd) (fun _ _ ha hb => q_sub ha hb) k a b h1 h2 h3 h4
 refine ⟨r, ?_, hf⟩
 unfold rat_Sub.f rat_over_of_whole_Sub.f
 rw [hr, Option.bind_some]
end Go.Proofs.YtoijlbcbbblbfaaGreatDoor

namespace Go.Proofs.YtoijlbcbbblbfaaGreatDoor
open Go.RowKit Num Go.Proofs.YtoijlbcbbblbfaaGreatDoorH.R Go.Proofs.YtoijlbcbbblbfaaGreatDoorW.PrintWords
set_option linter.unusedVariables false
set_option linter.unusedSimpArgs false

theorem mul_any (k : Nat) (a b : RG) (h1 : a.2.1.size ≤ 4000) (h2 : a.2.2.size ≤ 4000) (h3 : b.2.1.size ≤ 4000) (h4 : b.2.2.size ≤ 4000) :
  ∃ r : RG, rat_Mul.f (k + 2) a.1 a.2.1 a.2.2 b.1 b.2.1 b.2.2 = some (r.1, r.2.1, r.2.2, badR a b) ∧ (badR a b = 0 → r = pq (rq a * rq b)) ∧ (badR a b ≠ 0 → r = nor) := by
 by_cases hb0 : badR a b = 0
 ·obtain ⟨ha, hb⟩ := badR_ok.1 hb0
  rw [hb0]
  exact ⟨_, mul_p k a b ha hb h1 h2 h3 h4, fun _ => rfl, fun hc => absurd rfl hc⟩
 ·unfold rat_Mul.f
  rw [both_p k a b (by omega) (by omega) (by omega) (by omega), Option.bind_some, if_neg hb0]
  exact ⟨(false, ⟨#[]⟩, ⟨#[]⟩), rfl, fun hc => absurd hc hb0, fun _ => rfl⟩
theorem cmpS {x y : Int} (hx : (pv x).2.size ≤ 32000) (hy : (pv y).2.size ≤ 32000) : whole_Cmp.f (pv x).1 (pv x).2 (pv y).1 (pv y).2 = some (cmpI x y, 0) := by
 unfold whole_Cmp.f cmpF
 dsimp only
 rw [if_pos (bad2_ok.2 ⟨okI_pv hx, okI_pv hy⟩), ival_pv, ival_pv]
theorem cmp_any (k : Nat) (a b : RG) (h1 : a.2.1.size ≤ 4000) (h2 : a.2.2.size ≤ 4000) (h3 : b.2.1.size ≤ 4000) (h4 : b.2.2.size ≤ 4000) :
  ∃ c, rat_Cmp.f (k + 2) a.1 a.2.1 a.2.2 b.1 b.2.1 b.2.2 = some (c, badR a b) ∧ (badR a b = 0 → c = cmpQ (rq a) (rq b)) := by
 unfold rat_Cmp.f
 rw [both_p k a b (by omega) (by omega) (by omega) (by omega), Option.bind_some]
 by_cases hb0 : badR a b = 0
 ·obtain ⟨ha, hb⟩ := badR_ok.1 hb0
  rw [if_pos hb0, hb0]
  have e1 : rat_den.f a.1 a.2.1 a.2.2 = some (false, a.2.2) := rfl
  have e2 : rat_den.f b.1 b.2.1 b.2.2 = some (false, b.2.2) := rfl
  simp only [e1, e2, Option.bind_some]
  rw [muls _ _ _ _ ha.kn hb.kd (by omega) (by omega), Option.bind_some, muls _ _ _ _ hb.kn ha.kd (by omega) (by omega), Option.bind_some,
   cmpS (Nat.le_trans (szmul (k := 4000) (l := 4000) (m := 8000) (ival_bd h1) (ival_bd h4) (by omega)) (by omega)) (Nat.le_trans (szmul (k := 4000) (l := 4000) (m := 8000) (ival_bd h3) (ival_bd h2) (by omega)) (by omega)), Option.bind_some]
  exact ⟨_, rfl, fun _ => q_cmp ha hb⟩
 ·rw [if_neg hb0]
  exact ⟨_, rfl, fun hc => absurd hc hb0⟩
theorem sign_any (k : Nat) (a : RG) (h1 : a.2.1.size ≤ 15000) (h2 : a.2.2.size ≤ 15000) :
  ∃ s, rat_Sign.f (k + 2) a.1 a.2.1 a.2.2 = some (s, chkR a) ∧ (chkR a = 0 → s = cmpQ (rq a) 0) := by
 unfold rat_Sign.f
 rw [check_p k a h1 h2, Option.bind_some]
 by_cases hc : chkR a = 0
 ·have e := sgn_q (chkR_ok.1 hc)
  rw [if_pos hc, hc]
  by_cases n : a.1 = true
  ·rw [if_pos n]
   rw [if_pos n] at e
   exact ⟨_, rfl, fun _ => e.symm⟩
  ·rw [if_neg n]
   rw [if_neg n] at e
   by_cases z : a.2.1.size = 0
   ·rw [if_pos (tl_nil.2 z)]
    rw [if_pos z] at e
    exact ⟨_, rfl, fun _ => e.symm⟩
   ·rw [if_neg (fun h => z (tl_nil.1 h))]
    rw [if_neg z] at e
    exact ⟨_, rfl, fun _ => e.symm⟩
 ·rw [if_neg hc]
  exact ⟨_, rfl, fun h => absurd h hc⟩
end Go.Proofs.YtoijlbcbbblbfaaGreatDoor

namespace Go.Proofs.YtoijlbcbbblbfaaGreatDoor
open Go.RowKit Num Go.Proofs.YtoijlbcbbblbfaaGreatDoorH.R Go.Proofs.YtoijlbcbbblbfaaGreatDoorW.PrintWords
set_option linter.unusedVariables false
set_option linter.unusedSimpArgs false

theorem div_any (k : Nat) (a b : RG) (h1 : a.2.1.size ≤ 4000) (h2 : a.2.2.size ≤ 4000) (h3 : b.2.1.size ≤ 4000) (h4 : b.2.2.size ≤ 4000) :
  ∃ (r : RG) (e : Int), rat_Div.f (k + 2) a.1 a.2.1 a.2.2 b.1 b.2.1 b.2.2 = some (r.1, r.2.1, r.2.2, e) ∧ (badR a b ≠ 0 → r = nor ∧ e = badR a b) ∧ (badR a b = 0 → b.2.1.size = 0 → r = nor ∧ e = 3) ∧ (badR a b = 0 → b.2.1.size ≠ 0 → r = pq (rq a / rq b) ∧ e = 0) := by
 by_cases hb0 : badR a b = 0
 ·obtain ⟨ha, hb⟩ := badR_ok.1 hb0
  have h := div_p k a b ha hb h1 h2 h3 h4
  by_cases hz : b.2.1.size = 0
  ·rw [if_pos hz] at h
   exact ⟨nor, 3, h, fun hc => absurd hb0 hc, fun _ _ => ⟨rfl, rfl⟩, fun _ hc => absurd hz hc⟩
  ·rw [if_neg hz] at h
   exact ⟨_, 0, h, fun hc => absurd hb0 hc, fun _ hc => absurd hc hz, fun _ _ => ⟨rfl, rfl⟩⟩
 ·unfold rat_Div.f
  rw [both_p k a b (by omega) (by omega) (by omega) (by omega), Option.bind_some, if_neg hb0]
  exact ⟨nor, badR a b, rfl, fun _ => ⟨rfl, rfl⟩, fun hc => absurd hc hb0, fun hc => absurd hc hb0⟩
end Go.Proofs.YtoijlbcbbblbfaaGreatDoor
