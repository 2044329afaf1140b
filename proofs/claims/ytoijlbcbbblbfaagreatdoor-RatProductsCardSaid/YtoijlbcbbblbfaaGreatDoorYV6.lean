import Derived.Test.YtoijlbcbbblbfaaGreatDoorYV3
import Derived.Test.YtoijlbcbbblbfaaGreatDoorYV5
import Derived.Test.YtoijlbcbbblbfaaGreatDoorYG0x2
namespace Go.Proofs.YtoijlbcbbblbfaaGreatDoor
open Go.RowKit Num Go.Proofs.YtoijlbcbbblbfaaGreatDoorH.R Go.Proofs.YtoijlbcbbblbfaaGreatDoorW.PrintWords
set_option linter.unusedVariables false
set_option linter.unusedSimpArgs false

theorem q_int (n : Int) : pq (Rat.divInt n 1) = ((pv n).1, (pv n).2, ⟨#[1]⟩) := by
  have hn := low_num (n := n) (d := 1) (by decide)
  have hd := low_den (n := n) (d := 1) (by decide)
  rw [Int.gcd_one_right] at hn hd
  have e1 : n / ((1 : Nat) : Int) = n := Int.ediv_one n
  have e2 : (1 : Int) / ((1 : Nat) : Int) = 1 := Int.ediv_one 1
  rw [e1] at hn
  rw [e2] at hd
  unfold pq
  rw [hn, hd, pv_1]
theorem rden_one {a : RG} (h : a.2.2.toList = ([1] : List UInt8)) : rden a = 1 := by
  unfold rden
  rw [tl_iff.1 h]
  exact nv_1
theorem low3 {n d : Int} (hn : (pv n).2.size ≤ 1000) (hd : (pv d).2.size ≤ 1000) (h0 : d ≠ 0) : gussetref03_Lowest.f (pv n).1 (pv n).2 (pv d).1 (pv d).2 = some (pq (Rat.divInt n d)) := by
  unfold gussetref03_Lowest.f
  rw [ival_pv, ival_pv, if_pos ⟨hn, hd, chk_ok.2 (okI_pv (by omega)), chk_ok.2 (okI_pv (by omega)), h0⟩]
theorem tim3 {a0 : Bool} {a1 : ByteArray} {b0 : Bool} {b1 : ByteArray} (h1 : a1.size ≤ 4000) (h2 : b1.size ≤ 4000) : gussetref02_Times.f a0 a1 b0 b1 = some (pv (ival a0 a1 * ival b0 b1)) := by
  unfold gussetref02_Times.f
  rw [if_pos ⟨h1, h2⟩]
theorem times3_p (k : Nat) (a b : RG) (ha : okR a) (hb : okR b) (h1 : a.2.1.size ≤ 500) (h2 : a.2.2.size ≤ 500) (h3 : b.2.1.size ≤ 500) (h4 : b.2.2.size ≤ 500) :
    gussetref03_Times.f (k + 1) a.1 a.2.1 a.2.2 b.1 b.2.1 b.2.2 = some (pq (rq a * rq b)) := by
  have key : gussetref03_Times.j0 (k + 1) false a.1 a.2.1 a.2.2 b.1 b.2.1 b.2.2 = some (pq (rq a * rq b)) := by
    have e1 : gussetref03_den.f a.1 a.2.1 a.2.2 = some (false, a.2.2) := rfl
    have e2 : gussetref03_den.f b.1 b.2.1 b.2.2 = some (false, b.2.2) := rfl
    rw [gussetref03_Times.j0, if_neg (by decide), tim3 (by first | omega | (dsimp only; omega)) (by first | omega | (dsimp only; omega)), Option.bind_some, e1, Option.bind_some, e2, Option.bind_some, tim3 (by first | omega | (dsimp only; omega)) (by first | omega | (dsimp only; omega)), Option.bind_some]
    have hp : ival false a.2.2 * ival false b.2.2 ≠ 0 := by
      have := Int.mul_pos ha.dp hb.dp
      have e : ival false a.2.2 * ival false b.2.2 = rden a * rden b := rfl
      omega
    rw [low3 (szmul (k := 500) (l := 500) (ival_bd h1) (ival_bd h3) (by omega)) (szmul (k := 500) (l := 500) (ival_bd h2) (ival_bd h4) (by omega)) hp, Option.bind_some]
    have e : Rat.divInt (ival a.1 a.2.1 * ival b.1 b.2.1) (ival false a.2.2 * ival false b.2.2) = rq a * rq b := q_mul
    rw [e]
  unfold gussetref03_Times.f
  by_cases c1 : a.2.2.toList = ([1] : List UInt8)
  · rw [if_pos c1]
    by_cases c2 : b.2.2.toList = ([1] : List UInt8)
    · rw [beq_iff_eq.2 c2, gussetref03_Times.j0, if_pos rfl, tim3 (by first | omega | (dsimp only; omega)) (by first | omega | (dsimp only; omega)), Option.bind_some]
      have e : rq a * rq b = Rat.divInt (ival a.1 a.2.1 * ival b.1 b.2.1) 1 := by
        rw [← q_mul, rden_one c1, rden_one c2]
        rfl
      rw [e, q_int]
    · rw [beq_eq_false_iff_ne.2 c2]
      exact key
  · rw [if_neg c1]
    exact key
theorem over3_p (a b : RG) (ha : okR a) (hb : okR b) (h1 : a.2.1.size ≤ 500) (h2 : a.2.2.size ≤ 500) (h3 : b.2.1.size ≤ 500) (h4 : b.2.2.size ≤ 500) (hz : b.2.1.size ≠ 0) :
    gussetref03_Over.f a.1 a.2.1 a.2.2 b.1 b.2.1 b.2.2 = some (pq (rq a / rq b)) := by
  have e1 : gussetref03_den.f a.1 a.2.1 a.2.2 = some (false, a.2.2) := rfl
  have e2 : gussetref03_den.f b.1 b.2.1 b.2.2 = some (false, b.2.2) := rfl
  unfold gussetref03_Over.f
  rw [e2, Option.bind_some, tim3 (by first | omega | (dsimp only; omega)) (by first | omega | (dsimp only; omega)), Option.bind_some, e1, Option.bind_some, tim3 (by first | omega | (dsimp only; omega)) (by first | omega | (dsimp only; omega)), Option.bind_some]
  have hp : ival false a.2.2 * ival b.1 b.2.1 ≠ 0 := by
    have h5 := ha.dp
    have h6 := ival_nz hb.kn hz
    have e : ival false a.2.2 = rden a := rfl
    rw [e]
    intro hc
    rcases Int.mul_eq_zero.1 hc with h | h
    · omega
    · exact h6 h
  rw [low3 (szmul (k := 500) (l := 500) (ival_bd h1) (ival_bd h4) (by omega)) (szmul (k := 500) (l := 500) (ival_bd h2) (ival_bd h3) (by omega)) hp, Option.bind_some]
  have e : Rat.divInt (ival a.1 a.2.1 * ival false b.2.2) (ival false a.2.2 * ival b.1 b.2.1) = rq a / rq b := q_div
  rw [e]
theorem sign3_p {b : RG} (hb : okR b) : ∃ s, gussetref03_Sign.f b.1 b.2.1 b.2.2 = some s ∧ (s = 0 ↔ b.2.1.size = 0) := by
  unfold gussetref03_Sign.f
  by_cases h1 : b.1 = true
  · rw [if_pos h1]
    have := hb.kn.2.2 h1
    exact ⟨_, rfl, by omega⟩
  · rw [if_neg h1]
    by_cases h2 : b.2.1.size = 0
    · rw [if_pos (tl_nil.2 h2)]
      exact ⟨_, rfl, by omega⟩
    · rw [if_neg (fun hc => h2 (tl_nil.1 hc))]
      exact ⟨_, rfl, by omega⟩
theorem products_p (a b : RG) : gussetlaw03_RatProducts.f 30 a.1 a.2.1 a.2.2 b.1 b.2.1 b.2.2 = some true := by
  unfold gussetlaw03_RatProducts.f
  obtain ⟨x, hx, hf⟩ := fine_p 28 a b
  rw [hx, Option.bind_some]
  cases x with
  | false => rw [if_neg (by decide), live_k (by omega)]; rfl
  | true =>
    obtain ⟨sa, sb, ha, hb⟩ := hf rfl
    have sa := smallB_t sa
    have sb := smallB_t sb
    rw [if_pos rfl, mul_p 28 a b ha hb (by omega) (by omega) (by omega) (by omega), Option.bind_some, div_p 28 a b ha hb (by omega) (by omega) (by omega) (by omega), Option.bind_some, if_pos rfl, times3_p 29 a b ha hb (by omega) (by omega) (by omega) (by omega), Option.bind_some]
    have t0 : ((!((pq (rq a * rq b)).1 == (pq (rq a * rq b)).1) || (!((pq (rq a * rq b)).2.1.toList == (pq (rq a * rq b)).2.1.toList))) || (!((pq (rq a * rq b)).2.2.toList == (pq (rq a * rq b)).2.2.toList))) = false := by simp
    simp only [t0]
    obtain ⟨s, hs, hs0⟩ := sign3_p hb
    rw [show 30 = 29 + 1 from rfl, gussetlaw03_RatProducts.j0, if_neg (by decide), hs, Option.bind_some]
    by_cases hz : b.2.1.size = 0
    · rw [if_pos (hs0.2 hz), if_pos hz, if_pos rfl, if_pos nil_t, live_k (by omega)]
      rfl
    · rw [if_neg (fun hc => hz (hs0.1 hc)), if_neg hz, if_pos rfl, over3_p a b ha hb (by omega) (by omega) (by omega) (by omega) hz, Option.bind_some, if_pos (by simp), live_k (by omega)]
      rfl
theorem products_c (a b : RG) (w : World) :
    Calls Tryz.prog 6 #[.agg #[.bool a.1, .string a.2.1, .string a.2.2], .agg #[.bool b.1, .string b.2.1, .string b.2.2]] w fun e w' => e = .returned (.bool true) ∧ Below w.heap.size w w' :=
  gussetlaw03_RatProducts.calls 30 _ _ _ _ _ _ true w (products_p a b)
end Go.Proofs.YtoijlbcbbblbfaaGreatDoor
