import Derived.Test.YtoijlbcbbblbfaaGreatDoorZV7
import Derived.Test.YtoijlbcbbblbfaaGreatDoorZG7x0
import Derived.Test.YtoijlbcbbblbfaaGreatDoorZG8x0
import Derived.Test.YtoijlbcbbblbfaaGreatDoorZV3
import Derived.Test.YtoijlbcbbblbfaaGreatDoorZHRGussetlaw03RatOrder
namespace Go.Proofs.YtoijlbcbbblbfaaGreatDoor
open Go.RowKit Num Go.Proofs.YtoijlbcbbblbfaaGreatDoorH.R Go.Proofs.YtoijlbcbbblbfaaGreatDoorW.PrintWords
set_option linter.unusedVariables false
set_option linter.unusedSimpArgs false

/-- rat.over at any whole operation. -/
theorem over_any (F : Bool → ByteArray → Bool → ByteArray → Option (Bool × ByteArray)) (op : Int → Int → Int) (oq : Rat → Rat → Rat)
    (hF : ∀ a0 a1 b0 b1, okI a0 a1 → okI b0 b1 → a1.size ≤ 15000 → b1.size ≤ 15000 → F a0 a1 b0 b1 = some (pv (op (ival a0 a1) (ival b0 b1))))
    (hB : ∀ (x y : Int) (k m : Nat), (x.natAbs : Int) < 256 ^ k → (y.natAbs : Int) < 256 ^ k → k + 1 ≤ m → ((op x y).natAbs : Int) < 256 ^ m)
    (hQ : ∀ a b : RG, okR a → okR b → Rat.divInt (op (rnum a * rden b) (rnum b * rden a)) (rden a * rden b) = oq (rq a) (rq b))
    (k : Nat) (a b : RG) (h1 : a.2.1.size ≤ 4000) (h2 : a.2.2.size ≤ 4000) (h3 : b.2.1.size ≤ 4000) (h4 : b.2.2.size ≤ 4000) :
    ∃ r : RG, rat_over_gen.f F (k + 2) a.1 a.2.1 a.2.2 b.1 b.2.1 b.2.2 = some (r.1, r.2.1, r.2.2, badR a b) ∧ (badR a b = 0 → r = pq (oq (rq a) (rq b))) ∧ (badR a b ≠ 0 → r = nor) := by
  unfold rat_over_gen.f
  rw [both_p k a b (by omega) (by omega) (by omega) (by omega), Option.bind_some]
  by_cases hb0 : badR a b = 0
  · obtain ⟨ha, hb⟩ := badR_ok.1 hb0
    rw [if_pos hb0, hb0]
    have e1 : rat_den.f a.1 a.2.1 a.2.2 = some (false, a.2.2) := rfl
    have e2 : rat_den.f b.1 b.2.1 b.2.2 = some (false, b.2.2) := rfl
    have key : rat_over_gen.j0 F (k + 1 + 1) false a.1 a.2.1 a.2.2 b.1 b.2.1 b.2.2 = some ((pq (oq (rq a) (rq b))).1, (pq (oq (rq a) (rq b))).2.1, (pq (oq (rq a) (rq b))).2.2, 0) := by
      rw [rat_over_gen.j0, if_neg (by decide)]
      simp only [e1, e2, Option.bind_some]
      have hp : ival false a.2.2 * ival false b.2.2 ≠ 0 := by
        have := Int.mul_pos ha.dp hb.dp
        have e : ival false a.2.2 * ival false b.2.2 = rden a * rden b := rfl
        omega
      have z1 := szmul (k := 4000) (l := 4000) (m := 8000) (ival_bd (n := a.1) h1) (ival_bd (n := false) h4) (by omega)
      have z2 := szmul (k := 4000) (l := 4000) (m := 8000) (ival_bd (n := b.1) h3) (ival_bd (n := false) h2) (by omega)
      have hf := hF (pv (ival a.1 a.2.1 * ival false b.2.2)).1 (pv (ival a.1 a.2.1 * ival false b.2.2)).2 (pv (ival b.1 b.2.1 * ival false a.2.2)).1 (pv (ival b.1 b.2.1 * ival false a.2.2)).2 (okI_pv (by omega)) (okI_pv (by omega)) (by omega) (by omega)
      rw [ival_pv, ival_pv] at hf
      rw [muls _ _ _ _ ha.kn hb.kd (by omega) (by omega), Option.bind_some, muls _ _ _ _ hb.kn ha.kd (by omega) (by omega), Option.bind_some,
        hf, Option.bind_some, muls _ _ _ _ ha.kd hb.kd (by omega) (by omega), Option.bind_some,
        lowv_p k _ _ (size_pv (hB _ _ 8000 15000 (mul_bd (k := 4000) (l := 4000) (ival_bd h1) (ival_bd h4) (by omega)) (mul_bd (k := 4000) (l := 4000) (ival_bd h3) (ival_bd h2) (by omega)) (by omega))) (szmul (k := 4000) (l := 4000) (ival_bd h2) (ival_bd h4) (by omega)) hp, Option.bind_some]
      have e : Rat.divInt (op (ival a.1 a.2.1 * ival false b.2.2) (ival b.1 b.2.1 * ival false a.2.2)) (ival false a.2.2 * ival false b.2.2) = oq (rq a) (rq b) := hQ a b ha hb
      rw [e]
    by_cases c1 : a.2.2.toList = ([1] : List UInt8)
    · rw [if_pos c1]
      by_cases c2 : b.2.2.toList = ([1] : List UInt8)
      · rw [beq_iff_eq.2 c2]
        refine ⟨pq (oq (rq a) (rq b)), ?_, fun _ => rfl, fun hc => absurd rfl hc⟩
        have e : oq (rq a) (rq b) = Rat.divInt (op (ival a.1 a.2.1) (ival b.1 b.2.1)) 1 := by
          rw [← hQ a b ha hb, rden_one c1, rden_one c2, Int.mul_one, Int.mul_one, Int.mul_one]
          rfl
        rw [show k + 2 = (k + 1) + 1 from rfl, rat_over_gen.j0, if_pos rfl, hF _ _ _ _ ha.kn hb.kn (by omega) (by omega), Option.bind_some, e, q_int]
      · rw [beq_eq_false_iff_ne.2 c2]
        exact ⟨_, key, fun _ => rfl, fun hc => absurd rfl hc⟩
    · rw [if_neg c1]
      exact ⟨_, key, fun _ => rfl, fun hc => absurd rfl hc⟩
  · rw [if_neg hb0]
    exact ⟨(false, ⟨#[]⟩, ⟨#[]⟩), rfl, fun hc => absurd hc hb0, fun _ => rfl⟩
theorem adds (a0 : Bool) (a1 : ByteArray) (b0 : Bool) (b1 : ByteArray) (ha : okI a0 a1) (hb : okI b0 b1) (h1 : a1.size ≤ 15000) (h2 : b1.size ≤ 15000) : rat_do_of_whole_Add.f a0 a1 b0 b1 = some (pv (ival a0 a1 + ival b0 b1)) := by
  unfold rat_do_of_whole_Add.f whole_Add.f
  rw [if_pos ⟨h1, h2⟩, binS (f := (· + ·)) (a := (a0, a1)) (b := (b0, b1)) ha hb]
  rfl
theorem subs (a0 : Bool) (a1 : ByteArray) (b0 : Bool) (b1 : ByteArray) (ha : okI a0 a1) (hb : okI b0 b1) (h1 : a1.size ≤ 15000) (h2 : b1.size ≤ 15000) : rat_do_of_whole_Sub.f a0 a1 b0 b1 = some (pv (ival a0 a1 - ival b0 b1)) := by
  unfold rat_do_of_whole_Sub.f whole_Sub.f
  rw [if_pos ⟨h1, h2⟩, binS (f := (· - ·)) (a := (a0, a1)) (b := (b0, b1)) ha hb]
  rfl
theorem add_any (k : Nat) (a b : RG) (h1 : a.2.1.size ≤ 4000) (h2 : a.2.2.size ≤ 4000) (h3 : b.2.1.size ≤ 4000) (h4 : b.2.2.size ≤ 4000) :
    ∃ r : RG, rat_Add.f (k + 2) a.1 a.2.1 a.2.2 b.1 b.2.1 b.2.2 = some (r.1, r.2.1, r.2.2, badR a b) ∧ (badR a b = 0 → r = pq (rq a + rq b)) ∧ (badR a b ≠ 0 → r = nor) := by
  obtain ⟨r, hr, hf⟩ := over_any rat_do_of_whole_Add.f (· + ·) (· + ·) adds (fun _ _ _ _ => add_bd) (fun _ _ ha hb => q_add ha hb) k a b h1 h2 h3 h4
  refine ⟨r, ?_, hf⟩
  unfold rat_Add.f rat_over_of_whole_Add.f
  rw [hr, Option.bind_some]
theorem sub_any (k : Nat) (a b : RG) (h1 : a.2.1.size ≤ 4000) (h2 : a.2.2.size ≤ 4000) (h3 : b.2.1.size ≤ 4000) (h4 : b.2.2.size ≤ 4000) :
    ∃ r : RG, rat_Sub.f (k + 2) a.1 a.2.1 a.2.2 b.1 b.2.1 b.2.2 = some (r.1, r.2.1, r.2.2, badR a b) ∧ (badR a b = 0 → r = pq (rq a - rq b)) ∧ (badR a b ≠ 0 → r = nor) := by
  obtain ⟨r, hr, hf⟩ := over_any rat_do_of_whole_Sub.f (· - ·) (· - ·) subs (fun _ _ _ _ => sub_bd) (fun _ _ ha hb => q_sub ha hb) k a b h1 h2 h3 h4
  refine ⟨r, ?_, hf⟩
  unfold rat_Sub.f rat_over_of_whole_Sub.f
  rw [hr, Option.bind_some]
end Go.Proofs.YtoijlbcbbblbfaaGreatDoor

namespace Go.Proofs.YtoijlbcbbblbfaaGreatDoor
open Go.RowKit Num Go.Proofs.YtoijlbcbbblbfaaGreatDoorH.R Go.Proofs.YtoijlbcbbblbfaaGreatDoorW.PrintWords
set_option linter.unusedVariables false
set_option linter.unusedSimpArgs false

theorem mul_any (k : Nat) (a b : RG) (h1 : a.2.1.size ≤ 4000) (h2 : a.2.2.size ≤ 4000) (h3 : b.2.1.size ≤ 4000) (h4 : b.2.2.size ≤ 4000) :
    ∃ r : RG, rat_Mul.f (k + 2) a.1 a.2.1 a.2.2 b.1 b.2.1 b.2.2 = some (r.1, r.2.1, r.2.2, badR a b) ∧ (badR a b = 0 → r = pq (rq a * rq b)) ∧ (badR a b ≠ 0 → r = nor) := by
  by_cases hb0 : badR a b = 0
  · obtain ⟨ha, hb⟩ := badR_ok.1 hb0
    rw [hb0]
    exact ⟨_, mul_p k a b ha hb h1 h2 h3 h4, fun _ => rfl, fun hc => absurd rfl hc⟩
  · unfold rat_Mul.f
    rw [both_p k a b (by omega) (by omega) (by omega) (by omega), Option.bind_some, if_neg hb0]
    exact ⟨(false, ⟨#[]⟩, ⟨#[]⟩), rfl, fun hc => absurd hc hb0, fun _ => rfl⟩
theorem cmpS {x y : Int} (hx : (pv x).2.size ≤ 32000) (hy : (pv y).2.size ≤ 32000) : whole_Cmp.f (pv x).1 (pv x).2 (pv y).1 (pv y).2 = some (cmpI x y, 0) := by
  unfold whole_Cmp.f cmpF
  dsimp only
  rw [if_pos (bad2_ok.2 ⟨okI_pv hx, okI_pv hy⟩), ival_pv, ival_pv]
theorem cmp_any (k : Nat) (a b : RG) (h1 : a.2.1.size ≤ 4000) (h2 : a.2.2.size ≤ 4000) (h3 : b.2.1.size ≤ 4000) (h4 : b.2.2.size ≤ 4000) :
    ∃ c, rat_Cmp.f (k + 2) a.1 a.2.1 a.2.2 b.1 b.2.1 b.2.2 = some (c, badR a b) ∧ (badR a b = 0 → c = cmpQ (rq a) (rq b)) := by
  unfold rat_Cmp.f
  rw [both_p k a b (by omega) (by omega) (by omega) (by omega), Option.bind_some]
  by_cases hb0 : badR a b = 0
  · obtain ⟨ha, hb⟩ := badR_ok.1 hb0
    rw [if_pos hb0, hb0]
    have e1 : rat_den.f a.1 a.2.1 a.2.2 = some (false, a.2.2) := rfl
    have e2 : rat_den.f b.1 b.2.1 b.2.2 = some (false, b.2.2) := rfl
    simp only [e1, e2, Option.bind_some]
    rw [muls _ _ _ _ ha.kn hb.kd (by omega) (by omega), Option.bind_some, muls _ _ _ _ hb.kn ha.kd (by omega) (by omega), Option.bind_some,
      cmpS (Nat.le_trans (szmul (k := 4000) (l := 4000) (m := 8000) (ival_bd h1) (ival_bd h4) (by omega)) (by omega)) (Nat.le_trans (szmul (k := 4000) (l := 4000) (m := 8000) (ival_bd h3) (ival_bd h2) (by omega)) (by omega)), Option.bind_some]
    exact ⟨_, rfl, fun _ => q_cmp ha hb⟩
  · rw [if_neg hb0]
    exact ⟨_, rfl, fun hc => absurd hc hb0⟩
theorem sign_any (k : Nat) (a : RG) (h1 : a.2.1.size ≤ 15000) (h2 : a.2.2.size ≤ 15000) :
    ∃ s, rat_Sign.f (k + 2) a.1 a.2.1 a.2.2 = some (s, chkR a) ∧ (chkR a = 0 → s = cmpQ (rq a) 0) := by
  unfold rat_Sign.f
  rw [check_p k a h1 h2, Option.bind_some]
  by_cases hc : chkR a = 0
  · have e := sgn_q (chkR_ok.1 hc)
    rw [if_pos hc, hc]
    by_cases n : a.1 = true
    · rw [if_pos n]
      rw [if_pos n] at e
      exact ⟨_, rfl, fun _ => e.symm⟩
    · rw [if_neg n]
      rw [if_neg n] at e
      by_cases z : a.2.1.size = 0
      · rw [if_pos (tl_nil.2 z)]
        rw [if_pos z] at e
        exact ⟨_, rfl, fun _ => e.symm⟩
      · rw [if_neg (fun h => z (tl_nil.1 h))]
        rw [if_neg z] at e
        exact ⟨_, rfl, fun _ => e.symm⟩
  · rw [if_neg hc]
    exact ⟨_, rfl, fun h => absurd h hc⟩
end Go.Proofs.YtoijlbcbbblbfaaGreatDoor

namespace Go.Proofs.YtoijlbcbbblbfaaGreatDoor
open Go.RowKit Num Go.Proofs.YtoijlbcbbblbfaaGreatDoorH.R Go.Proofs.YtoijlbcbbblbfaaGreatDoorW.PrintWords
set_option linter.unusedVariables false
set_option linter.unusedSimpArgs false

theorem ratOrder_p (a b c : RG) : gussetlaw03_RatOrder.f 30 a.1 a.2.1 a.2.2 b.1 b.2.1 b.2.2 c.1 c.2.1 c.2.2 = some true := by
  have lv29 : gussetlaw03_live.f 29 = some true := live_k (by omega)
  have lv28 : gussetlaw03_live.f 28 = some true := live_k (by omega)
  have j0t : ∀ a0 a1 a2 b0 b1 b2 c0 c1 c2, gussetlaw03_RatOrder.j0 30 true a0 a1 a2 b0 b1 b2 c0 c1 c2 = some true := by
    intro a0 a1 a2 b0 b1 b2 c0 c1 c2
    rw [show (30 : Nat) = 29 + 1 from rfl, gussetlaw03_RatOrder.j0, if_pos rfl, lv29]
    rfl
  have j1t : ∀ x y a0 a1 a2 b0 b1 b2 c0 c1 c2, gussetlaw03_RatOrder.j1 29 x y true a0 a1 a2 b0 b1 b2 c0 c1 c2 = some true := by
    intro x y a0 a1 a2 b0 b1 b2 c0 c1 c2
    rw [show (29 : Nat) = 28 + 1 from rfl, gussetlaw03_RatOrder.j1, if_pos rfl, lv28]
    rfl
  unfold gussetlaw03_RatOrder.f
  rw [small_p, Option.bind_some]
  by_cases s1 : smallB a = true
  rotate_left
  · rw [if_neg s1, j0t]
  rw [if_pos s1, small_p, Option.bind_some]
  by_cases s2 : smallB b = true
  rotate_left
  · rw [if_neg s2, j0t]
  rw [if_pos s2, small_p, Option.bind_some]
  by_cases s3 : smallB c = true
  rotate_left
  · rw [Bool.not_eq_true] at s3
    rw [s3]
    exact j0t _ _ _ _ _ _ _ _ _
  rw [s3]
  have z1 := smallB_t s1
  have z2 := smallB_t s2
  have z3 := smallB_t s3
  obtain ⟨x, hx, fx⟩ := cmp_any 27 a b (by omega) (by omega) (by omega) (by omega)
  obtain ⟨d, hd, fd, -⟩ := sub_any 27 a b (by omega) (by omega) (by omega) (by omega)
  obtain ⟨p, hp, fp, -⟩ := mul_any 27 a c (by omega) (by omega) (by omega) (by omega)
  obtain ⟨q, hq, fq, -⟩ := mul_any 27 b c (by omega) (by omega) (by omega) (by omega)
  obtain ⟨n, hn, fn⟩ := sign_any 27 c (by omega) (by omega)
  rw [show (30 : Nat) = 29 + 1 from rfl, gussetlaw03_RatOrder.j0, if_neg (by decide), hx, Option.bind_some, hd, Option.bind_some, hp, Option.bind_some, hq, Option.bind_some, hn, Option.bind_some]
  dsimp only
  by_cases b1 : badR a b = 0
  rotate_left
  · rw [if_neg b1, j1t]
  rw [if_pos b1, if_pos b1]
  by_cases b2 : badR a c = 0
  rotate_left
  · rw [if_neg b2, j1t]
  rw [if_pos b2]
  by_cases b3 : badR b c = 0
  rotate_left
  · rw [if_neg b3, j1t]
  obtain ⟨ha, hb⟩ := badR_ok.1 b1
  have hc := (badR_ok.1 b2).2
  have c0 := chkR_ok.2 hc
  rw [if_pos b3, c0]
  have t0 : ((0 : Int) != 0) = false := rfl
  rw [t0, show (29 : Nat) = 28 + 1 from rfl, gussetlaw03_RatOrder.j1, if_neg (by decide)]
  rw [fx b1, fd b1, fp b2, fq b3, fn c0]
  have dz := subsz ha hb z1.1 z1.2 z2.1 z2.2
  have pz := mulsz ha hc z1.1 z1.2 z3.1 z3.2
  have qz := mulsz hb hc z2.1 z2.2 z3.1 z3.2
  have dk : okR (pq (rq a - rq b)) := okR_pq (by omega) (by omega)
  have pk : okR (pq (rq a * rq c)) := okR_pq (by omega) (by omega)
  have qk : okR (pq (rq b * rq c)) := okR_pq (by omega) (by omega)
  obtain ⟨y, hy, fy⟩ := sign_any 26 (pq (rq a - rq b)) (by omega) (by omega)
  obtain ⟨z, hz, fz⟩ := cmp_any 26 (pq (rq a * rq c)) (pq (rq b * rq c)) (by omega) (by omega) (by omega) (by omega)
  rw [hy, Option.bind_some, hz, Option.bind_some]
  dsimp only
  have dk0 := chkR_ok.2 dk
  have pq0 : badR (pq (rq a * rq c)) (pq (rq b * rq c)) = 0 := badR_ok.2 ⟨pk, qk⟩
  rw [fy dk0, fz pq0, rq_pq, rq_pq, rq_pq, cmpQ_sub, if_pos rfl, if_pos dk0, cmpQ_wrap, if_pos (cmpQ_mul _ _ _), if_pos pq0, lv28]
  rfl
theorem ratOrder_c (a b c : RG) (w : World) :
    Calls Tryz.prog 9 #[.agg #[.bool a.1, .string a.2.1, .string a.2.2], .agg #[.bool b.1, .string b.2.1, .string b.2.2], .agg #[.bool c.1, .string c.2.1, .string c.2.2]] w fun e w' => e = .returned (.bool true) ∧ Below w.heap.size w w' :=
  gussetlaw03_RatOrder.calls 30 _ _ _ _ _ _ _ _ _ true w (ratOrder_p a b c)
end Go.Proofs.YtoijlbcbbblbfaaGreatDoor
