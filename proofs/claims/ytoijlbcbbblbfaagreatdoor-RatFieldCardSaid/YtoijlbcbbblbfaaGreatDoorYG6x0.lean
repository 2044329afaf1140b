import Derived.Test.YtoijlbcbbblbfaaGreatDoorYV7
import Derived.Test.YtoijlbcbbblbfaaGreatDoorYG0x3
import Derived.Test.YtoijlbcbbblbfaaGreatDoorYG0x4
import Derived.Test.YtoijlbcbbblbfaaGreatDoorYV3
namespace Go.Proofs.YtoijlbcbbblbfaaGreatDoor
open Go.RowKit Num Go.Proofs.YtoijlbcbbblbfaaGreatDoorH.R Go.Proofs.YtoijlbcbbblbfaaGreatDoorW.PrintWords
set_option linter.unusedVariables false
set_option linter.unusedSimpArgs false

/-- rat.over at any whole operation. -/
theorem over_any (F : Bool → ByteArray → Bool → ByteArray → Option (Bool × ByteArray)) (op : Int → Int → Int) (oq : Rat → Rat → Rat)
    (hF : ∀ a0 a1 b0 b1, okI a0 a1 → okI b0 b1 → a1.size ≤ 15000 → b1.size ≤ 15000 → F a0 a1 b0 b1 = some (pv (op (ival a0 a1) (ival b0 b1))))
    (hB : ∀ (x y : Int) (k m : Nat), (x.natAbs : Int) < 256 ^ k → (y.natAbs : Int) < 256 ^ k → k + 1 ≤ m → ((op x y).natAbs : Int) < 256 ^ m)
    (hQ : ∀ a b : RG, okR a → okR b → Rat.divInt (op (rnum a * rden b) (rnum b * rden a)) (rden a * rden b) = oq (rq a) (rq b))
    (k : Nat) (a b : RG) (h1 : a.2.1.size ≤ 4000) (h2 : a.2.2.size ≤ 4000) (h3 : b.2.1.size ≤ 4000) (h4 : b.2.2.size ≤ 4000) :
    ∃ r : RG, rat_over_gen.f F (k + 2) a.1 a.2.1 a.2.2 b.1 b.2.1 b.2.2 = some (r.1, r.2.1, r.2.2, badR a b) ∧ (badR a b = 0 → r = pq (oq (rq a) (rq b))) ∧ (badR a b ≠ 0 → r = nor) := by
  unfold rat_over_gen.f
  rw [both_p k a b (by omega) (by omega) (by omega) (by omega), Option.bind_some]
  by_cases hb0 : badR a b = 0
  · obtain ⟨ha, hb⟩ := badR_ok.1 hb0
    rw [if_pos hb0, hb0]
    have e1 : rat_den.f a.1 a.2.1 a.2.2 = some (false, a.2.2) := rfl
    have e2 : rat_den.f b.1 b.2.1 b.2.2 = some (false, b.2.2) := rfl
    have key : rat_over_gen.j0 F (k + 1 + 1) false a.1 a.2.1 a.2.2 b.1 b.2.1 b.2.2 = some ((pq (oq (rq a) (rq b))).1, (pq (oq (rq a) (rq b))).2.1, (pq (oq (rq a) (rq b))).2.2, 0) := by
      rw [rat_over_gen.j0, if_neg (by decide)]
      simp only [e1, e2, Option.bind_some]
      have hp : ival false a.2.2 * ival false b.2.2 ≠ 0 := by
        have := Int.mul_pos ha.dp hb.dp
        have e : ival false a.2.2 * ival false b.2.2 = rden a * rden b := rfl
        omega
      have z1 := szmul (k := 4000) (l := 4000) (m := 8000) (ival_bd (n := a.1) h1) (ival_bd (n := false) h4) (by omega)
      have z2 := szmul (k := 4000) (l := 4000) (m := 8000) (ival_bd (n := b.1) h3) (ival_bd (n := false) h2) (by omega)
      have hf := hF (pv (ival a.1 a.2.1 * ival false b.2.2)).1 (pv (ival a.1 a.2.1 * ival false b.2.2)).2 (pv (ival b.1 b.2.1 * ival false a.2.2)).1 (pv (ival b.1 b.2.1 * ival false a.2.2)).2 (okI_pv (by omega)) (okI_pv (by omega)) (by omega) (by omega)
      rw [ival_pv, ival_pv] at hf
      rw [muls _ _ _ _ ha.kn hb.kd (by omega) (by omega), Option.bind_some, muls _ _ _ _ hb.kn ha.kd (by omega) (by omega), Option.bind_some,
        hf, Option.bind_some, muls _ _ _ _ ha.kd hb.kd (by omega) (by omega), Option.bind_some,
        lowv_p k _ _ (size_pv (hB _ _ 8000 15000 (mul_bd (k := 4000) (l := 4000) (ival_bd h1) (ival_bd h4) (by omega)) (mul_bd (k := 4000) (l := 4000) (ival_bd h3) (ival_bd h2) (by omega)) (by omega))) (szmul (k := 4000) (l := 4000) (ival_bd h2) (ival_bd h4) (by omega)) hp, Option.bind_some]
      have e : Rat.divInt (op (ival a.1 a.2.1 * ival false b.2.2) (ival b.1 b.2.1 * ival false a.2.2)) (ival false a.2.2 * ival false b.2.2) = oq (rq a) (rq b) := hQ a b ha hb
      rw [e]
    by_cases c1 : a.2.2.toList = ([1] : List UInt8)
    · rw [if_pos c1]
      by_cases c2 : b.2.2.toList = ([1] : List UInt8)
      · rw [beq_iff_eq.2 c2]
        refine ⟨pq (oq (rq a) (rq b)), ?_, fun _ => rfl, fun hc => absurd rfl hc⟩
        have e : oq (rq a) (rq b) = Rat.divInt (op (ival a.1 a.2.1) (ival b.1 b.2.1)) 1 := by
          rw [← hQ a b ha hb, rden_one c1, rden_one c2, Int.mul_one, Int.mul_one, Int.mul_one]
          rfl
        rw [show k + 2 = (k + 1) + 1 from rfl, rat_over_gen.j0, if_pos rfl, hF _ _ _ _ ha.kn hb.kn (by omega) (by omega), Option.bind_some, e, q_int]
      · rw [beq_eq_false_iff_ne.2 c2]
        exact ⟨_, key, fun _ => rfl, fun hc => absurd rfl hc⟩
    · rw [if_neg c1]
      exact ⟨_, key, fun _ => rfl, fun hc => absurd rfl hc⟩
  · rw [if_neg hb0]
    exact ⟨(false, ⟨#[]⟩, ⟨#[]⟩), rfl, fun hc => absurd hc hb0, fun _ => rfl⟩
theorem adds (a0 : Bool) (a1 : ByteArray) (b0 : Bool) (b1 : ByteArray) (ha : okI a0 a1) (hb : okI b0 b1) (h1 : a1.size ≤ 15000) (h2 : b1.size ≤ 15000) : rat_do_of_whole_Add.f a0 a1 b0 b1 = some (pv (ival a0 a1 + ival b0 b1)) := by
  unfold rat_do_of_whole_Add.f whole_Add.f
  rw [if_pos ⟨h1, h2⟩, binS (f := (· + ·)) (a := (a0, a1)) (b := (b0, b1)) ha hb]
  rfl
theorem subs (a0 : Bool) (a1 : ByteArray) (b0 : Bool) (b1 : ByteArray) (ha : okI a0 a1) (hb : okI b0 b1) (h1 : a1.size ≤ 15000) (h2 : b1.size ≤ 15000) : rat_do_of_whole_Sub.f a0 a1 b0 b1 = some (pv (ival a0 a1 - ival b0 b1)) := by
  unfold rat_do_of_whole_Sub.f whole_Sub.f
  rw [if_pos ⟨h1, h2⟩, binS (f := (· - ·)) (a := (a0, a1)) (b := (b0, b1)) ha hb]
  rfl
theorem add_any (k : Nat) (a b : RG) (h1 : a.2.1.size ≤ 4000) (h2 : a.2.2.size ≤ 4000) (h3 : b.2.1.size ≤ 4000) (h4 : b.2.2.size ≤ 4000) :
    ∃ r : RG, rat_Add.f (k + 2) a.1 a.2.1 a.2.2 b.1 b.2.1 b.2.2 = some (r.1, r.2.1, r.2.2, badR a b) ∧ (badR a b = 0 → r = pq (rq a + rq b)) ∧ (badR a b ≠ 0 → r = nor) := by
  obtain ⟨r, hr, hf⟩ := over_any rat_do_of_whole_Add.f (· + ·) (· + ·) adds (fun _ _ _ _ => add_bd) (fun _ _ ha hb => q_add ha hb) k a b h1 h2 h3 h4
  refine ⟨r, ?_, hf⟩
  unfold rat_Add.f rat_over_of_whole_Add.f
  rw [hr, Option.bind_some]
theorem sub_any (k : Nat) (a b : RG) (h1 : a.2.1.size ≤ 4000) (h2 : a.2.2.size ≤ 4000) (h3 : b.2.1.size ≤ 4000) (h4 : b.2.2.size ≤ 4000) :
    ∃ r : RG, rat_Sub.f (k + 2) a.1 a.2.1 a.2.2 b.1 b.2.1 b.2.2 = some (r.1, r.2.1, r.2.2, badR a b) ∧ (badR a b = 0 → r = pq (rq a - rq b)) ∧ (badR a b ≠ 0 → r = nor) := by
  obtain ⟨r, hr, hf⟩ := over_any rat_do_of_whole_Sub.f (· - ·) (· - ·) subs (fun _ _ _ _ => sub_bd) (fun _ _ ha hb => q_sub ha hb) k a b h1 h2 h3 h4
  refine ⟨r, ?_, hf⟩
  unfold rat_Sub.f rat_over_of_whole_Sub.f
  rw [hr, Option.bind_some]
end Go.Proofs.YtoijlbcbbblbfaaGreatDoor

namespace Go.Proofs.YtoijlbcbbblbfaaGreatDoor
open Go.RowKit Num Go.Proofs.YtoijlbcbbblbfaaGreatDoorH.R Go.Proofs.YtoijlbcbbblbfaaGreatDoorW.PrintWords
set_option linter.unusedVariables false
set_option linter.unusedSimpArgs false

theorem mul_any (k : Nat) (a b : RG) (h1 : a.2.1.size ≤ 4000) (h2 : a.2.2.size ≤ 4000) (h3 : b.2.1.size ≤ 4000) (h4 : b.2.2.size ≤ 4000) :
    ∃ r : RG, rat_Mul.f (k + 2) a.1 a.2.1 a.2.2 b.1 b.2.1 b.2.2 = some (r.1, r.2.1, r.2.2, badR a b) ∧ (badR a b = 0 → r = pq (rq a * rq b)) ∧ (badR a b ≠ 0 → r = nor) := by
  by_cases hb0 : badR a b = 0
  · obtain ⟨ha, hb⟩ := badR_ok.1 hb0
    rw [hb0]
    exact ⟨_, mul_p k a b ha hb h1 h2 h3 h4, fun _ => rfl, fun hc => absurd rfl hc⟩
  · unfold rat_Mul.f
    rw [both_p k a b (by omega) (by omega) (by omega) (by omega), Option.bind_some, if_neg hb0]
    exact ⟨(false, ⟨#[]⟩, ⟨#[]⟩), rfl, fun hc => absurd hc hb0, fun _ => rfl⟩
end Go.Proofs.YtoijlbcbbblbfaaGreatDoor

namespace Go.Proofs.YtoijlbcbbblbfaaGreatDoor
open Go.RowKit Num Go.Proofs.YtoijlbcbbblbfaaGreatDoorH.R Go.Proofs.YtoijlbcbbblbfaaGreatDoorW.PrintWords
set_option linter.unusedVariables false
set_option linter.unusedSimpArgs false

theorem low_size2 {n d : Int} {k m : Nat} (h0 : d ≠ 0) (h1 : (n.natAbs : Int) < 256 ^ k) (h2 : (d.natAbs : Int) < 256 ^ m) : (pq (Rat.divInt n d)).2.1.size ≤ k ∧ (pq (Rat.divInt n d)).2.2.size ≤ m := by
  rcases Int.lt_or_gt_of_ne h0 with h | h
  · rw [← Rat.neg_divInt_neg]
    exact low_size (by omega) (by rw [Int.natAbs_neg]; exact h1) (by omega)
  · exact low_size h h1 (by omega)
theorem rq_nz {b : RG} (hb : okR b) (hz : b.2.1.size ≠ 0) : rq b ≠ 0 := by
  intro hc
  have h1 := hb.q.1
  rw [hc] at h1
  exact ival_nz hb.kn hz h1.symm
theorem rdivsz {a b : RG} (ha : okR a) (hb : okR b) (hz : b.2.1.size ≠ 0) {k : Nat} (h1 : a.2.1.size ≤ k) (h2 : a.2.2.size ≤ k) (h3 : b.2.1.size ≤ k) (h4 : b.2.2.size ≤ k) :
    (pq (rq a / rq b)).2.1.size ≤ k + k ∧ (pq (rq a / rq b)).2.2.size ≤ k + k := by
  rw [← q_div]
  refine low_size2 (fun hc => ?_) (mul_bd (k := k) (l := k) (ival_bd h1) (ival_bd (n := false) h4) (Nat.le_refl _)) (mul_bd (k := k) (l := k) (ival_bd (n := false) h2) (ival_bd h3) (Nat.le_refl _))
  rcases Int.mul_eq_zero.1 hc with h | h
  · have := ha.dp
    omega
  · exact ival_nz hb.kn hz h
theorem nor_sz (k : Nat) : nor.2.1.size ≤ k ∧ nor.2.2.size ≤ k := ⟨Nat.zero_le _, Nat.zero_le _⟩
theorem add_rs {a b r : RG} {k : Nat} (h1 : a.2.1.size ≤ k) (h2 : a.2.2.size ≤ k) (h3 : b.2.1.size ≤ k) (h4 : b.2.2.size ≤ k) (hf : badR a b = 0 → r = pq (rq a + rq b)) (hg : badR a b ≠ 0 → r = nor) : r.2.1.size ≤ k + k + 1 ∧ r.2.2.size ≤ k + k + 1 := by
  by_cases h : badR a b = 0
  · obtain ⟨ha, hb⟩ := badR_ok.1 h
    have := addsz ha hb h1 h2 h3 h4
    rw [hf h]
    omega
  · rw [hg h]
    exact nor_sz _
theorem mul_rs {a b r : RG} {k : Nat} (h1 : a.2.1.size ≤ k) (h2 : a.2.2.size ≤ k) (h3 : b.2.1.size ≤ k) (h4 : b.2.2.size ≤ k) (hf : badR a b = 0 → r = pq (rq a * rq b)) (hg : badR a b ≠ 0 → r = nor) : r.2.1.size ≤ k + k ∧ r.2.2.size ≤ k + k := by
  by_cases h : badR a b = 0
  · obtain ⟨ha, hb⟩ := badR_ok.1 h
    have := mulsz ha hb h1 h2 h3 h4
    rw [hf h]
    omega
  · rw [hg h]
    exact nor_sz _
theorem same_f (a : RG) : ((!(a.1 == a.1) || (!(a.2.1.toList == a.2.1.toList))) || (!(a.2.2.toList == a.2.2.toList))) = false := by simp
theorem same_t (a : RG) : ((a.1 == a.1 && (a.2.1.toList == a.2.1.toList)) && (a.2.2.toList == a.2.2.toList)) = true := by simp
theorem ratField_p (a b c : RG) : gussetlaw03_RatField.f 30 a.1 a.2.1 a.2.2 b.1 b.2.1 b.2.2 c.1 c.2.1 c.2.2 = some true := by
  have lv29 : gussetlaw03_live.f 29 = some true := live_k (by omega)
  have lv28 : gussetlaw03_live.f 28 = some true := live_k (by omega)
  have lv27 : gussetlaw03_live.f 27 = some true := live_k (by omega)
  have j0t : ∀ a0 a1 a2 b0 b1 b2 c0 c1 c2, gussetlaw03_RatField.j0 30 true a0 a1 a2 b0 b1 b2 c0 c1 c2 = some true := by
    intro a0 a1 a2 b0 b1 b2 c0 c1 c2
    rw [show (30 : Nat) = 29 + 1 from rfl, gussetlaw03_RatField.j0, if_pos rfl, lv29]
    rfl
  have j1t : ∀ a0 a1 a2 b0 b1 b2 c0 c1 c2 d0 d1 d2 e0 e1 e2 f0 f1 f2, gussetlaw03_RatField.j1 29 true a0 a1 a2 b0 b1 b2 c0 c1 c2 d0 d1 d2 e0 e1 e2 f0 f1 f2 = some true := by
    intro a0 a1 a2 b0 b1 b2 c0 c1 c2 d0 d1 d2 e0 e1 e2 f0 f1 f2
    rw [show (29 : Nat) = 28 + 1 from rfl, gussetlaw03_RatField.j1, if_pos rfl, lv28]
    rfl
  unfold gussetlaw03_RatField.f
  rw [small_p, Option.bind_some]
  by_cases s1 : smallB a = true
  rotate_left
  · rw [if_neg s1, j0t]
  rw [if_pos s1, small_p, Option.bind_some]
  by_cases s2 : smallB b = true
  rotate_left
  · rw [if_neg s2, j0t]
  rw [if_pos s2, small_p, Option.bind_some]
  by_cases s3 : smallB c = true
  rotate_left
  · rw [Bool.not_eq_true] at s3
    rw [s3]
    exact j0t _ _ _ _ _ _ _ _ _
  rw [s3]
  have z1 := smallB_t s1
  have z2 := smallB_t s2
  have z3 := smallB_t s3
  obtain ⟨s, hs, fs, gs⟩ := add_any 27 a b (by omega) (by omega) (by omega) (by omega)
  obtain ⟨t, ht, ft, gt⟩ := add_any 27 b a (by omega) (by omega) (by omega) (by omega)
  have sz := add_rs z1.1 z1.2 z2.1 z2.2 fs gs
  obtain ⟨p, hp, fp, gp⟩ := mul_any 27 s c (by omega) (by omega) (by omega) (by omega)
  obtain ⟨x, hx, fx, gx⟩ := mul_any 27 a c (by omega) (by omega) (by omega) (by omega)
  obtain ⟨y, hy, fy, gy⟩ := mul_any 27 b c (by omega) (by omega) (by omega) (by omega)
  have xz := mul_rs z1.1 z1.2 z3.1 z3.2 fx gx
  have yz := mul_rs z2.1 z2.2 z3.1 z3.2 fy gy
  obtain ⟨z, hz, fz, gz⟩ := add_any 27 x y (by omega) (by omega) (by omega) (by omega)
  rw [show (30 : Nat) = 29 + 1 from rfl, gussetlaw03_RatField.j0, if_neg (by decide), hs, Option.bind_some, ht, Option.bind_some]
  dsimp only
  rw [hp, Option.bind_some, hx, Option.bind_some, hy, Option.bind_some]
  dsimp only
  rw [hz, Option.bind_some]
  dsimp only
  by_cases b1 : badR a b = 0
  rotate_left
  · rw [if_neg b1, j1t]
  rw [if_pos b1]
  by_cases b2 : badR b a = 0
  rotate_left
  · rw [if_neg b2, j1t]
  rw [if_pos b2]
  by_cases b3 : badR s c = 0
  rotate_left
  · rw [if_neg b3, j1t]
  rw [if_pos b3]
  by_cases b4 : badR a c = 0
  rotate_left
  · rw [if_neg b4, j1t]
  rw [if_pos b4]
  by_cases b5 : badR b c = 0
  rotate_left
  · rw [if_neg b5, j1t]
  rw [if_pos b5]
  by_cases b6 : badR x y = 0
  rotate_left
  · rw [bne_iff_ne.2 b6, j1t]
  have b6' : (badR x y != 0) = false := bne_eq_false_iff_eq.2 b6
  obtain ⟨ha, hb⟩ := badR_ok.1 b1
  have es : s = t := by rw [fs b1, ft b2, Rat.add_comm]
  have ep : p = z := by rw [fp b3, fz b6, fs b1, fx b4, fy b5, rq_pq, rq_pq, rq_pq, Rat.add_mul]
  rw [b6', show (29 : Nat) = 28 + 1 from rfl, gussetlaw03_RatField.j1, if_neg (by decide), es, ep, same_f, same_f, if_neg (by decide), show (28 : Nat) = 27 + 1 from rfl, gussetlaw03_RatField.j2, if_neg (by decide), div_p 25 a b ha hb (by omega) (by omega) (by omega) (by omega), Option.bind_some]
  by_cases hz0 : b.2.1.size = 0
  · rw [if_pos hz0]
    dsimp only
    rw [if_neg (by decide), if_pos rfl, lv27]
    rfl
  · rw [if_neg hz0]
    dsimp only
    have qz := rdivsz ha hb hz0 z1.1 z1.2 z2.1 z2.2
    have qk : okR (pq (rq a / rq b)) := okR_pq (by omega) (by omega)
    rw [if_pos rfl, mul_p 25 (pq (rq a / rq b)) b qk hb (by omega) (by omega) (by omega) (by omega), Option.bind_some]
    dsimp only
    rw [rq_pq, Rat.div_mul_cancel (rq_nz hb hz0), pq_rq ha, if_pos rfl, same_t, if_pos rfl, lv27]
    rfl
theorem ratField_c (a b c : RG) (w : World) :
    Calls Tryz.prog 7 #[.agg #[.bool a.1, .string a.2.1, .string a.2.2], .agg #[.bool b.1, .string b.2.1, .string b.2.2], .agg #[.bool c.1, .string c.2.1, .string c.2.2]] w fun e w' => e = .returned (.bool true) ∧ Below w.heap.size w w' :=
  gussetlaw03_RatField.calls 30 _ _ _ _ _ _ _ _ _ true w (ratField_p a b c)
end Go.Proofs.YtoijlbcbbblbfaaGreatDoor
