import Derived.Test.YtoijlbcbbblbfaaGreatDoorZzV5a
import Derived.Test.YtoijlbcbbblbfaaGreatDoorZzG8x0
namespace Go.Proofs.YtoijlbcbbblbfaaGreatDoor
open Go.RowKit Num Go.Proofs.YtoijlbcbbblbfaaGreatDoorH.R Go.Proofs.YtoijlbcbbblbfaaGreatDoorW.PrintWords
set_option linter.unusedVariables false
set_option linter.unusedSimpArgs false

theorem natB_chk {s : ByteArray} (h : s.size ≤ 32000) : natB s = true ↔ chk false s = 0 := by
 unfold natB chk
 rw [if_neg (by omega)]
 by_cases hc : 0 < s.size ∧ byt s (s.size - 1) = 0
 ·rw [decide_eq_true hc, if_pos hc]
  exact ⟨fun h => by simp at h, fun h => absurd h (by decide)⟩
 ·rw [decide_eq_false hc, if_neg hc, if_neg (fun h => by cases h.1)]
  exact ⟨fun _ => rfl, fun _ => rfl⟩
/-- The document's Check tells what the program's tells. -/
theorem check3_p (k : Nat) (a : RG) (h1 : a.2.1.size ≤ 4000) (h2 : a.2.2.size ≤ 4000) : gussetref03_Check.f (k + 2) a.1 a.2.1 a.2.2 = some (chkR a) := by
 obtain ⟨a0, a1, a2⟩ := a
 simp only at h1 h2
 unfold gussetref03_Check.f chkR
 simp only
 rw [if_neg (by omega), if_neg (by omega), decide_eq_false (by omega : ¬ (a2.size : Int) > 8000), show k + 2 = (k + 1) + 1 from rfl, gussetref03_Check.j0, if_neg (by decide)]
 have e1 : gussetref02_Check.f a0 a1 = some (chk a0 a1) := rfl
 have e2 : gussetref01_IsNat.f a2 = some (natB a2) := rfl
 rw [e1, Option.bind_some]
 have j1t : gussetref03_Check.j1 (k + 1) true = some 1 := rfl
 have j1f : gussetref03_Check.j1 (k + 1) false = some 0 := rfl
 by_cases d1 : chk a0 a1 = 0
 ·rw [if_pos d1, e2, Option.bind_some]
  by_cases d2 : chk false a2 = 0
  ·rw [if_pos ((natB_chk (by omega)).2 d2)]
   by_cases d3 : a2.size = 0
   ·rw [if_pos (tl_nil.2 d3), j1t, if_pos (.inr (.inr (.inl d3)))]
   ·rw [if_neg (fun hc => d3 (tl_nil.1 hc))]
    have e3 : gussetref03_den.f a0 a1 a2 = some (false, a2) := rfl
    rw [e3, Option.bind_some]
    have e4 : gussetref02_Common.f a0 a1 false a2 = some ((pv ((Nat.gcd (nv a1).toNat (nv a2).toNat : Nat) : Int)).1, (pv ((Nat.gcd (nv a1).toNat (nv a2).toNat : Nat) : Int)).2) := by
     unfold gussetref02_Common.f
     rw [if_pos ⟨h1, h2⟩]
    rw [e4, Option.bind_some]
    have hg : Int.gcd (rnum (a0, a1, a2)) (rden (a0, a1, a2)) = Nat.gcd (nv a1).toNat (nv a2).toNat := int_gcd_nv a0 a1 false a2
    rw [hg]
    by_cases d5 : Nat.gcd (nv a1).toNat (nv a2).toNat = 1
    ·have t : ((pv ((Nat.gcd (nv a1).toNat (nv a2).toNat : Nat) : Int)).2.toList != ([1] : List UInt8)) = false := bne_eq_false_iff_eq.2 (one_iff.2 d5)
     simp only [t]
     rw [j1f, if_neg (fun hc => by
      rcases hc with hc | hc | hc | hc
      ·exact hc d1
      ·exact hc d2
      ·exact d3 hc
      ·exact hc d5)]
    ·have t : ((pv ((Nat.gcd (nv a1).toNat (nv a2).toNat : Nat) : Int)).2.toList != ([1] : List UInt8)) = true := bne_iff_ne.2 (fun hc => d5 (one_iff.1 hc))
     simp only [t]
     rw [j1t, if_pos (.inr (.inr (.inr d5)))]
  ·rw [if_neg (fun hc => d2 ((natB_chk (by omega)).1 hc)), j1t, if_pos (.inr (.inl d2))]
 ·rw [if_neg d1, j1t, if_pos (.inl d1)]
theorem both3_p (k : Nat) (a b : RG) (h1 : a.2.1.size ≤ 4000) (h2 : a.2.2.size ≤ 4000) (h3 : b.2.1.size ≤ 4000) (h4 : b.2.2.size ≤ 4000) :
  gussetref03_Both.f (k + 2) a.1 a.2.1 a.2.2 b.1 b.2.1 b.2.2 = some (badR a b) := by
 unfold gussetref03_Both.f badR
 rw [check3_p k a h1 h2, Option.bind_some]
 split
 ·rw [check3_p k b h3 h4, Option.bind_some]
 ·rfl
/-- fine: both small, both may be. -/
theorem fine_p (k : Nat) (a b : RG) : ∃ x, gussetlaw03_fine.f (k + 2) a.1 a.2.1 a.2.2 b.1 b.2.1 b.2.2 = some x ∧ (x = true → (smallB a = true ∧ smallB b = true ∧ okR a ∧ okR b)) := by
 unfold gussetlaw03_fine.f
 rw [small_p, Option.bind_some]
 by_cases ha : smallB a = true
 ·rw [if_pos ha, small_p, Option.bind_some]
  by_cases hb : smallB b = true
  ·have sa := smallB_t ha
   have sb := smallB_t hb
   rw [if_pos hb, both3_p k a b (by omega) (by omega) (by omega) (by omega), Option.bind_some]
   refine ⟨_, rfl, fun h => ?_⟩
   have := badR_ok.1 (beq_iff_eq.1 h)
   exact ⟨ha, hb, this.1, this.2⟩
  ·rw [if_neg hb]
   exact ⟨_, rfl, fun h => by cases h⟩
 ·rw [if_neg ha]
  exact ⟨_, rfl, fun h => by cases h⟩
end Go.Proofs.YtoijlbcbbblbfaaGreatDoor
