import Derived.Test.YtoijlbcbbblbfaaGreatDoorZzV3
import Derived.Test.YtoijlbcbbblbfaaGreatDoorZzV5
import Derived.Test.YtoijlbcbbblbfaaGreatDoorZzVP
import Derived.Test.YtoijlbcbbblbfaaGreatDoorZzG6x0
import Derived.Test.YtoijlbcbbblbfaaGreatDoorZzG8x2
namespace Go.Proofs.YtoijlbcbbblbfaaGreatDoor
open Go.RowKit Num Go.Proofs.YtoijlbcbbblbfaaGreatDoorH.R Go.Proofs.YtoijlbcbbblbfaaGreatDoorW.PrintWords
set_option linter.unusedVariables false
set_option linter.unusedSimpArgs false

theorem ratChecks_p (a b : RG) : gussetlaw03_RatChecks.f 30 a.1 a.2.1 a.2.2 b.1 b.2.1 b.2.2 = some true := by
 have lv29 : gussetlaw03_live.f 29 = some true := live_k (by omega)
 have j0t : ∀ a0 a1 a2 b0 b1 b2, gussetlaw03_RatChecks.j0 30 true a0 a1 a2 b0 b1 b2 = some true := by
  intro a0 a1 a2 b0 b1 b2
  rw [show (30 : Nat) = 29 + 1 from rfl, gussetlaw03_RatChecks.j0, if_pos rfl, lv29]
  rfl
 unfold gussetlaw03_RatChecks.f
 rw [small_p, Option.bind_some]
 by_cases s1 : smallB a = true
 rotate_left
 ·rw [if_neg s1, j0t]
 rw [if_pos s1, small_p, Option.bind_some]
 by_cases s2 : smallB b = true
 rotate_left
 ·rw [Bool.not_eq_true] at s2
  rw [s2]
  exact j0t _ _ _ _ _ _
 rw [s2]
 have z1 := smallB_t s1
 have z2 := smallB_t s2
 obtain ⟨c, hc, -⟩ := cmp_any 27 a b (by omega) (by omega) (by omega) (by omega)
 obtain ⟨s, hs, -⟩ := add_any 27 a b (by omega) (by omega) (by omega) (by omega)
 obtain ⟨d, hd, -⟩ := sub_any 27 a b (by omega) (by omega) (by omega) (by omega)
 obtain ⟨m, hm, -⟩ := mul_any 27 a b (by omega) (by omega) (by omega) (by omega)
 obtain ⟨q, e, hq, e1, e2, e3⟩ := div_any 27 a b (by omega) (by omega) (by omega) (by omega)
 obtain ⟨n, hn, -⟩ := sign_any 27 a (by omega) (by omega)
 obtain ⟨p, hp⟩ := print_any 27 a z1.1 z1.2
 obtain ⟨t, ht⟩ := decimal_any 3 a (by omega) z1.1 z1.2 29 (by omega)
 have t0 : ((3 : Nat) : Int) = 3 := rfl
 rw [t0] at ht
 rw [show (!true) = false from rfl, show (30 : Nat) = 29 + 1 from rfl, gussetlaw03_RatChecks.j0, if_neg (by decide), both3_p 27 a b (by omega) (by omega) (by omega) (by omega), Option.bind_some, hc, Option.bind_some, hs, Option.bind_some, hd, Option.bind_some, hm, Option.bind_some, hq, Option.bind_some, hn, Option.bind_some, hp, Option.bind_some, ht, Option.bind_some, check3_p 27 a (by omega) (by omega), Option.bind_some, check_p 27 a (by omega) (by omega), Option.bind_some]
 dsimp only
 rw [if_pos rfl, if_pos rfl, if_pos rfl, if_pos rfl, if_pos rfl]
 have fin : (gussetlaw03_live.f 29).bind (fun t => some t) = some true := by rw [lv29]; rfl
 by_cases h0 : badR a b = 0
 ·by_cases hz : b.2.1.size = 0
  ·rw [(e2 h0 hz).2, if_neg (by omega), if_pos h0, if_pos rfl, if_pos rfl, if_pos rfl, if_pos rfl, fin]
  ·rw [(e3 h0 hz).2, if_pos h0.symm, if_pos rfl, if_pos rfl, if_pos rfl, fin]
 ·rw [(e1 h0).2, if_pos rfl, if_pos rfl, if_pos rfl, if_pos rfl, fin]
theorem ratChecks_c (a b : RG) (w : World) :
  Calls Tryz.prog 10 #[.agg #[.bool a.1, .string a.2.1, .string a.2.2], .agg #[.bool b.1, .string b.2.1, .string b.2.2]] w fun e w' => e = .returned (.bool true) ∧ Below w.heap.size w w' :=
 gussetlaw03_RatChecks.calls 30 _ _ _ _ _ _ true w (ratChecks_p a b)
end Go.Proofs.YtoijlbcbbblbfaaGreatDoor
