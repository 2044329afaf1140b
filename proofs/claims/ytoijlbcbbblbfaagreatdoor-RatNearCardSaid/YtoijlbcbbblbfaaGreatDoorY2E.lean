import Derived.Test.YtoijlbcbbblbfaaGreatDoorY2B
import Derived.Test.YtoijlbcbbblbfaaGreatDoorY2Shelf
import Derived.Test.YtoijlbcbbblbfaaGreatDoorY2G1x0
import Derived.Deep.DeepCutAuto
import Derived.Deep.CutBlock
import Derived.Tactics2
import Derived.Lib.BitFns
import Derived.Lib.ItoaNum
import Derived.Laws.BitsLemmas
namespace Go.Proofs.YtoijlbcbbblbfaaGreatDoor
open Go.RowKit Num
set_option linter.unusedVariables false
set_option linter.unusedSimpArgs false

def lz (x : Int) : Int := 64 - (Lib.bitLen x.toNat : Int)
theorem lz_c (x : Int) (hx : 0 ≤ x ∧ x < B) (w : World) :
  Calls Tryz.prog 111 #[.int .u64 x] w fun e w' => e = .returned (.int .i64 (lz x)) ∧ w' = w := Tryz.bits_LeadingZeros64 x w hx.1 (by have := hx.2; rw [B_eq] at this; omega)
theorem lz_spec (x : Int) (h0 : 0 < x) (hx : x < B) : ∃ s : Nat, lz x = s ∧ s ≤ 63 ∧ 9223372036854775808 ≤ x * 2 ^ s ∧ x * 2 ^ s < B := by
 obtain ⟨n, rfl⟩ := Int.eq_ofNat_of_zero_le (Int.le_of_lt h0)
 rw [B_eq] at *
 have hb := Lib.bitLenAux_bounds 64 n (by omega) (by omega)
 obtain ⟨h1, h2, h3⟩ := hb
 have e : Lib.bitLen n = Lib.bitLenAux 64 n := rfl
 have h4 : Lib.bitLenAux 64 n ≤ 64 := by
  apply Nat.le_of_not_lt
  intro hgt
  have : 2 ^ 64 ≤ 2 ^ (Lib.bitLenAux 64 n - 1) := Nat.pow_le_pow_right (by omega) (by omega)
  omega
 refine ⟨64 - Lib.bitLenAux 64 n, ?_, by omega, ?_, ?_⟩
 ·unfold lz
  rw [Int.toNat_natCast, e]
  omega
 ·have : 2 ^ (Lib.bitLenAux 64 n - 1) * 2 ^ (64 - Lib.bitLenAux 64 n) ≤ n * 2 ^ (64 - Lib.bitLenAux 64 n) := Nat.mul_le_mul_right _ h2
  rw [← Nat.pow_add, show Lib.bitLenAux 64 n - 1 + (64 - Lib.bitLenAux 64 n) = 63 by omega] at this
  have h5 : ((2 ^ 63 : Nat) : Int) ≤ ((n * 2 ^ (64 - Lib.bitLenAux 64 n) : Nat) : Int) := by exact_mod_cast this
  rw [Int.natCast_mul, Int.natCast_pow] at h5
  exact h5
 ·have : n * 2 ^ (64 - Lib.bitLenAux 64 n) < 2 ^ Lib.bitLenAux 64 n * 2 ^ (64 - Lib.bitLenAux 64 n) := Nat.mul_lt_mul_of_pos_right h3 (Nat.pow_pos (by omega))
  rw [← Nat.pow_add, show Lib.bitLenAux 64 n + (64 - Lib.bitLenAux 64 n) = 64 by omega] at this
  have h5 : ((n * 2 ^ (64 - Lib.bitLenAux 64 n) : Nat) : Int) < ((2 ^ 64 : Nat) : Int) := by exact_mod_cast this
  rw [Int.natCast_mul, Int.natCast_pow] at h5
  exact h5

set_option maxHeartbeats 1000000 in
theorem div64_zero (lo y : Int) (h0 : 0 ≤ lo ∧ lo < B) (hy : 0 < y ∧ y < B) (w : World) :
  Calls Tryz.prog 133 #[.int .u64 0, .int .u64 lo, .int .u64 y] w fun e w' => e = .returned (.tuple #[.int .u64 (lo / y), .int .u64 (lo % y)]) ∧ Dr w w' := by
 have hlo0 := h0.1
 have hy0 := hy.1
 have hz : (y == 0) = false := beq_eq_false_iff_ne.mpr (by omega)
 have hz2 : decide (y ≤ 0) = false := by simp; omega
 have hq : 0 ≤ lo / y := Int.ediv_nonneg (by omega) (by omega)
 have HB := Lib.hid h0
 have HY := Lib.hid hy
 clear h0 hy
 go_enter Tryz.func133, Tryz.ntmps133
 go_wp2
 repeat (go_quiet (fail); try go_wp2)
 go_ret2
 have e1 : IntKind.u64.wrap (lo.tdiv y) = lo / y := by
  rw [Int.tdiv_eq_ediv_of_nonneg hlo0]
  apply wrap_u
  refine ⟨hq, ?_⟩
  have := Int.ediv_le_self y hlo0
  have := HB.out.2
  omega
 rw [← e1]
 exact ⟨rfl, by repeat (first | exact Dr.refl _ | apply Dr.step)⟩

theorem u64_mask32 (x : Int) (hx : 0 ≤ x ∧ x < B) : bits .and .u64 x 4294967295 = x % 4294967296 :=
 bits_mask .u64 64 (by decide) (fun n h0 h1 => wrap_u n ⟨h0, h1⟩) 32 (by decide) x hx.1 hx.2
theorem u64_join (x y : Int) (s : Nat) (hx : 0 ≤ x ∧ x < B) (hy : 0 ≤ y) (hys : y < 2 ^ s) (hyB : y < B) (hm : x % 2 ^ s = 0) : bits .or .u64 x y = x + y :=
 bits_join .u64 64 (by decide) (fun n h0 h1 => wrap_u n ⟨h0, h1⟩) s x y hx.1 hm hx.2 hy hys hyB
set_option maxHeartbeats 1000000 in
theorem div64_pos (hi lo y : Int) (hh : 0 < hi ∧ hi < y) (h0 : 0 ≤ lo ∧ lo < B) (hy : y < B) (w : World) :
  Calls Tryz.prog 133 #[.int .u64 hi, .int .u64 lo, .int .u64 y] w fun e w' => e = .returned (.tuple #[.int .u64 ((hi * B + lo) / y), .int .u64 ((hi * B + lo) % y)]) ∧ Dr w w' := by
 obtain ⟨s, hs, hs63, hs1, hs2⟩ := lz_spec y (by omega) hy
 have hz : (y == 0) = false := beq_eq_false_iff_ne.mpr (by omega)
 have hz2 : decide (y ≤ hi) = false := by simp; omega
 have hz3 : (hi == 0) = false := beq_eq_false_iff_ne.mpr (by omega)
 have HS := Lib.hid hs
 clear hs
 have HLZ := Lib.hid (lz_c y ⟨by omega, hy⟩)
 obtain ⟨S, hS⟩ : ∃ S : Int, S = 2 ^ s := ⟨_, rfl⟩
 have hS0 : 0 < S := by rw [hS]; exact Int.pow_pos (by decide)
 obtain ⟨Y, hY⟩ : ∃ Y, Y = y * S := ⟨_, rfl⟩
 rw [← hS, ← hY] at hs1 hs2
 have hYp := Int.mul_pos (show 0 < y by omega) hS0
 have e1 : IntKind.u64.wrap (y * 2 ^ s) = Y := by rw [← hS, ← hY]; exact wrap_u _ ⟨by omega, hs2⟩
 have e1b : bits .and .u64 Y 4294967295 = Y % 4294967296 := u64_mask32 _ ⟨by omega, hs2⟩
 obtain ⟨T, hT⟩ : ∃ T : Int, T = 2 ^ (64 - s) := ⟨_, rfl⟩
 have hT0 : 0 < T := by rw [hT]; exact Int.pow_pos (by decide)
 have hST : S * T = B := by
  rw [hS, hT, ← Int.pow_add, show s + (64 - s) = 64 by omega]; rfl
 obtain ⟨p1, p2, p3⟩ := shift_parts hS0 hT0 hST h0
 have q1 : (hi + 1) * S ≤ y * S := Int.mul_le_mul_of_nonneg_right (by omega) (by omega)
 have q2 : (hi + 1) * S = hi * S + S := by grind
 have q3 : 0 ≤ hi * S := Int.mul_nonneg (by omega) (by omega)
 have e2 : bits .or .u64 (IntKind.u64.wrap (hi * 2 ^ s)) (lo / 2 ^ (64 - s)) = hi * S + lo / T := by
  rw [← hS, ← hT, wrap_u _ ⟨q3, by omega⟩]
  exact u64_join _ _ s ⟨q3, by omega⟩ p2 (by rw [← hS]; exact p3) (by omega) (by rw [hS]; exact Int.mul_emod_left _ _)
 have hBp : 0 < B := by decide
 have e3 : IntKind.u64.wrap (lo * 2 ^ s) = lo * S % B := by rw [← hS, IntKind.wrap_u64]; rfl
 have r0 : 0 ≤ lo * S % B := Int.emod_nonneg _ (by omega)
 have r1 : lo * S % B < B := Int.emod_lt_of_pos _ hBp
 have e3b : bits .and .u64 (lo * S % B) 4294967295 = lo * S % B % 4294967296 := u64_mask32 _ ⟨r0, r1⟩
 generalize lo * S % B = U10 at *
 obtain ⟨U32, hU32⟩ : ∃ U32, hi * S + lo / T = U32 := ⟨_, rfl⟩
 rw [hU32] at e2
 have hU : (hi * B + lo) * S = U32 * B + U10 := by
  rw [← hU32]
  have : (hi * B + lo) * S = hi * S * B + lo * S := by grind
  rw [this, p1]
  grind
 obtain ⟨Y1, hY1⟩ : ∃ Y1, Y / 4294967296 = Y1 := ⟨_, rfl⟩
 obtain ⟨Y0, hY0⟩ : ∃ Y0, Y % 4294967296 = Y0 := ⟨_, rfl⟩
 obtain ⟨U1, hU1⟩ : ∃ U1, U10 / 4294967296 = U1 := ⟨_, rfl⟩
 obtain ⟨U0, hU0⟩ : ∃ U0, U10 % 4294967296 = U0 := ⟨_, rfl⟩
 rw [hY0] at e1b
 rw [hU0] at e3b
 have hH : Half U32 U1 Y Y1 Y0 := by
  rw [B_eq] at hs2 r1
  exact ⟨by omega, by omega, by omega, by omega, by omega⟩
 have hz4 : (Y1 == 0) = false := beq_eq_false_iff_ne.mpr (by have := hH.y1; omega)
 have hz5 : 0 < Y1 := by have := hH.y1; omega
 have i0 : IntKind.u64.wrap (U32.tdiv Y1) = U32 / Y1 := by
  have := hH.start.1.q0
  have := hH.start.1.q1
  rw [Int.tdiv_eq_ediv_of_nonneg hH.u.1]
  exact wrap_u _ ⟨by omega, by rw [B_eq]; omega⟩
 have i1 : IntKind.u64.wrap (U32 / Y1 * Y1) = U32 / Y1 * Y1 := wrap_u _ (half_bounds hH hH.start.1 hH.start.2).2.1
 have i2 : IntKind.u64.wrap (U32 - U32 / Y1 * Y1) = U32 % Y1 := by
  have := hH.start.1.e
  have := hH.start.1.r0
  have := hH.start.2
  rw [show U32 - U32 / Y1 * Y1 = U32 % Y1 by omega]
  exact wrap_u _ ⟨by omega, by rw [B_eq]; omega⟩
 have hst := Lib.hid hH.start
 have HH := Lib.hid hH
 have HU := Lib.hid hU
 have HYY := Lib.hid hY
 have HP := Lib.hid (And.intro hS (And.intro hS0 (And.intro hYp (And.intro hU0 (And.intro hU1 (And.intro r0 (And.intro r1 (And.intro hs2 hh))))))))
 clear hY hYp hS hS0 hT hT0 hST p1 p2 p3 q1 q2 q3 r0 r1 hU32 hU hH hs1 hh h0 hy
 go_enter Tryz.func133, Tryz.ntmps133
 go_upto_block 0 with (go_at_call 111; refine (HLZ.out _).mono ?_; rintro e w' ⟨rfl, rfl⟩; rw [HS.out])
 go_cut [15, 16] (fun a b w1 => a = .int .u64 ((U32 * 4294967296 + U1) / Y) ∧ w' = w1)
 case first =>
  go_wp2
  go_loop [15, 16] (fun a b => ∃ q r : Int, a = .int .u64 q ∧ b = .int .u64 r ∧ Hid (HalfI U32 U1 Y Y1 q r ∧ r < 4294967296)) (fun a _ => (intOf a).toNat)
  case atStart => exact ⟨_, _, rfl, rfl, hst.out⟩
  case round =>
   obtain ⟨q, r, rfl, rfl, hi⟩ := hrel
   obtain ⟨b1, b2, b3, b4, b5⟩ := half_bounds HH.out hi.out.1 hi.out.2
   have g2 := wrap_u _ b3
   have g3 := wrap_u _ b4
   have g5 := wrap_u _ b5
   have hq1 : 1 ≤ q → IntKind.u64.wrap (q - 1) = q - 1 := fun h => wrap_u _ ⟨by omega, by have := hi.out.1.q1; rw [B_eq]; omega⟩
   have hq0 := hi.out.1.q0
   have B1 := Lib.hid b1
   have HQ := Lib.hid hq1
   clear b1 b2 b3 b4 b5 hq1
   by_cases hA : 4294967296 ≤ q
   ·have c1 : decide (4294967296 ≤ q) = true := decide_eq_true hA
    have g4 := HQ.out (by omega)
    have nx := hi.out.1.step HH.out hi.out.2 (.inl hA)
    by_cases hbr : 4294967296 ≤ r + Y1
    ·have c2 : decide (4294967296 ≤ r + Y1) = true := decide_eq_true hbr
     have fin := Lib.hid (nx.exit2 HH.out hbr)
     clear nx
     go_wp2
     go_meet
     rw [← fin.out]
     exact ⟨rfl, rfl⟩
    ·have c2 : decide (4294967296 ≤ r + Y1) = false := decide_eq_false hbr
     have fin := Lib.hid nx
     clear nx
     go_wp2
     exact ⟨⟨_, _, rfl, rfl, ⟨fin.out, by omega⟩⟩, by simp [intOf]; omega⟩
   ·have c1 : decide (4294967296 ≤ q) = false := decide_eq_false hA
    have g1 := wrap_u _ (B1.out (by omega))
    by_cases hC : 4294967296 * r + U1 < q * Y0
    ·have c3 : decide (4294967296 * r + U1 < q * Y0) = true := decide_eq_true hC
     have hqp : 1 ≤ q := by
      apply Int.le_of_not_gt
      intro hlt
      have e0 : q = 0 := by omega
      rw [e0] at hC
      have := HH.out.u1
      have := hi.out.1.r0
      omega
     have g4 := HQ.out hqp
     have nx := hi.out.1.step HH.out hi.out.2 (.inr hC)
     by_cases hbr : 4294967296 ≤ r + Y1
     ·have c2 : decide (4294967296 ≤ r + Y1) = true := decide_eq_true hbr
      have fin := Lib.hid (nx.exit2 HH.out hbr)
      clear nx
      go_wp2
      go_meet
      rw [← fin.out]
      exact ⟨rfl, rfl⟩
     ·have c2 : decide (4294967296 ≤ r + Y1) = false := decide_eq_false hbr
      have fin := Lib.hid nx
      clear nx
      go_wp2
      exact ⟨⟨_, _, rfl, rfl, ⟨fin.out, by omega⟩⟩, by simp [intOf]; omega⟩
    ·have c3 : decide (4294967296 * r + U1 < q * Y0) = false := decide_eq_false hC
     have fin := Lib.hid (hi.out.1.exit HH.out (by omega))
     go_wp2
     go_meet
     rw [← fin.out]
     exact ⟨rfl, rfl⟩
 case rest =>
  obtain ⟨rfl, rfl⟩ := hcut
  obtain ⟨w0, rfl⟩ : ∃ w0 : World, w0 = w' := ⟨_, rfl⟩
  obtain ⟨Q1, hQ1⟩ : ∃ Q1, (U32 * 4294967296 + U1) / Y = Q1 := ⟨_, rfl⟩
  have hre := half_rest HH.out
  simp only [hQ1] at hre
  obtain ⟨re0, re1, re2⟩ := hre
  have hqq := HH.out.quo
  rw [hQ1] at hqq ⊢
  obtain ⟨U21, hU21⟩ : ∃ U21, U32 * 4294967296 + U1 - Q1 * Y = U21 := ⟨_, rfl⟩
  rw [hU21] at re0 re1
  have j1 : IntKind.u64.wrap (IntKind.u64.wrap (IntKind.u64.wrap (U32 * 4294967296) + U1) - IntKind.u64.wrap (Q1 * Y)) = U21 := by
   have hb := HP.out.2.2.2.2.2.2.2.1
   simp only [IntKind.wrap_u64]
   rw [B_eq] at hb
   generalize Q1 * Y = z at *
   omega
  have hH2 : Half U21 U0 Y Y1 Y0 := ⟨HH.out.y, HH.out.y0, HH.out.y1, ⟨re0, re1⟩, by have := HP.out.2.2.2.1; omega⟩
  have k0 : IntKind.u64.wrap (U21.tdiv Y1) = U21 / Y1 := by
   have := hH2.start.1.q0
   have := hH2.start.1.q1
   rw [Int.tdiv_eq_ediv_of_nonneg hH2.u.1]
   exact wrap_u _ ⟨by omega, by rw [B_eq]; omega⟩
  have k1 : IntKind.u64.wrap (U21 / Y1 * Y1) = U21 / Y1 * Y1 := wrap_u _ (half_bounds hH2 hH2.start.1 hH2.start.2).2.1
  have k2 : IntKind.u64.wrap (U21 - U21 / Y1 * Y1) = U21 % Y1 := by
   have := hH2.start.1.e
   have := hH2.start.1.r0
   have := hH2.start.2
   rw [show U21 - U21 / Y1 * Y1 = U21 % Y1 by omega]
   exact wrap_u _ ⟨by omega, by rw [B_eq]; omega⟩
  have hst2 := Lib.hid hH2.start
  have HH2 := Lib.hid hH2
  have HQ1 := Lib.hid hQ1
  have HU21 := Lib.hid hU21
  have HRE := Lib.hid (And.intro re0 (And.intro re1 (And.intro re2 hqq)))
  clear hQ1 hU21 hH2 re0 re1 re2 hqq i0 i1 i2 e1 e2 e3
  go_upto_block 2 with fail
  go_cut [18, 16] (fun a b w1 => a = .int .u64 ((U21 * 4294967296 + U0) / Y) ∧ w0 = w1)
  case first =>
   go_wp2
   go_loop [18, 16] (fun a b => ∃ q r : Int, a = .int .u64 q ∧ b = .int .u64 r ∧ Hid (HalfI U21 U0 Y Y1 q r ∧ r < 4294967296)) (fun a _ => (intOf a).toNat)
   case atStart => exact ⟨_, _, rfl, rfl, hst2.out⟩
   case round =>
    obtain ⟨q, r, rfl, rfl, hi⟩ := hrel
    obtain ⟨b1, b2, b3, b4, b5⟩ := half_bounds HH2.out hi.out.1 hi.out.2
    have g2 := wrap_u _ b3
    have g3 := wrap_u _ b4
    have g5 := wrap_u _ b5
    have hq1 : 1 ≤ q → IntKind.u64.wrap (q - 1) = q - 1 := fun h => wrap_u _ ⟨by omega, by have := hi.out.1.q1; rw [B_eq]; omega⟩
    have hq0 := hi.out.1.q0
    have B1 := Lib.hid b1
    have HQ := Lib.hid hq1
    clear b1 b2 b3 b4 b5 hq1
    by_cases hA : 4294967296 ≤ q
    ·have c1 : decide (4294967296 ≤ q) = true := decide_eq_true hA
     have g4 := HQ.out (by omega)
     have nx := hi.out.1.step HH2.out hi.out.2 (.inl hA)
     by_cases hbr : 4294967296 ≤ r + Y1
     ·have c2 : decide (4294967296 ≤ r + Y1) = true := decide_eq_true hbr
      have fin := Lib.hid (nx.exit2 HH2.out hbr)
      clear nx
      go_wp2
      go_meet
      rw [← fin.out]
      exact ⟨rfl, rfl⟩
     ·have c2 : decide (4294967296 ≤ r + Y1) = false := decide_eq_false hbr
      have fin := Lib.hid nx
      clear nx
      go_wp2
      exact ⟨⟨_, _, rfl, rfl, ⟨fin.out, by omega⟩⟩, by simp [intOf]; omega⟩
    ·have c1 : decide (4294967296 ≤ q) = false := decide_eq_false hA
     have g1 := wrap_u _ (B1.out (by omega))
     by_cases hC : 4294967296 * r + U0 < q * Y0
     ·have c3 : decide (4294967296 * r + U0 < q * Y0) = true := decide_eq_true hC
      have hqp : 1 ≤ q := by
       apply Int.le_of_not_gt
       intro hlt
       have e0 : q = 0 := by omega
       rw [e0] at hC
       have := HH2.out.u1
       have := hi.out.1.r0
       omega
      have g4 := HQ.out hqp
      have nx := hi.out.1.step HH2.out hi.out.2 (.inr hC)
      by_cases hbr : 4294967296 ≤ r + Y1
      ·have c2 : decide (4294967296 ≤ r + Y1) = true := decide_eq_true hbr
       have fin := Lib.hid (nx.exit2 HH2.out hbr)
       clear nx
       go_wp2
       go_meet
       rw [← fin.out]
       exact ⟨rfl, rfl⟩
      ·have c2 : decide (4294967296 ≤ r + Y1) = false := decide_eq_false hbr
       have fin := Lib.hid nx
       clear nx
       go_wp2
       exact ⟨⟨_, _, rfl, rfl, ⟨fin.out, by omega⟩⟩, by simp [intOf]; omega⟩
     ·have c3 : decide (4294967296 * r + U0 < q * Y0) = false := decide_eq_false hC
      have fin := Lib.hid (hi.out.1.exit HH2.out (by omega))
      go_wp2
      go_meet
      rw [← fin.out]
      exact ⟨rfl, rfl⟩
  case rest =>
   obtain ⟨rfl, rfl⟩ := hcut
   obtain ⟨Q0, hQ0⟩ : ∃ Q0, (U21 * 4294967296 + U0) / Y = Q0 := ⟨_, rfl⟩
   have hre := half_rest HH2.out
   simp only [hQ0] at hre
   obtain ⟨re0, re1, re2⟩ := hre
   have hqq := HH2.out.quo
   rw [hQ0] at hqq ⊢
   obtain ⟨R, hR⟩ : ∃ R, U21 * 4294967296 + U0 - Q0 * Y = R := ⟨_, rfl⟩
   rw [hR] at re0 re1
   obtain ⟨hS, hS0, hYp, hU0, hU1, r0, r1, hs2, hh⟩ := HP.out
   have j1 : IntKind.u64.wrap (IntKind.u64.wrap (IntKind.u64.wrap (U21 * 4294967296) + U0) - IntKind.u64.wrap (Q0 * Y)) = R := by
    simp only [IntKind.wrap_u64]
    rw [B_eq] at hs2
    generalize Q0 * Y = z at *
    omega
   have j2 : IntKind.u64.wrap (IntKind.u64.wrap (Q1 * 4294967296) + Q0) = Q1 * 4294967296 + Q0 := by
    have := HRE.out
    simp only [IntKind.wrap_u64]
    omega
   have hU21 := HU21.out
   have hU := HU.out
   have hYS := HYY.out
   have hUU : (hi * B + lo) * S = (U32 * 4294967296 + U1) * 4294967296 + U0 := by
    rw [hU, B_eq]
    omega
   have fin := Lib.hid (div_compose (y := y) (R := R) hS0 (by omega) hUU (by rw [← hYS, hU21]; exact hR.symm) re0 (by rw [← hYS]; exact re1))
   rw [hS] at fin
   clear hUU hU hU21 hYS hR hQ0 hS hS0 hYp hU0 hU1 r0 r1 hs2 hh re0 re1 re2 hqq
   go_wp2
   go_ret2
   rw [fin.out.1, fin.out.2]
   exact ⟨rfl, by repeat (first | exact Dr.refl _ | apply Dr.step)⟩

theorem div64_c (hi lo y : Int) (hh : 0 ≤ hi ∧ hi < y) (h0 : 0 ≤ lo ∧ lo < B) (hy : y < B) (w : World) :
  Calls Tryz.prog 133 #[.int .u64 hi, .int .u64 lo, .int .u64 y] w fun e w' => e = .returned (.tuple #[.int .u64 ((hi * B + lo) / y), .int .u64 ((hi * B + lo) % y)]) ∧ Dr w w' := by
 by_cases h : hi = 0
 ·subst h
  have := div64_zero lo y h0 ⟨by omega, hy⟩ w
  rw [show (0 : Int) * B + lo = lo by omega]
  exact this
 ·exact div64_pos hi lo y ⟨by omega, hh.2⟩ h0 hy w
end Go.Proofs.YtoijlbcbbblbfaaGreatDoor
