import Derived.Test.YtoijlbcbbblbfaaGreatDoorY2A
import Derived.Lib.Mul64
import Derived.Laws.Bits64b
namespace Go.Proofs.YtoijlbcbbblbfaaGreatDoor
open Go.RowKit Num Go.Lib
set_option linter.unusedVariables false
set_option linter.unusedSimpArgs false

namespace M64
theorem maskN (a : Nat) (ha : a < 18446744073709551616) : bits .and .u64 (a : Int) 4294967295 = ((a % 4294967296 : Nat) : Int) := by
 have h := bits_and_u64_nat a 4294967295 ha (by omega)
 have e : a &&& 4294967295 = a % 4294967296 := Nat.and_two_pow_sub_one_eq_mod a 32
 rw [e] at h
 exact h
theorem divN (a : Nat) : (a : Int) / 4294967296 = ((a / 4294967296 : Nat) : Int) := by omega
theorem mulN (a b : Nat) : (a : Int) * (b : Int) = ((a * b : Nat) : Int) := (Int.natCast_mul a b).symm
theorem addN (a b : Nat) : (a : Int) + (b : Int) = ((a + b : Nat) : Int) := (Int.natCast_add a b).symm
theorem wrapN (a : Nat) (ha : a < 18446744073709551616) : IntKind.u64.wrap (a : Int) = (a : Int) := by rw [IntKind.wrap_u64]; omega
theorem wrapM (a : Nat) : IntKind.u64.wrap (a : Int) = ((a % 18446744073709551616 : Nat) : Int) := by rw [IntKind.wrap_u64]; omega
end M64

set_option maxHeartbeats 1000000 in
theorem mul64_n (x y : Nat) (hx : x < 18446744073709551616) (hy : y < 18446744073709551616) (w : World) :
  Calls Tryz.prog 121 #[.int .u64 x, .int .u64 y] w fun e w' => e = .returned (.tuple #[.int .u64 ((x * y / 18446744073709551616 : Nat) : Int), .int .u64 ((x * y % 18446744073709551616 : Nat) : Int)]) ∧ w' = w := by
 obtain ⟨bd, bt, bw, hhi⟩ := Lib.mul64_hi x y hx hy
 have ba := Lib.half_mul_le (a := x / 4294967296) (b := y / 4294967296) (by omega) (by omega)
 have bb := Lib.half_mul_le (a := x / 4294967296) (b := y % 4294967296) (by omega) (by omega)
 have bc := Lib.half_mul_le (a := x % 4294967296) (b := y / 4294967296) (by omega) (by omega)
 have ba' : x / 4294967296 * (y / 4294967296) < 18446744073709551616 := by omega
 have bb' : x / 4294967296 * (y % 4294967296) < 18446744073709551616 := by omega
 have bc' : x % 4294967296 * (y / 4294967296) < 18446744073709551616 := by omega
 have bh1 : x / 4294967296 * (y / 4294967296) + (x / 4294967296 * (y % 4294967296) + x % 4294967296 * (y % 4294967296) / 4294967296) / 4294967296 < 18446744073709551616 := by omega
 have bh : x / 4294967296 * (y / 4294967296) + (x / 4294967296 * (y % 4294967296) + x % 4294967296 * (y % 4294967296) / 4294967296) / 4294967296 + ((x / 4294967296 * (y % 4294967296) + x % 4294967296 * (y % 4294967296) / 4294967296) % 4294967296 + x % 4294967296 * (y / 4294967296)) / 4294967296 < 18446744073709551616 := by omega
 go_enter Tryz.func121, Tryz.ntmps121
 go_wp2
 simp only [M64.maskN x hx, M64.maskN y hy, M64.divN, M64.mulN, M64.addN, M64.wrapN _ bd, M64.wrapN _ bb', M64.wrapN _ bt, M64.maskN _ bt, M64.wrapN _ bc', M64.wrapN _ bw, M64.wrapN _ ba', M64.wrapN _ bh1, M64.wrapN _ bh, M64.wrapM (x * y)]
 rw [hhi]
 go_ret2
 exact ⟨rfl, rfl⟩
theorem mul64_c (x y : Int) (hx : 0 ≤ x ∧ x < B) (hy : 0 ≤ y ∧ y < B) (w : World) :
  Calls Tryz.prog 121 #[.int .u64 x, .int .u64 y] w fun e w' => e = .returned (.tuple #[.int .u64 (x * y / B), .int .u64 (x * y % B)]) ∧ w' = w := by
 obtain ⟨x, rfl⟩ := Int.eq_ofNat_of_zero_le hx.1
 obtain ⟨y, rfl⟩ := Int.eq_ofNat_of_zero_le hy.1
 rw [B_eq] at *
 have h := mul64_n x y (by omega) (by omega) w
 rw [Int.natCast_ediv, Int.natCast_emod, Int.natCast_mul] at h
 exact h

theorem wrap_u (a : Int) (h : 0 ≤ a ∧ a < B) : IntKind.u64.wrap a = a := by rw [IntKind.wrap_u64]; rw [B_eq] at h; omega

def AddPP (g o n : Nat) (L l : List Int) (x : Int) (w : World) (e : Ending) (w' : World) : Prop := ∃ L' c, e = .returned (.int .u64 c) ∧ Blk w' g L' ∧ L'.length = L.length ∧ Lim L' ∧ (∀ j, (j < o ∨ o + n ≤ j) → lg L' j = lg L j) ∧ (0 ≤ c ∧ c < B) ∧ win L' o n + c * B ^ n = win L o n + x * sumB (lg l) n ∧ Only g w w'
structure AddPI (g o : Nat) (L l : List Int) (x : Int) (w : World) (k : Nat) (c : Int) (L' : List Int) (w1 : World) : Prop where
 blk : Blk w1 g L'
 len : L'.length = L.length
 lim : Lim L'
 far : ∀ j, (j < o ∨ o + k ≤ j) → lg L' j = lg L j
 car : 0 ≤ c ∧ c < B
 val : win L' o k + c * B ^ k = win L o k + x * sumB (lg l) k
 only : Only g w w1

set_option maxHeartbeats 1000000 in
theorem addProduct_c (g o n c0 : Nat) (L : List Int) (A1 : Option Addr) (c1 : Nat) (l : List Int) (x : Int) (hm : l.length = n) (w : World) (hB : Blk w g L) (hL : Lim L) (ho : o + n ≤ L.length)
  (hl : RL w A1 l) (hlim : Lim l) (hne : 0 < l.length → ∀ ad, A1 = some ad → ad.block ≠ g) (hx : 0 ≤ x ∧ x < B) :
  Calls Tryz.prog 107 #[.slice (some ⟨g, o, none⟩) n c0, .slice A1 n c1, .int .u64 x] w (AddPP g o n L l x w) := by
 have hm2 : n ≤ 9223372036854775807 := by have := hl.1; omega
 have H0 : AddPI g o L l x w 0 0 L w := ⟨hB, rfl, hL, fun _ _ => rfl, ⟨Int.le_refl _, by decide⟩, by simp [win, sumB], Only.refl _ _⟩
 have HM := Lib.hid hm
 have HO := Lib.hid ho
 have HL := Lib.hid hl
 have HLim := Lib.hid hlim
 have HNE := Lib.hid hne
 have HX := Lib.hid hx
 clear hm hB hL ho hl hlim hne hx
 go_enter Tryz.func107, Tryz.ntmps107
 go_wp2
 go_loopw [7, 8, 9, 10, 11, 12, 15] (fun cv _ _ _ _ _ t w1 => ∃ (k : Nat) (c : Int) (L' : List Int), k ≤ n ∧ t = .int .i64 k ∧ cv = .int .u64 c ∧ AddPI g o L l x w k c L' w1) (fun _ _ _ _ _ _ t _ => n - (intOf t).toNat)
 case atStart => exact ⟨0, 0, L, Nat.zero_le _, rfl, rfl, H0⟩
 case round =>
  clear H0
  obtain ⟨k, c, L', hk, rfl, rfl, hI⟩ := hrel
  have HI := Lib.hid hI
  by_cases hlt : k < n
  ·have hc := hI.blk.cell (o + k) (by rw [hI.len]; have := HO.out; omega)
   have hf := hI.blk.free (o + k)
   obtain ⟨m1, m2, m3, m4, m5, m6⟩ := mul_one HX.out (HLim.out k) (hI.lim (o + k)) hI.car
   have hS := addp_step (o := o) (L := L) (by rw [hI.len]; have := HO.out; omega) hI.lim HLim.out hI.far HX.out hI.car hI.val m4 m6
   have h1 : decide ((k : Int) < (n : Int)) = true := by simp; omega
   obtain ⟨ad, rfl, hcl⟩ := (HL.out.only hI.only HNE.out).2 (by have := HM.out; omega)
   have hc2 := hcl k (by have := HM.out; omega)
   have hcall := call_add64 (x * lg l k % B) (lg L' (o + k)) 0 m1 (hI.lim _) (Or.inl rfl)
   have hcall2 := call_add64 (addD (x * lg l k % B) (lg L' (o + k)) 0) c 0 m2 hI.car (Or.inl rfl)
   have HS := Lib.hid hS
   have M3 := Lib.hid m3
   have M5 := Lib.hid m5
   clear hS hI hcl m1 m2 m3 m4 m5 m6
   go_wp2_with (go_at_call 121; refine (mul64_c x (lg l k) HX.out (HLim.out k) _).mono ?_; rintro e w' ⟨rfl, rfl⟩)
   have HI2 := HI.out
   obtain ⟨s1, s2, s4⟩ := HS.out
   have W1 := wrap_u _ M3.out
   have W2 := wrap_u _ M5.out
   refine ⟨⟨k + 1, _, _, by omega, by go_num, ?_, ⟨HI2.blk.set _ _, by rw [List.length_set]; exact HI2.len, s1, s2, M5.out, s4, HI2.only.set _ _⟩⟩, by simp [intOf]; omega⟩
   rw [W1, W2]
  ·have he : k = n := by omega
   subst he
   have h1 : decide ((k : Int) < (k : Int)) = false := by simp
   go_wp2
   go_ret
   exact ⟨L', c, rfl, hI.blk, hI.len, hI.lim, hI.far, hI.car, hI.val, hI.only⟩
end Go.Proofs.YtoijlbcbbblbfaaGreatDoor
