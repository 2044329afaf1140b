import Derived.Test.YtimpimnaknkgpaaDoorR6
namespace Go.Proofs.YtimpimnaknkgpaaDoor
open Go.RowKit
open Num hiding B B_eq Lim sumB win sumB_congr Bp Bs sumB_bd subD subC sub_one addD addC add_one win_s win_congr take_step mul_one addp_step lv sumB_zero lv_of lv_bd lv_nil lv_trim Lim_zero win_zero sum_step Bmono sum_end len_of_lv ordN_val lv_lt_of_len ordL_val take_end win_split mul_step win_low win_bd win_change YB lv_set OfI dgt_lv
open Num32
set_option linter.unusedVariables false
set_option linter.unusedSimpArgs false

set_option maxHeartbeats 1000000 in
set_option maxRecDepth 100000 in
theorem cmp_r (A0 A1 : Option Addr) (n m c0 c1 : Nat) (a b : List Int) (hn : a.length = n) (hm : b.length = m) (hn4 : n ≤ 100000) (hm4 : m ≤ 100000) (w : World) (ha : RL w A0 a) (hb : RL w A1 b) (hla : Lim a) (hlb : Lim b) (hta : Tr a) (htb : Tr b) :
    Calls Tryd.prog 40 #[.slice A0 n c0, .slice A1 m c1] w fun e w' => e = .returned (.int .i64 (cmpI (lv a) (lv b))) ∧ Below w.heap.size w w' := by
  have HV := Lib.hid (show ordL a b n m = cmpI (lv a) (lv b) by rw [← hn, ← hm]; exact ordL_val hla hlb hta htb)
  rw [← HV.out]
  clear HV
  unfold ordL
  by_cases hnm : n = m
  · subst hnm
    rw [if_pos (cmpI_eq _)]
    have HA := Lib.hid ha
    have HB := Lib.hid hb
    have HN := Lib.hid (And.intro hn hm)
    have h1 : ((n : Int) != (n : Int)) = false := by simp
    clear ha hb hn hm
    go_enter Tryd.func40, Tryd.ntmps40
    go_wp2
    repeat (go_quiet (fail); try go_wp2)
    go_loopw [5] (fun t w1 => ∃ (k : Nat), k ≤ n ∧ t = .int .i64 ((k : Int) - 1) ∧ Hid (ordN a b k = ordN a b n) ∧ Dr w w1) (fun t _ => (intOf t + 1).toNat)
    case atStart => exact ⟨n, Nat.le_refl _, by first | rfl | simp, Lib.hid rfl, by repeat (first | exact Dr.refl _ | apply Dr.step)⟩
    case round =>
      obtain ⟨k, hk, rfl, HO, ⟨nd, rfl⟩⟩ := hrel
      cases k with
      | zero =>
        have h0 : decide ((0 : Int) ≤ ((0 : Nat) : Int) - 1) = false := by simp
        go_wp2
        repeat (go_quiet (fail); try go_wp2)
        go_ret
        exact ⟨by rw [← HO.out]; rfl, by repeat (first | exact Below.refl _ _ | apply bdrN)⟩
      | succ k =>
        have h0 : decide ((0 : Int) ≤ ((k + 1 : Nat) : Int) - 1) = true := by simp
        have hsub : ((k + 1 : Nat) : Int) - 1 = (k : Int) := by omega
        rw [hsub]
        have hkn : k < n := by omega
        obtain ⟨ad, rfl, hca⟩ := HA.out.2 (by rw [HN.out.1]; omega)
        obtain ⟨ad', rfl, hcb⟩ := HB.out.2 (by rw [HN.out.2]; omega)
        have ca := hca k (by rw [HN.out.1]; omega)
        have cb := hcb k (by rw [HN.out.2]; omega)
        clear hca hcb
        have HO1 := HO.out
        obtain ⟨x, hx⟩ : ∃ x, lg a k = x := ⟨_, rfl⟩
        obtain ⟨y, hy⟩ : ∃ y, lg b k = y := ⟨_, rfl⟩
        rw [hx] at ca
        rw [hy] at cb
        have hk1 : (0 : Int) ≤ (k : Int) := by omega
        rcases cmpI_cases x y with ⟨hl, hc⟩ | ⟨hl, hc⟩ | ⟨hl, hc⟩
        · have t1 : decide (x < y) = true := decide_eq_true hl
          have HR := Lib.hid (show ordN a b n = -1 by rw [← HO1, ordN_s1 (by rw [hx, hy, hc]; decide), hx, hy, hc])
          clear hx hy hl hc HO1
          go_wp2
          repeat (go_quiet (fail); try go_wp2)
          go_ret
          exact ⟨by rw [HR.out] <;> rfl, by repeat (first | exact Below.refl _ _ | apply bdrN)⟩
        · subst hl
          have t1 : decide (x < x) = false := by simp
          have HR := Lib.hid (show ordN a b k = ordN a b n by rw [← HO1, ordN_s0 (by rw [hx, hy]; exact cmpI_eq x)])
          clear hx hy hc HO1
          go_wp2
          repeat (go_quiet (fail); try go_wp2)
          exact ⟨⟨k, by omega, by first | rfl | simp, HR, by repeat (first | exact Dr.refl _ | apply Dr.step)⟩, by simp [intOf] <;> omega⟩
        · have t1 : decide (x < y) = false := decide_eq_false (by omega)
          have t2 : decide (y < x) = true := decide_eq_true hl
          have HR := Lib.hid (show ordN a b n = 1 by rw [← HO1, ordN_s1 (by rw [hx, hy, hc]; decide), hx, hy, hc])
          clear hx hy hl hc HO1
          go_wp2
          repeat (go_quiet (fail); try go_wp2)
          go_ret
          exact ⟨by rw [HR.out] <;> rfl, by repeat (first | exact Below.refl _ _ | apply bdrN)⟩
  · have h1 : ((n : Int) != (m : Int)) = true := bne_iff_ne.mpr (by omega)
    have h2 : ((n : Int) == (m : Int)) = false := beq_eq_false_iff_ne.mpr (by omega)
    have hne : cmpI (n : Int) (m : Int) ≠ 0 := fun h => hnm (cmpI_self h)
    rw [if_neg hne]
    rcases cmpI_cases (n : Int) (m : Int) with ⟨hl, hc⟩ | ⟨hl, hc⟩ | ⟨hl, hc⟩
    · rw [hc]
      have t1 : decide ((n : Int) < (m : Int)) = true := decide_eq_true hl
      have t2 : (n < m) = True := eq_true (by omega)
      have t3 : decide (n < m) = true := decide_eq_true (by omega)
      clear ha hb hn hm hne hl hc
      go_enter Tryd.func40, Tryd.ntmps40
      go_wp2
      repeat (go_quiet (fail); try go_wp2)
      go_ret
      exact ⟨rfl, by repeat (first | exact Below.refl _ _ | apply bdrN)⟩
    · exact absurd (by omega) hnm
    · rw [hc]
      have t1 : decide ((n : Int) < (m : Int)) = false := decide_eq_false (by omega)
      have t2 : (n < m) = False := eq_false (by omega)
      have t3 : decide (n < m) = false := decide_eq_false (by omega)
      clear ha hb hn hm hne hl hc
      go_enter Tryd.func40, Tryd.ntmps40
      go_wp2
      repeat (go_quiet (fail); try go_wp2)
      go_ret
      exact ⟨rfl, by repeat (first | exact Below.refl _ _ | apply bdrN)⟩
end Go.Proofs.YtimpimnaknkgpaaDoor
