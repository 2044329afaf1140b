import Derived.Test.YtoijlbcbbblbfaaGreatDoorY2G2x0
namespace Go.Proofs.YtoijlbcbbblbfaaGreatDoor
open Go.RowKit
open Num hiding B B_eq Lim sumB win sumB_congr Bp Bs sumB_bd subD subC sub_one addD addC add_one win_s win_congr take_step mul_one addp_step lv sumB_zero lv_of lv_bd lv_nil lv_trim Lim_zero win_zero sum_step Bmono sum_end len_of_lv ordN_val lv_lt_of_len ordL_val take_end win_split mul_step win_low win_bd win_change YB lv_set OfI dgt_lv
open Num32
set_option linter.unusedVariables false
set_option linter.unusedSimpArgs false

theorem make0_b (neg : Bool) (A0 : Option Addr) (n c0 : Nat) (l : List Int) (hn : l.length = n) (hn4 : n ≤ 20000) (hc0 : n ≤ c0) (w : World) (ha : RL w A0 l) (hla : Lim l) :
  Calls Tryz.prog 69 #[.bool neg, .slice A0 n c0] w fun e w' => e = .returned (.agg #[.bool (decide (sgn neg (lv l) < 0)), .string (encN ((sgn neg (lv l)).natAbs : Int))]) ∧ Below w.heap.size w w' := make0_r neg A0 n c0 l hn hn4 hc0 w ha hla
theorem sub_val {n1 n2 : Bool} (a b : Int) (h : n1 ≠ n2) : sgn n1 (a - b) = sgn n1 a + sgn n2 b ∧ sgn n2 (b - a) = sgn n1 a + sgn n2 b := by
 cases n1 <;> cases n2 <;> simp [sgn] at * <;> omega
theorem dig_len {r : List Int} {s : ByteArray} {k : Nat} (hl : Lim r) (ht : Tr r) (hv : lv r = nv s) (h : s.size ≤ 4 * k) : r.length ≤ k := by
 apply len_of_lv ht hl
 rw [hv, ← YB]
 exact size_pow h
theorem len_of_abs {r : List Int} {k : Nat} {v : Int} (hl : Lim r) (ht : Tr r) (hv : lv r = v) (h : (v.natAbs : Int) < 256 ^ (4 * k)) : r.length ≤ k := by
 apply len_of_lv ht hl
 have := (lv_bd hl).1
 rw [hv, ← YB]
 omega

set_option maxHeartbeats 2000000 in
set_option maxRecDepth 100000 in
theorem sum_r (n1 : Bool) (s1 : ByteArray) (n2 : Bool) (s2 : ByteArray) (h1 : s1.size ≤ 4000) (h2 : s2.size ≤ 4000) (w : World) :
  Calls Tryz.prog 65 #[.agg #[.bool n1, .string s1], .agg #[.bool n2, .string s2]] w fun e w' => e = .returned (putV (ival n1 s1 + ival n2 s2)) ∧ Below w.heap.size w w' := by
 obtain ⟨w3, hw3⟩ : ∃ w3, w3 = ((w.alloc (.cells #[.bool n1, .string s1] 24)).alloc (.cells #[.bool n2, .string s2] 24)).alloc (.cells #[.bool false, .string ⟨#[]⟩] 24) := ⟨_, rfl⟩
 have hb3 : Below w.heap.size w w3 := by rw [hw3]; exact (((Below.refl _ _).alloc (Nat.le_refl _) _).alloc (by simp) _).alloc (by simp; omega) _
 have d0 : w3.cell? ⟨w.heap.size, 0, none⟩ = some (.bool n1) := by rw [hw3]; simp [go_sem]
 have d1 : w3.cell? ⟨w.heap.size, 1, none⟩ = some (.string s1) := by rw [hw3]; simp [go_sem]
 have d2 : w3.cell? ⟨w.heap.size + 1, 0, none⟩ = some (.bool n2) := by rw [hw3]; simp [go_sem]
 have d3 : w3.cell? ⟨w.heap.size + 1, 1, none⟩ = some (.string s2) := by rw [hw3]; simp [go_sem]
 have d4 : w3.cell? ⟨w.heap.size + 2, 0, none⟩ = some (.bool false) := by rw [hw3]; simp [go_sem]
 have d5 : w3.cell? ⟨w.heap.size + 2, 1, none⟩ = some (.string ⟨#[]⟩) := by rw [hw3]; simp [go_sem]
 have d6 : w3.frozen? ⟨w.heap.size + 2, 0, none⟩ = false := by rw [hw3]; simp [go_sem]
 have d7 : w3.frozen? ⟨w.heap.size + 2, 1, none⟩ = false := by rw [hw3]; simp [go_sem]
 have hsz : w3.heap.size = w.heap.size + 3 := by rw [hw3]; simp
 have HW := Lib.hid hw3
 have HS := Lib.hid hb3
 have HSZ := Lib.hid hsz
 have HK := Lib.hid (show ∀ (w' : World) (h : Below w3.heap.size w3 w'), w'.cell? ⟨w.heap.size, 0, none⟩ = some (.bool n1) ∧ w'.cell? ⟨w.heap.size, 1, none⟩ = some (.string s1) ∧ w'.cell? ⟨w.heap.size + 1, 0, none⟩ = some (.bool n2) ∧ w'.cell? ⟨w.heap.size + 1, 1, none⟩ = some (.string s2) ∧ w'.cell? ⟨w.heap.size + 2, 0, none⟩ = some (.bool false) ∧ w'.cell? ⟨w.heap.size + 2, 1, none⟩ = some (.string ⟨#[]⟩) ∧ w'.frozen? ⟨w.heap.size + 2, 0, none⟩ = false ∧ w'.frozen? ⟨w.heap.size + 2, 1, none⟩ = false from
  fun w' h => ⟨(h.cell (by simp [hsz]; try omega)).trans d0, (h.cell (by simp [hsz]; try omega)).trans d1, (h.cell (by simp [hsz]; try omega)).trans d2, (h.cell (by simp [hsz]; try omega)).trans d3, (h.cell (by simp [hsz]; try omega)).trans d4, (h.cell (by simp [hsz]; try omega)).trans d5, (h.frozen (by simp [hsz]; try omega)).trans d6, (h.frozen (by simp [hsz]; try omega)).trans d7⟩)
 have HD1 := Lib.hid (digits_r s1 (by omega))
 have HD2 := Lib.hid (digits_r s2 (by omega))
 have HZ := Lib.hid (And.intro h1 h2)
 clear hw3 hb3 hsz d4 d5 d6 d7 h1 h2
 go_enter Tryz.func65, Tryz.ntmps65
 go_wp2_with fail
 rw [← HW.out]
 refine (HD1.out _).mono ?_
 rintro e w4 ⟨_, r1, rfl, ⟨g1, c1, rfl, hg1, hc1, hr1⟩, hl1, ht1, hv1, hb4⟩
 obtain ⟨e0, e1, e2, e3, e4, e5, e6, e7⟩ := HK.out _ hb4
 have HB4 := Lib.hid hb4
 have HR1 := Lib.hid (And.intro hr1 (And.intro hl1 (And.intro ht1 (And.intro hv1 hc1))))
 obtain ⟨m1, hm1⟩ : ∃ m1, r1.length = m1 := ⟨_, rfl⟩
 have HM1 := Lib.hid (And.intro hm1 (show m1 ≤ 1000 by rw [← hm1]; exact dig_len hl1 ht1 hv1 (by have := HZ.out.1; omega)))
 rw [hm1]
 clear hb4 hr1 hl1 ht1 hv1 hc1 hg1 d0 d1 d2 d3 hm1
 go_wp2_with fail
 refine (HD2.out _).mono ?_
 rintro e w5 ⟨_, r2, rfl, ⟨g2, c2, rfl, hg2, hc2, hr2⟩, hl2, ht2, hv2, hb5⟩
 clear e0 e1 e2 e3 e4 e5 e6 e7
 have hb35 := HB4.out.trans (hb5.mono HB4.out.size)
 obtain ⟨e0, e1, e2, e3, e4, e5, e6, e7⟩ := HK.out _ hb35
 have HR := Lib.hid (HS.out.trans (hb35.mono (by rw [HSZ.out]; omega)))
 have HLR := Lib.hid (show w.heap.size + 2 < w5.heap.size by have := hb35.size; rw [HSZ.out] at this; omega)
 have HRW := Lib.hid (show ∀ w6 : World, w6.heap = w5.heap → RL w6 (some ⟨g1, 0, none⟩) r1 ∧ RL w6 (some ⟨g2, 0, none⟩) r2 from fun w6 h6 => ⟨(rl_below hb5 HR1.out.1 (Nat.le_refl _)).heap h6, hr2.heap h6⟩)
 have HR2 := Lib.hid (And.intro hl2 (And.intro ht2 (And.intro hv2 hc2)))
 obtain ⟨m2, hm2⟩ : ∃ m2, r2.length = m2 := ⟨_, rfl⟩
 have HM2 := Lib.hid (And.intro hm2 (show m2 ≤ 1000 by rw [← hm2]; exact dig_len hl2 ht2 hv2 (by have := HZ.out.2; omega)))
 rw [hm2]
 have HP := Lib.hid (And.intro (nv_bd s1).1 (nv_bd s2).1)
 have HPW := Lib.hid (And.intro (size_pow (k := 4000) HZ.out.1) (size_pow (k := 4000) HZ.out.2))
 clear hb5 hr2 hl2 ht2 hv2 hc2 hg2 hm2
 by_cases hn : n1 = n2
 ·subst hn
  have hvl : sgn n1 (nv s1 + nv s2) = ival n1 s1 + ival n1 s2 := by unfold ival sgn; split <;> omega
  have HAB := Lib.hid (show (((nv s1 + nv s2).natAbs : Nat) : Int) < 256 ^ (4 * 1001) by
   have h3 := Ymono (show 4001 ≤ 4 * 1001 by omega)
   have h4 := Ys 4000
   obtain ⟨a1, a2⟩ := HP.out
   obtain ⟨b1, b2⟩ := HPW.out
   generalize (256 : Int) ^ (4 * 1001) = u at *
   generalize (256 : Int) ^ 4001 = u2 at *
   generalize (256 : Int) ^ 4000 = u3 at *
   omega)
  have HAB2 := Lib.hid (show 1001 ≤ 20000 by omega)
  have HVAL := Lib.hid hvl
  have HLB := Lib.hid (show w.heap.size < w5.heap.size by have := HLR.out; omega)
  have HAR := Lib.hid (fun (w6 : World) (h6 : w6.heap = w5.heap) => add_r (some ⟨g1, 0, none⟩) (some ⟨g2, 0, none⟩) m1 m2 c1 c2 r1 r2 HM1.out.1 HM2.out.1 (by have := HM1.out.2; omega) (by have := HM2.out.2; omega) w6 (HRW.out w6 h6).1 (HRW.out w6 h6).2 HR1.out.2.1 HR2.out.1)
  rw [HR1.out.2.2.2.1, HR2.out.2.2.1] at HAR
  have hne : ¬ w.heap.size = w.heap.size + 1 + 1 := by omega
  clear hvl hb35
  go_wp2
  go_region_held3 (fun w' => w'.cell? ⟨w.heap.size, 0, none⟩ = some (.bool n1)) (first | go_keep | exact y0 | exact (cell_far _ _ _ _ _ _ hne).trans ((cell_far _ _ _ _ _ _ hne).trans y0) | exact z0) (first | (go_at_call 68; go_must (refine (HAR.out _ (by rfl)).mono ?_; rintro e w7 ⟨_, r, rfl, ⟨g7, c7, rfl, hg7, hc7, hr7⟩, hl7, ht7, hv7, hbr⟩; have z0 := (hbr.cell (p := ⟨w.heap.size, 0, none⟩) HLB.out).trans e0; have p0 := (hbr.cell (p := ⟨w.heap.size + 2, 0, none⟩) HLR.out).trans e4; have p1 := (hbr.cell (p := ⟨w.heap.size + 2, 1, none⟩) HLR.out).trans e5; have p2 := (hbr.frozen (p := ⟨w.heap.size + 2, 0, none⟩) HLR.out).trans e6; have p3 := (hbr.frozen (p := ⟨w.heap.size + 2, 1, none⟩) HLR.out).trans e7; have HB7 := bel_join HR.out hbr HR.out.size rfl rfl rfl rfl; have hlb := Nat.lt_of_lt_of_le HLB.out hbr.size; have hlr := Nat.lt_of_lt_of_le HLR.out hbr.size; have hln := Nat.le_trans (len_of_abs hl7 ht7 hv7 HAB.out) HAB2.out; clear hbr)) | (go_at_call 69; go_must (refine (make0_b _ _ _ _ r rfl hln hc7 _ (by exact hr7) hl7).mono ?_; rintro e w8 ⟨rfl, hbt⟩; have y0 := (hbt.cell (p := ⟨w.heap.size, 0, none⟩) hlb).trans z0; have q0 := (hbt.cell (p := ⟨w.heap.size + 2, 0, none⟩) hlr).trans p0; have q1 := (hbt.cell (p := ⟨w.heap.size + 2, 1, none⟩) hlr).trans p1; have q2 := (hbt.frozen (p := ⟨w.heap.size + 2, 0, none⟩) hlr).trans p2; have q3 := (hbt.frozen (p := ⟨w.heap.size + 2, 1, none⟩) hlr).trans p3; have HB8 := bel_join HB7 hbt HB7.size rfl rfl rfl rfl; clear hbt)))
  go_wp2
  refine bodyPost_ret (by simp [results, Tryz.results65, go_sem, q0, q1]; try rfl) rfl ?_
  exact ⟨by first | (rw [← HVAL.out]; rfl) | (rw [hv7, ← HVAL.out]; rfl), (HB8.setCell (by simp; try omega) _).setCell (by simp; try omega) _⟩
 ·have q : (n1 == n2) = false := beq_eq_false_iff_ne.mpr hn
  have HNE := Lib.hid hn
  have HCM := Lib.hid (cmp_r (some ⟨g1, 0, none⟩) (some ⟨g2, 0, none⟩) m1 m2 c1 c2 r1 r2 HM1.out.1 HM2.out.1 (by have := HM1.out.2; omega) (by have := HM2.out.2; omega) w5 (HRW.out w5 rfl).1 (HRW.out w5 rfl).2 HR1.out.2.1 HR2.out.1 HR1.out.2.2.1 HR2.out.2.1)
  rw [HR1.out.2.2.2.1, HR2.out.2.2.1] at HCM
  have HB35 := Lib.hid (show Below w3.heap.size w3 w5 from hb35)
  obtain ⟨cv, hcv⟩ : ∃ cv, cmpI (nv s1) (nv s2) = cv := ⟨_, rfl⟩
  rw [hcv] at HCM
  have HCV := Lib.hid hcv
  clear hn hcv hb35
  go_wp2_with fail
  refine (HCM.out).mono ?_
  rintro e w6 ⟨rfl, hb6⟩
  clear e0 e1 e2 e3 e4 e5 e6 e7
  have hb36 := HB35.out.trans (hb6.mono HB35.out.size)
  obtain ⟨e0, e1, e2, e3, e4, e5, e6, e7⟩ := HK.out _ hb36
  have HR := Lib.hid (HS.out.trans (hb36.mono (by rw [HSZ.out]; omega)))
  have HLR := Lib.hid (show w.heap.size + 2 < w6.heap.size by have := hb36.size; rw [HSZ.out] at this; omega)
  have HRW := Lib.hid (show ∀ w7 : World, w7.heap = w6.heap → RL w7 (some ⟨g1, 0, none⟩) r1 ∧ RL w7 (some ⟨g2, 0, none⟩) r2 from fun w7 h7 => ⟨(rl_below hb6 (HRW.out w5 rfl).1 (Nat.le_refl _)).heap h7, (rl_below hb6 (HRW.out w5 rfl).2 (Nat.le_refl _)).heap h7⟩)
  clear hb6 hb36
  have HAB2 := Lib.hid (show 1000 ≤ 20000 by omega)
  by_cases hge : 0 ≤ cv
  ·have t1 : decide ((0 : Int) ≤ cv) = true := decide_eq_true hge
   have hle : nv s2 ≤ nv s1 := by
    have h := HCV.out
    rcases cmpI_cases (nv s1) (nv s2) with ⟨h3, h4⟩ | ⟨h3, h4⟩ | ⟨h3, h4⟩ <;> omega
   have hvl : sgn n1 (nv s1 - nv s2) = ival n1 s1 + ival n2 s2 := (sub_val _ _ HNE.out).1
   have HAB := Lib.hid (show (((nv s1 - nv s2).natAbs : Nat) : Int) < 256 ^ (4 * 1000) by
    obtain ⟨a1, a2⟩ := HP.out
    obtain ⟨b1, b2⟩ := HPW.out
    rw [show 4 * 1000 = 4000 from rfl]
    generalize (256 : Int) ^ 4000 = u3 at *
    omega)
   have HVAL := Lib.hid hvl
   have HLB := Lib.hid (show w.heap.size < w6.heap.size by have := HLR.out; omega)
   have HAR := Lib.hid (fun (w7 : World) (h7 : w7.heap = w6.heap) => sub_r (some ⟨g1, 0, none⟩) (some ⟨g2, 0, none⟩) m1 m2 c1 c2 r1 r2 HM1.out.1 HM2.out.1 (by have := HM1.out.2; omega) (by have := HM2.out.2; omega) w7 (HRW.out w7 h7).1 (HRW.out w7 h7).2 HR1.out.2.1 HR2.out.1 HR2.out.2.1 (by rw [HR1.out.2.2.2.1, HR2.out.2.2.1]; exact hle))
   rw [HR1.out.2.2.2.1, HR2.out.2.2.1] at HAR
   have hne : ¬ w.heap.size = w.heap.size + 1 + 1 := by omega
   clear hvl hle hge
   go_wp2
   go_region_held3 (fun w' => w'.cell? ⟨w.heap.size, 0, none⟩ = some (.bool n1)) (first | go_keep | exact y0 | exact (cell_far _ _ _ _ _ _ hne).trans ((cell_far _ _ _ _ _ _ hne).trans y0) | exact z0) (first | (go_at_call 85; go_must (refine (HAR.out _ (by rfl)).mono ?_; rintro e w7 ⟨_, r, rfl, ⟨g7, c7, rfl, hg7, hc7, hr7⟩, hl7, ht7, hv7, hbr⟩; have z0 := (hbr.cell (p := ⟨w.heap.size, 0, none⟩) HLB.out).trans e0; have p0 := (hbr.cell (p := ⟨w.heap.size + 2, 0, none⟩) HLR.out).trans e4; have p1 := (hbr.cell (p := ⟨w.heap.size + 2, 1, none⟩) HLR.out).trans e5; have p2 := (hbr.frozen (p := ⟨w.heap.size + 2, 0, none⟩) HLR.out).trans e6; have p3 := (hbr.frozen (p := ⟨w.heap.size + 2, 1, none⟩) HLR.out).trans e7; have HB7 := bel_join HR.out hbr HR.out.size rfl rfl rfl rfl; have hlb := Nat.lt_of_lt_of_le HLB.out hbr.size; have hlr := Nat.lt_of_lt_of_le HLR.out hbr.size; have hln := Nat.le_trans (len_of_abs hl7 ht7 hv7 HAB.out) HAB2.out; clear hbr)) | (go_at_call 69; go_must (refine (make0_b _ _ _ _ r rfl hln hc7 _ (by exact hr7) hl7).mono ?_; rintro e w8 ⟨rfl, hbt⟩; have y0 := (hbt.cell (p := ⟨w.heap.size, 0, none⟩) hlb).trans z0; have q0 := (hbt.cell (p := ⟨w.heap.size + 2, 0, none⟩) hlr).trans p0; have q1 := (hbt.cell (p := ⟨w.heap.size + 2, 1, none⟩) hlr).trans p1; have q2 := (hbt.frozen (p := ⟨w.heap.size + 2, 0, none⟩) hlr).trans p2; have q3 := (hbt.frozen (p := ⟨w.heap.size + 2, 1, none⟩) hlr).trans p3; have HB8 := bel_join HB7 hbt HB7.size rfl rfl rfl rfl; clear hbt)))
   go_wp2
   refine bodyPost_ret (by simp [results, Tryz.results65, go_sem, q0, q1]; try rfl) rfl ?_
   exact ⟨by first | (rw [← HVAL.out]; rfl) | (rw [hv7, ← HVAL.out]; rfl), (HB8.setCell (by simp; try omega) _).setCell (by simp; try omega) _⟩
  ·have t1 : decide ((0 : Int) ≤ cv) = false := decide_eq_false hge
   have hle : nv s1 ≤ nv s2 := by
    have h := HCV.out
    rcases cmpI_cases (nv s1) (nv s2) with ⟨h3, h4⟩ | ⟨h3, h4⟩ | ⟨h3, h4⟩ <;> omega
   have hvl : sgn n2 (nv s2 - nv s1) = ival n1 s1 + ival n2 s2 := (sub_val _ _ HNE.out).2
   have HAB := Lib.hid (show (((nv s2 - nv s1).natAbs : Nat) : Int) < 256 ^ (4 * 1000) by
    obtain ⟨a1, a2⟩ := HP.out
    obtain ⟨b1, b2⟩ := HPW.out
    rw [show 4 * 1000 = 4000 from rfl]
    generalize (256 : Int) ^ 4000 = u3 at *
    omega)
   have HVAL := Lib.hid hvl
   have HLB := Lib.hid (show w.heap.size + 1 < w6.heap.size by have := HLR.out; omega)
   have HAR := Lib.hid (fun (w7 : World) (h7 : w7.heap = w6.heap) => sub_r (some ⟨g2, 0, none⟩) (some ⟨g1, 0, none⟩) m2 m1 c2 c1 r2 r1 HM2.out.1 HM1.out.1 (by have := HM2.out.2; omega) (by have := HM1.out.2; omega) w7 (HRW.out w7 h7).2 (HRW.out w7 h7).1 HR2.out.1 HR1.out.2.1 HR1.out.2.2.1 (by rw [HR1.out.2.2.2.1, HR2.out.2.2.1]; exact hle))
   rw [HR1.out.2.2.2.1, HR2.out.2.2.1] at HAR
   have hne : ¬ w.heap.size + 1 = w.heap.size + 1 + 1 := by omega
   clear hvl hle hge
   go_wp2
   go_region_held3 (fun w' => w'.cell? ⟨w.heap.size + 1, 0, none⟩ = some (.bool n2)) (first | go_keep | exact y0 | exact (cell_far _ _ _ _ _ _ hne).trans ((cell_far _ _ _ _ _ _ hne).trans y0) | exact z0) (first | (go_at_call 85; go_must (refine (HAR.out _ (by rfl)).mono ?_; rintro e w7 ⟨_, r, rfl, ⟨g7, c7, rfl, hg7, hc7, hr7⟩, hl7, ht7, hv7, hbr⟩; have z0 := (hbr.cell (p := ⟨w.heap.size + 1, 0, none⟩) HLB.out).trans e2; have p0 := (hbr.cell (p := ⟨w.heap.size + 2, 0, none⟩) HLR.out).trans e4; have p1 := (hbr.cell (p := ⟨w.heap.size + 2, 1, none⟩) HLR.out).trans e5; have p2 := (hbr.frozen (p := ⟨w.heap.size + 2, 0, none⟩) HLR.out).trans e6; have p3 := (hbr.frozen (p := ⟨w.heap.size + 2, 1, none⟩) HLR.out).trans e7; have HB7 := bel_join HR.out hbr HR.out.size rfl rfl rfl rfl; have hlb := Nat.lt_of_lt_of_le HLB.out hbr.size; have hlr := Nat.lt_of_lt_of_le HLR.out hbr.size; have hln := Nat.le_trans (len_of_abs hl7 ht7 hv7 HAB.out) HAB2.out; clear hbr)) | (go_at_call 69; go_must (refine (make0_b _ _ _ _ r rfl hln hc7 _ (by exact hr7) hl7).mono ?_; rintro e w8 ⟨rfl, hbt⟩; have y0 := (hbt.cell (p := ⟨w.heap.size + 1, 0, none⟩) hlb).trans z0; have q0 := (hbt.cell (p := ⟨w.heap.size + 2, 0, none⟩) hlr).trans p0; have q1 := (hbt.cell (p := ⟨w.heap.size + 2, 1, none⟩) hlr).trans p1; have q2 := (hbt.frozen (p := ⟨w.heap.size + 2, 0, none⟩) hlr).trans p2; have q3 := (hbt.frozen (p := ⟨w.heap.size + 2, 1, none⟩) hlr).trans p3; have HB8 := bel_join HB7 hbt HB7.size rfl rfl rfl rfl; clear hbt)))
   go_wp2
   refine bodyPost_ret (by simp [results, Tryz.results65, go_sem, q0, q1]; try rfl) rfl ?_
   exact ⟨by first | (rw [← HVAL.out]; rfl) | (rw [hv7, ← HVAL.out]; rfl), (HB8.setCell (by simp; try omega) _).setCell (by simp; try omega) _⟩
end Go.Proofs.YtoijlbcbbblbfaaGreatDoor

namespace Go.Proofs.YtoijlbcbbblbfaaGreatDoor
open Go.RowKit
open Num hiding B B_eq Lim sumB win sumB_congr Bp Bs sumB_bd subD subC sub_one addD addC add_one win_s win_congr take_step mul_one addp_step lv sumB_zero lv_of lv_bd lv_nil lv_trim Lim_zero win_zero sum_step Bmono sum_end len_of_lv ordN_val lv_lt_of_len ordL_val take_end win_split mul_step win_low win_bd win_change YB lv_set OfI dgt_lv
open Num32
set_option linter.unusedVariables false
set_option linter.unusedSimpArgs false

set_option maxHeartbeats 2000000 in
theorem negate_r (n : Bool) (s : ByteArray) (w : World) :
  Calls Tryz.prog 50 #[.agg #[.bool n, .string s]] w fun e w' => e = .returned (.agg #[.bool (!n && decide (0 < s.size)), .string s]) ∧ Below w.heap.size w w' := by
 have hb : Below w.heap.size w ((w.alloc (.cells #[.bool n, .string s] 24)).alloc (.cells #[.bool false, .string ⟨#[]⟩] 24)) := ((Below.refl _ _).alloc (Nat.le_refl _) _).alloc (by simp) _
 have HB := Lib.hid hb
 clear hb
 cases n with
 | true =>
  go_enter Tryz.func50, Tryz.ntmps50
  go_wp2
  repeat (go_quiet (fail); try go_wp2)
  refine bodyPost_ret (by simp [results, Tryz.results50, go_sem]; try rfl) rfl ?_
  exact ⟨rfl, by first | exact HB.out | exact ((Below.refl _ _).alloc (Nat.le_refl _) _).alloc (by simp) _ | exact (((Below.refl _ _).alloc (Nat.le_refl _) _).alloc (by simp) _).drew⟩
 | false =>
  by_cases h : s.size = 0
  ·obtain ⟨t1, t2⟩ := toList_nil h
   have HZ := Lib.hid (show decide (0 < s.size) = false from decide_eq_false (by omega))
   clear h
   go_enter Tryz.func50, Tryz.ntmps50
   go_wp2
   repeat (go_quiet (fail); try go_wp2)
   refine bodyPost_ret (by simp [results, Tryz.results50, go_sem]; try rfl) rfl ?_
   exact ⟨by rw [HZ.out] <;> rfl, by first | exact HB.out | exact ((Below.refl _ _).alloc (Nat.le_refl _) _).alloc (by simp) _ | exact (((Below.refl _ _).alloc (Nat.le_refl _) _).alloc (by simp) _).drew⟩
  ·obtain ⟨t1, t2⟩ := toList_ne (by omega : 0 < s.size)
   have HZ := Lib.hid (show decide (0 < s.size) = true from decide_eq_true (by omega))
   clear h
   go_enter Tryz.func50, Tryz.ntmps50
   go_wp2
   repeat (go_quiet (fail); try go_wp2)
   refine bodyPost_ret (by simp [results, Tryz.results50, go_sem]; try rfl) rfl ?_
   exact ⟨by rw [HZ.out] <;> rfl, by first | exact HB.out | exact ((Below.refl _ _).alloc (Nat.le_refl _) _).alloc (by simp) _ | exact (((Below.refl _ _).alloc (Nat.le_refl _) _).alloc (by simp) _).drew⟩
theorem ival_neg' (n : Bool) (s : ByteArray) : ival (!n && decide (0 < s.size)) s = - ival n s := by
 unfold ival sgn
 cases n with
 | true => simp
 | false =>
  by_cases h : 0 < s.size
  ·rw [decide_eq_true h]; simp
  ·rw [decide_eq_false h]
   have : nv s = 0 := by
    unfold nv
    rw [show s.size = 0 by omega]
    rfl
   rw [this]; simp
end Go.Proofs.YtoijlbcbbblbfaaGreatDoor

namespace Go.Proofs.YtoijlbcbbblbfaaGreatDoor
open Go.RowKit
open Num hiding B B_eq Lim sumB win sumB_congr Bp Bs sumB_bd subD subC sub_one addD addC add_one win_s win_congr take_step mul_one addp_step lv sumB_zero lv_of lv_bd lv_nil lv_trim Lim_zero win_zero sum_step Bmono sum_end len_of_lv ordN_val lv_lt_of_len ordL_val take_end win_split mul_step win_low win_bd win_change YB lv_set OfI dgt_lv
open Num32
set_option linter.unusedVariables false
set_option linter.unusedSimpArgs false

set_option maxHeartbeats 4000000 in
set_option maxRecDepth 100000 in
theorem times_r (n1 : Bool) (s1 : ByteArray) (n2 : Bool) (s2 : ByteArray) (h1 : s1.size ≤ 4000) (h2 : s2.size ≤ 4000) (w : World) :
  Calls Tryz.prog 24 #[.agg #[.bool n1, .string s1], .agg #[.bool n2, .string s2]] w fun e w' => e = .returned (putV (ival n1 s1 * ival n2 s2)) ∧ Below w.heap.size w w' := by
 obtain ⟨w3, hw3⟩ : ∃ w3, w3 = ((w.alloc (.cells #[.bool n1, .string s1] 24)).alloc (.cells #[.bool n2, .string s2] 24)).alloc (.cells #[.bool false, .string ⟨#[]⟩] 24) := ⟨_, rfl⟩
 have hb3 : Below w.heap.size w w3 := by rw [hw3]; exact (((Below.refl _ _).alloc (Nat.le_refl _) _).alloc (by simp) _).alloc (by simp; omega) _
 have d0 : w3.cell? ⟨w.heap.size, 0, none⟩ = some (.bool n1) := by rw [hw3]; simp [go_sem]
 have d1 : w3.cell? ⟨w.heap.size, 1, none⟩ = some (.string s1) := by rw [hw3]; simp [go_sem]
 have d2 : w3.cell? ⟨w.heap.size + 1, 0, none⟩ = some (.bool n2) := by rw [hw3]; simp [go_sem]
 have d3 : w3.cell? ⟨w.heap.size + 1, 1, none⟩ = some (.string s2) := by rw [hw3]; simp [go_sem]
 have d4 : w3.cell? ⟨w.heap.size + 2, 0, none⟩ = some (.bool false) := by rw [hw3]; simp [go_sem]
 have d5 : w3.cell? ⟨w.heap.size + 2, 1, none⟩ = some (.string ⟨#[]⟩) := by rw [hw3]; simp [go_sem]
 have d6 : w3.frozen? ⟨w.heap.size + 2, 0, none⟩ = false := by rw [hw3]; simp [go_sem]
 have d7 : w3.frozen? ⟨w.heap.size + 2, 1, none⟩ = false := by rw [hw3]; simp [go_sem]
 have hsz : w3.heap.size = w.heap.size + 3 := by rw [hw3]; simp
 have HW := Lib.hid hw3
 have HS := Lib.hid hb3
 have HSZ := Lib.hid hsz
 have HK := Lib.hid (show ∀ (w' : World) (h : Below w3.heap.size w3 w'), w'.cell? ⟨w.heap.size, 0, none⟩ = some (.bool n1) ∧ w'.cell? ⟨w.heap.size, 1, none⟩ = some (.string s1) ∧ w'.cell? ⟨w.heap.size + 1, 0, none⟩ = some (.bool n2) ∧ w'.cell? ⟨w.heap.size + 1, 1, none⟩ = some (.string s2) ∧ w'.cell? ⟨w.heap.size + 2, 0, none⟩ = some (.bool false) ∧ w'.cell? ⟨w.heap.size + 2, 1, none⟩ = some (.string ⟨#[]⟩) ∧ w'.frozen? ⟨w.heap.size + 2, 0, none⟩ = false ∧ w'.frozen? ⟨w.heap.size + 2, 1, none⟩ = false from
  fun w' h => ⟨(h.cell (by simp [hsz]; try omega)).trans d0, (h.cell (by simp [hsz]; try omega)).trans d1, (h.cell (by simp [hsz]; try omega)).trans d2, (h.cell (by simp [hsz]; try omega)).trans d3, (h.cell (by simp [hsz]; try omega)).trans d4, (h.cell (by simp [hsz]; try omega)).trans d5, (h.frozen (by simp [hsz]; try omega)).trans d6, (h.frozen (by simp [hsz]; try omega)).trans d7⟩)
 have HD1 := Lib.hid (digits_r s1 (by omega))
 have HD2 := Lib.hid (digits_r s2 (by omega))
 have HZ := Lib.hid (And.intro h1 h2)
 have HVAL := Lib.hid (show sgn (n1 != n2) (nv s1 * nv s2) = ival n1 s1 * ival n2 s2 by
  unfold ival sgn
  cases n1 <;> cases n2 <;> simp [Int.neg_mul, Int.mul_neg])
 have HAB := Lib.hid (show ((((nv s1 * nv s2).natAbs : Nat) : Int) < 256 ^ (4 * 2000)) from mul_bd (k := 4000) (l := 4000) (by have := size_pow h1; have := (nv_bd s1).1; omega) (by have := size_pow h2; have := (nv_bd s2).1; omega) (by omega))
 clear h1 h2
 have L0 : w.heap.size < w3.heap.size := by rw [hsz]; omega
 have L1 : w.heap.size + 1 < w3.heap.size := by rw [hsz]; omega
 have L2 : w.heap.size + 2 < w3.heap.size := by rw [hsz]; omega
 have hne : ¬ w.heap.size = w.heap.size + 1 + 1 := by omega
 have hne2 : ¬ w.heap.size + 1 = w.heap.size + 1 + 1 := by omega
 have HBd := HS.out
 clear HK hw3 hb3 hsz
 go_enter Tryz.func24, Tryz.ntmps24
 go_upto_region 1 with fail
 rw [← HW.out]
 clear HW
 go_region_held3 (fun w' => w'.cell? ⟨w.heap.size, 0, none⟩ = some (.bool n1) ∧ w'.cell? ⟨w.heap.size, 1, none⟩ = some (.string s1) ∧ w'.cell? ⟨w.heap.size + 1, 0, none⟩ = some (.bool n2) ∧ w'.cell? ⟨w.heap.size + 1, 1, none⟩ = some (.string s2)) (first | exact ⟨v0, v1, v2, v3⟩ | exact ⟨x0, x1, x2, x3⟩ | exact ⟨y0, y1, y2, y3⟩ | exact ⟨z0, z1, z2, z3⟩ | exact ⟨d0, d1, d2, d3⟩ | exact ⟨(cell_far _ _ _ _ _ _ hne).trans ((cell_far _ _ _ _ _ _ hne).trans v0), (cell_far _ _ _ _ _ _ hne).trans ((cell_far _ _ _ _ _ _ hne).trans v1), (cell_far _ _ _ _ _ _ hne2).trans ((cell_far _ _ _ _ _ _ hne2).trans v2), (cell_far _ _ _ _ _ _ hne2).trans ((cell_far _ _ _ _ _ _ hne2).trans v3)⟩ | (refine ⟨?_, ?_, ?_, ?_⟩; go_keep; go_keep; go_keep; go_keep)) (first | (go_at_call 52; have gz := z0; clear gz; go_must (refine (HD2.out _).mono ?_; rintro e wy ⟨_, r2, rfl, ⟨g2, c2, rfl, hg2, hc2, hr2⟩, hl2, ht2, hv2, hbr⟩; have y0 := (hbr.cell (p := ⟨w.heap.size, 0, none⟩) (Lz0)).trans z0; have y1 := (hbr.cell (p := ⟨w.heap.size, 1, none⟩) (Lz0)).trans z1; have y2 := (hbr.cell (p := ⟨w.heap.size + 1, 0, none⟩) (Lz1)).trans z2; have y3 := (hbr.cell (p := ⟨w.heap.size + 1, 1, none⟩) (Lz1)).trans z3; have y4 := (hbr.cell (p := ⟨w.heap.size + 2, 0, none⟩) (Lz2)).trans z4; have y5 := (hbr.cell (p := ⟨w.heap.size + 2, 1, none⟩) (Lz2)).trans z5; have y6 := (hbr.frozen (p := ⟨w.heap.size + 2, 0, none⟩) (Lz2)).trans z6; have y7 := (hbr.frozen (p := ⟨w.heap.size + 2, 1, none⟩) (Lz2)).trans z7; have Ly0 := Nat.lt_of_lt_of_le Lz0 hbr.size; have Ly1 := Nat.lt_of_lt_of_le Lz1 hbr.size; have Ly2 := Nat.lt_of_lt_of_le Lz2 hbr.size; have hr1y := rl_below hbr hr1 (Nat.le_refl _); have HBy := bel_join HBz hbr HBz.size rfl rfl rfl rfl; clear hbr)) | (go_at_call 52; go_must (refine (HD1.out _).mono ?_; rintro e wz ⟨_, r1, rfl, ⟨g1, c1, rfl, hg1, hc1, hr1⟩, hl1, ht1, hv1, hbr⟩; have z0 := (hbr.cell (p := ⟨w.heap.size, 0, none⟩) (L0)).trans d0; have z1 := (hbr.cell (p := ⟨w.heap.size, 1, none⟩) (L0)).trans d1; have z2 := (hbr.cell (p := ⟨w.heap.size + 1, 0, none⟩) (L1)).trans d2; have z3 := (hbr.cell (p := ⟨w.heap.size + 1, 1, none⟩) (L1)).trans d3; have z4 := (hbr.cell (p := ⟨w.heap.size + 2, 0, none⟩) (L2)).trans d4; have z5 := (hbr.cell (p := ⟨w.heap.size + 2, 1, none⟩) (L2)).trans d5; have z6 := (hbr.frozen (p := ⟨w.heap.size + 2, 0, none⟩) (L2)).trans d6; have z7 := (hbr.frozen (p := ⟨w.heap.size + 2, 1, none⟩) (L2)).trans d7; have Lz0 := Nat.lt_of_lt_of_le L0 hbr.size; have Lz1 := Nat.lt_of_lt_of_le L1 hbr.size; have Lz2 := Nat.lt_of_lt_of_le L2 hbr.size; have HBz := bel_join HBd hbr HBd.size rfl rfl rfl rfl; clear hbr)) | (go_at_call 67; go_must (refine (mul_r (some ⟨g1, 0, none⟩) (some ⟨g2, 0, none⟩) _ _ c1 c2 r1 r2 rfl rfl (Nat.le_trans (dig_len (k := 1000) hl1 ht1 hv1 HZ.out.1) (by decide)) (Nat.le_trans (dig_len (k := 1000) hl2 ht2 hv2 HZ.out.2) (by decide)) _ (by exact hr1y) (by exact hr2) hl1 hl2).mono ?_; rintro e wx ⟨_, r3, rfl, ⟨g3, c3, rfl, hg3, hc3, hr3⟩, hl3, ht3, hv3, hbr⟩; have x0 := (hbr.cell (p := ⟨w.heap.size, 0, none⟩) (Ly0)).trans y0; have x1 := (hbr.cell (p := ⟨w.heap.size, 1, none⟩) (Ly0)).trans y1; have x2 := (hbr.cell (p := ⟨w.heap.size + 1, 0, none⟩) (Ly1)).trans y2; have x3 := (hbr.cell (p := ⟨w.heap.size + 1, 1, none⟩) (Ly1)).trans y3; have x4 := (hbr.cell (p := ⟨w.heap.size + 2, 0, none⟩) (Ly2)).trans y4; have x5 := (hbr.cell (p := ⟨w.heap.size + 2, 1, none⟩) (Ly2)).trans y5; have x6 := (hbr.frozen (p := ⟨w.heap.size + 2, 0, none⟩) (Ly2)).trans y6; have x7 := (hbr.frozen (p := ⟨w.heap.size + 2, 1, none⟩) (Ly2)).trans y7; have Lx0 := Nat.lt_of_lt_of_le Ly0 hbr.size; have Lx1 := Nat.lt_of_lt_of_le Ly1 hbr.size; have Lx2 := Nat.lt_of_lt_of_le Ly2 hbr.size; have HBx := bel_join HBy hbr HBy.size rfl rfl rfl rfl; rw [hv1, hv2] at hv3; have hln := Nat.le_trans (len_of_abs hl3 ht3 hv3 HAB.out) (by decide : 2000 ≤ 20000); clear hbr)) | (go_at_call 69; go_must (refine (make0_b _ _ _ _ r3 rfl hln hc3 _ (by exact hr3) hl3).mono ?_; rintro e wv ⟨rfl, hbr⟩; have v0 := (hbr.cell (p := ⟨w.heap.size, 0, none⟩) (Lx0)).trans x0; have v1 := (hbr.cell (p := ⟨w.heap.size, 1, none⟩) (Lx0)).trans x1; have v2 := (hbr.cell (p := ⟨w.heap.size + 1, 0, none⟩) (Lx1)).trans x2; have v3 := (hbr.cell (p := ⟨w.heap.size + 1, 1, none⟩) (Lx1)).trans x3; have v4 := (hbr.cell (p := ⟨w.heap.size + 2, 0, none⟩) (Lx2)).trans x4; have v5 := (hbr.cell (p := ⟨w.heap.size + 2, 1, none⟩) (Lx2)).trans x5; have v6 := (hbr.frozen (p := ⟨w.heap.size + 2, 0, none⟩) (Lx2)).trans x6; have v7 := (hbr.frozen (p := ⟨w.heap.size + 2, 1, none⟩) (Lx2)).trans x7; have HBv := bel_join HBx hbr HBx.size rfl rfl rfl rfl; clear hbr)))
 all_goals go_wp2
 all_goals refine bodyPost_ret (by simp [results, Tryz.results24, go_sem, v4, v5]; try rfl) rfl ?_
 all_goals exact ⟨by first | (rw [← HVAL.out]; rfl) | (rw [hv3, ← HVAL.out]; rfl), (HBv.setCell (by simp; try omega) _).setCell (by simp; try omega) _⟩

end Go.Proofs.YtoijlbcbbblbfaaGreatDoor

namespace Go.Proofs.YtoijlbcbbblbfaaGreatDoor
open Go.RowKit
open Num hiding B B_eq Lim sumB win sumB_congr Bp Bs sumB_bd subD subC sub_one addD addC add_one win_s win_congr take_step mul_one addp_step lv sumB_zero lv_of lv_bd lv_nil lv_trim Lim_zero win_zero sum_step Bmono sum_end len_of_lv ordN_val lv_lt_of_len ordL_val take_end win_split mul_step win_low win_bd win_change YB lv_set OfI dgt_lv
open Num32
set_option linter.unusedVariables false
set_option linter.unusedSimpArgs false

set_option maxHeartbeats 4000000 in
set_option maxRecDepth 100000 in
theorem order_r (n1 : Bool) (s1 : ByteArray) (n2 : Bool) (s2 : ByteArray) (h1 : s1.size ≤ 4000) (h2 : s2.size ≤ 4000) (hk1 : okI n1 s1) (hk2 : okI n2 s2) (w : World) :
  Calls Tryz.prog 64 #[.agg #[.bool n1, .string s1], .agg #[.bool n2, .string s2]] w fun e w' => e = .returned (.int .i64 (cmpI (ival n1 s1) (ival n2 s2))) ∧ Below w.heap.size w w' := by
 obtain ⟨w3, hw3⟩ : ∃ w3, w3 = (w.alloc (.cells #[.bool n1, .string s1] 24)).alloc (.cells #[.bool n2, .string s2] 24) := ⟨_, rfl⟩
 have hb3 : Below w.heap.size w w3 := by rw [hw3]; exact ((Below.refl _ _).alloc (Nat.le_refl _) _).alloc (by simp) _
 have d0 : w3.cell? ⟨w.heap.size, 0, none⟩ = some (.bool n1) := by rw [hw3]; simp [go_sem]
 have d1 : w3.cell? ⟨w.heap.size, 1, none⟩ = some (.string s1) := by rw [hw3]; simp [go_sem]
 have d2 : w3.cell? ⟨w.heap.size + 1, 0, none⟩ = some (.bool n2) := by rw [hw3]; simp [go_sem]
 have d3 : w3.cell? ⟨w.heap.size + 1, 1, none⟩ = some (.string s2) := by rw [hw3]; simp [go_sem]
 have hsz : w3.heap.size = w.heap.size + 2 := by rw [hw3]; simp
 have HW := Lib.hid hw3
 have HS := Lib.hid hb3
 have HD1 := Lib.hid (digits_r s1 (by omega))
 have HD2 := Lib.hid (digits_r s2 (by omega))
 have HZ := Lib.hid (And.intro h1 h2)
 have hp1 := (nv_bd s1).1
 have hp2 := (nv_bd s2).1
 have hz1 : n1 = true → 0 < nv s1 := fun hn => by
  have h3 := hk1.2.2 hn
  have h4 := size_of_canon hk1.2.1
  rcases (show nv s1 = 0 ∨ 0 < nv s1 by omega) with h | h
  ·rw [h, nb_zero] at h4; omega
  ·exact h
 have hz2 : n2 = true → 0 < nv s2 := fun hn => by
  have h3 := hk2.2.2 hn
  have h4 := size_of_canon hk2.2.1
  rcases (show nv s2 = 0 ∨ 0 < nv s2 by omega) with h | h
  ·rw [h, nb_zero] at h4; omega
  ·exact h
 have HPZ := Lib.hid (And.intro hp1 (And.intro hp2 (And.intro hz1 hz2)))
 have L0 : w.heap.size < w3.heap.size := by rw [hsz]; omega
 have L1 : w.heap.size + 1 < w3.heap.size := by rw [hsz]; omega
 have HBd := HS.out
 clear hw3 hb3 hsz h1 h2 hk1 hk2 hp1 hp2 hz1 hz2
 by_cases hn : n1 = n2
 ·subst hn
  have HCX := Lib.hid (show cmpI (ival n1 s1) (ival n1 s2) = if n1 then - cmpI (nv s1) (nv s2) else cmpI (nv s1) (nv s2) by
   unfold ival sgn
   cases n1 with
   | false => rfl
   | true =>
    simp only [if_true]
    rcases cmpI_cases (nv s1) (nv s2) with ⟨h, e⟩ | ⟨h, e⟩ | ⟨h, e⟩
    ·rw [e, cmpI_gt (by omega)]; rfl
    ·rw [h, cmpI_eq, cmpI_eq]; rfl
    ·rw [e, cmpI_lt (by omega)])
  obtain ⟨cv, hcv⟩ : ∃ cv, cmpI (nv s1) (nv s2) = cv := ⟨_, rfl⟩
  have HCV := Lib.hid hcv
  have hbd : -1 ≤ cv ∧ cv ≤ 1 := by
   rcases cmpI_cases (nv s1) (nv s2) with ⟨h, e⟩ | ⟨h, e⟩ | ⟨h, e⟩ <;> rw [← hcv, e] <;> omega
  have a1 : IntKind.i64.wrap (-cv) = -cv := IntWalk.i64_in _ (by omega)
  rw [HCX.out, hcv]
  clear hcv
  go_enter Tryz.func64, Tryz.ntmps64
  go_upto_region 1 with fail
  rw [← HW.out]
  clear HW
  go_wp2
  go_region_held3 (fun w' => w'.cell? ⟨w.heap.size, 0, none⟩ = some (.bool n1) ∧ w'.cell? ⟨w.heap.size, 1, none⟩ = some (.string s1) ∧ w'.cell? ⟨w.heap.size + 1, 1, none⟩ = some (.string s2)) (first | exact ⟨x0, x1, x3⟩ | exact ⟨y0, y1, y3⟩ | exact ⟨z0, z1, z3⟩ | exact ⟨d0, d1, d3⟩ | go_keep) (first | (go_at_call 52; have gz := z0; clear gz; go_must (refine (HD2.out _).mono ?_; rintro e wy ⟨_, r2, rfl, ⟨g2, c2, rfl, hg2, hc2, hr2⟩, hl2, ht2, hv2, hbr⟩; have y0 := (hbr.cell (p := ⟨w.heap.size, 0, none⟩) (Lz0)).trans z0; have y1 := (hbr.cell (p := ⟨w.heap.size, 1, none⟩) (Lz0)).trans z1; have y2 := (hbr.cell (p := ⟨w.heap.size + 1, 0, none⟩) (Lz1)).trans z2; have y3 := (hbr.cell (p := ⟨w.heap.size + 1, 1, none⟩) (Lz1)).trans z3; have Ly0 := Nat.lt_of_lt_of_le Lz0 hbr.size; have Ly1 := Nat.lt_of_lt_of_le Lz1 hbr.size; have hr1y := rl_below hbr hr1 (Nat.le_refl _); have HBy := bel_join HBz hbr HBz.size rfl rfl rfl rfl; clear hbr)) | (go_at_call 52; go_must (refine (HD1.out _).mono ?_; rintro e wz ⟨_, r1, rfl, ⟨g1, c1, rfl, hg1, hc1, hr1⟩, hl1, ht1, hv1, hbr⟩; have z0 := (hbr.cell (p := ⟨w.heap.size, 0, none⟩) (L0)).trans d0; have z1 := (hbr.cell (p := ⟨w.heap.size, 1, none⟩) (L0)).trans d1; have z2 := (hbr.cell (p := ⟨w.heap.size + 1, 0, none⟩) (L1)).trans d2; have z3 := (hbr.cell (p := ⟨w.heap.size + 1, 1, none⟩) (L1)).trans d3; have Lz0 := Nat.lt_of_lt_of_le L0 hbr.size; have Lz1 := Nat.lt_of_lt_of_le L1 hbr.size; have HBz := bel_join HBd hbr HBd.size rfl rfl rfl rfl; clear hbr)) | (go_at_call 84; go_must (refine (cmp_r (some ⟨g1, 0, none⟩) (some ⟨g2, 0, none⟩) _ _ c1 c2 r1 r2 rfl rfl (Nat.le_trans (dig_len (k := 1000) hl1 ht1 hv1 HZ.out.1) (by decide)) (Nat.le_trans (dig_len (k := 1000) hl2 ht2 hv2 HZ.out.2) (by decide)) _ (by exact hr1y) (by exact hr2) hl1 hl2 ht1 ht2).mono ?_; rw [hv1, hv2, HCV.out]; rintro e wx ⟨rfl, hbr⟩; have x0 := (hbr.cell (p := ⟨w.heap.size, 0, none⟩) (Ly0)).trans y0; have x1 := (hbr.cell (p := ⟨w.heap.size, 1, none⟩) (Ly0)).trans y1; have x2 := (hbr.cell (p := ⟨w.heap.size + 1, 0, none⟩) (Ly1)).trans y2; have x3 := (hbr.cell (p := ⟨w.heap.size + 1, 1, none⟩) (Ly1)).trans y3; have HBx := bel_join HBy hbr HBy.size rfl rfl rfl rfl; clear hbr)))
  all_goals go_wp2
  all_goals (cases n1 <;> go_wp2 <;> go_ret)
  all_goals first | exact ⟨by simp <;> rfl, HBx⟩ | exact ⟨rfl, HBx⟩ | exact ⟨rfl, HBx.drew⟩
 ·have q1 : (n1 != n2) = true := bne_iff_ne.mpr hn
  have HV := Lib.hid (show cmpI (ival n1 s1) (ival n2 s2) = if n1 then -1 else 1 by
   obtain ⟨p1, p2, z1, z2⟩ := HPZ.out
   unfold ival sgn
   cases n1 with
   | true =>
    cases n2 with
    | true => exact absurd rfl hn
    | false =>
     have := z1 rfl
     simp only [if_true]
     rw [cmpI_lt (by simp; omega)]
   | false =>
    cases n2 with
    | false => exact absurd rfl hn
    | true =>
     have := z2 rfl
     simp only [if_true]
     rw [cmpI_gt (by simp; omega)]
     rfl)
  rw [HV.out]
  clear hn
  go_enter Tryz.func64, Tryz.ntmps64
  go_upto_region 1 with fail
  rw [← HW.out]
  clear HW
  cases n1 with
  | true =>
   cases n2 with
   | true => exact absurd q1 (by decide)
   | false =>
    clear q1
    go_wp2
    repeat (go_quiet (fail); try go_wp2)
    go_ret
    exact ⟨by first | rfl | (simp <;> rfl), by first | exact HBd | exact bdrN HBd _⟩
  | false =>
   cases n2 with
   | false => exact absurd q1 (by decide)
   | true =>
    clear q1
    go_wp2
    repeat (go_quiet (fail); try go_wp2)
    go_ret
    exact ⟨by first | rfl | (simp <;> rfl), by first | exact HBd | exact bdrN HBd _⟩
end Go.Proofs.YtoijlbcbbblbfaaGreatDoor
