import Derived.Test.YtoijlbcbbblbfaaGreatDoorY2G3x0
namespace Go.Proofs.YtoijlbcbbblbfaaGreatDoor
open Go.RowKit
open Num hiding B B_eq Lim sumB win sumB_congr Bp Bs sumB_bd subD subC sub_one addD addC add_one win_s win_congr take_step mul_one addp_step lv sumB_zero lv_of lv_bd lv_nil lv_trim Lim_zero win_zero sum_step Bmono sum_end len_of_lv ordN_val lv_lt_of_len ordL_val take_end win_split mul_step win_low win_bd win_change YB lv_set OfI dgt_lv
open Num32
set_option linter.unusedVariables false
set_option linter.unusedSimpArgs false

set_option maxHeartbeats 4000000 in
set_option maxRecDepth 100000 in
theorem order_r (n1 : Bool) (s1 : ByteArray) (n2 : Bool) (s2 : ByteArray) (h1 : s1.size ≤ 4000) (h2 : s2.size ≤ 4000) (hk1 : okI n1 s1) (hk2 : okI n2 s2) (w : World) :
  Calls Tryz.prog 64 #[.agg #[.bool n1, .string s1], .agg #[.bool n2, .string s2]] w fun e w' => e = .returned (.int .i64 (cmpI (ival n1 s1) (ival n2 s2))) ∧ Below w.heap.size w w' := by
 obtain ⟨w3, hw3⟩ : ∃ w3, w3 = (w.alloc (.cells #[.bool n1, .string s1] 24)).alloc (.cells #[.bool n2, .string s2] 24) := ⟨_, rfl⟩
 have hb3 : Below w.heap.size w w3 := by rw [hw3]; exact ((Below.refl _ _).alloc (Nat.le_refl _) _).alloc (by simp) _
 have d0 : w3.cell? ⟨w.heap.size, 0, none⟩ = some (.bool n1) := by rw [hw3]; simp [go_sem]
 have d1 : w3.cell? ⟨w.heap.size, 1, none⟩ = some (.string s1) := by rw [hw3]; simp [go_sem]
 have d2 : w3.cell? ⟨w.heap.size + 1, 0, none⟩ = some (.bool n2) := by rw [hw3]; simp [go_sem]
 have d3 : w3.cell? ⟨w.heap.size + 1, 1, none⟩ = some (.string s2) := by rw [hw3]; simp [go_sem]
 have hsz : w3.heap.size = w.heap.size + 2 := by rw [hw3]; simp
 have HW := Lib.hid hw3
 have HS := Lib.hid hb3
 have HD1 := Lib.hid (digits_r s1 (by omega))
 have HD2 := Lib.hid (digits_r s2 (by omega))
 have HZ := Lib.hid (And.intro h1 h2)
 have hp1 := (nv_bd s1).1
 have hp2 := (nv_bd s2).1
 have hz1 : n1 = true → 0 < nv s1 := fun hn => by
  have h3 := hk1.2.2 hn
  have h4 := size_of_canon hk1.2.1
  rcases (show nv s1 = 0 ∨ 0 < nv s1 by omega) with h | h
  ·rw [h, nb_zero] at h4; omega
  ·exact h
 have hz2 : n2 = true → 0 < nv s2 := fun hn => by
  have h3 := hk2.2.2 hn
  have h4 := size_of_canon hk2.2.1
  rcases (show nv s2 = 0 ∨ 0 < nv s2 by omega) with h | h
  ·rw [h, nb_zero] at h4; omega
  ·exact h
 have HPZ := Lib.hid (And.intro hp1 (And.intro hp2 (And.intro hz1 hz2)))
 have L0 : w.heap.size < w3.heap.size := by rw [hsz]; omega
 have L1 : w.heap.size + 1 < w3.heap.size := by rw [hsz]; omega
 have HBd := HS.out
 clear hw3 hb3 hsz h1 h2 hk1 hk2 hp1 hp2 hz1 hz2
 by_cases hn : n1 = n2
 ·subst hn
  have HCX := Lib.hid (show cmpI (ival n1 s1) (ival n1 s2) = if n1 then - cmpI (nv s1) (nv s2) else cmpI (nv s1) (nv s2) by
   unfold ival sgn
   cases n1 with
   | false => rfl
   | true =>
    simp only [if_true]
    rcases cmpI_cases (nv s1) (nv s2) with ⟨h, e⟩ | ⟨h, e⟩ | ⟨h, e⟩
    ·rw [e, cmpI_gt (by omega)]; rfl
    ·rw [h, cmpI_eq, cmpI_eq]; rfl
    ·rw [e, cmpI_lt (by omega)])
  obtain ⟨cv, hcv⟩ : ∃ cv, cmpI (nv s1) (nv s2) = cv := ⟨_, rfl⟩
  have HCV := Lib.hid hcv
  have hbd : -1 ≤ cv ∧ cv ≤ 1 := by
   rcases cmpI_cases (nv s1) (nv s2) with ⟨h, e⟩ | ⟨h, e⟩ | ⟨h, e⟩ <;> rw [← hcv, e] <;> omega
  have a1 : IntKind.i64.wrap (-cv) = -cv := IntWalk.i64_in _ (by omega)
  rw [HCX.out, hcv]
  clear hcv
  go_enter Tryz.func64, Tryz.ntmps64
  go_upto_region 1 with fail
  rw [← HW.out]
  clear HW
  go_wp2
  go_region_held3 (fun w' => w'.cell? ⟨w.heap.size, 0, none⟩ = some (.bool n1) ∧ w'.cell? ⟨w.heap.size, 1, none⟩ = some (.string s1) ∧ w'.cell? ⟨w.heap.size + 1, 1, none⟩ = some (.string s2)) (first | exact ⟨x0, x1, x3⟩ | exact ⟨y0, y1, y3⟩ | exact ⟨z0, z1, z3⟩ | exact ⟨d0, d1, d3⟩ | go_keep) (first | (go_at_call 52; have gz := z0; clear gz; go_must (refine (HD2.out _).mono ?_; rintro e wy ⟨_, r2, rfl, ⟨g2, c2, rfl, hg2, hc2, hr2⟩, hl2, ht2, hv2, hbr⟩; have y0 := (hbr.cell (p := ⟨w.heap.size, 0, none⟩) (Lz0)).trans z0; have y1 := (hbr.cell (p := ⟨w.heap.size, 1, none⟩) (Lz0)).trans z1; have y2 := (hbr.cell (p := ⟨w.heap.size + 1, 0, none⟩) (Lz1)).trans z2; have y3 := (hbr.cell (p := ⟨w.heap.size + 1, 1, none⟩) (Lz1)).trans z3; have Ly0 := Nat.lt_of_lt_of_le Lz0 hbr.size; have Ly1 := Nat.lt_of_lt_of_le Lz1 hbr.size; have hr1y := rl_below hbr hr1 (Nat.le_refl _); have HBy := bel_join HBz hbr HBz.size rfl rfl rfl rfl; clear hbr)) | (go_at_call 52; go_must (refine (HD1.out _).mono ?_; rintro e wz ⟨_, r1, rfl, ⟨g1, c1, rfl, hg1, hc1, hr1⟩, hl1, ht1, hv1, hbr⟩; have z0 := (hbr.cell (p := ⟨w.heap.size, 0, none⟩) (L0)).trans d0; have z1 := (hbr.cell (p := ⟨w.heap.size, 1, none⟩) (L0)).trans d1; have z2 := (hbr.cell (p := ⟨w.heap.size + 1, 0, none⟩) (L1)).trans d2; have z3 := (hbr.cell (p := ⟨w.heap.size + 1, 1, none⟩) (L1)).trans d3; have Lz0 := Nat.lt_of_lt_of_le L0 hbr.size; have Lz1 := Nat.lt_of_lt_of_le L1 hbr.size; have HBz := bel_join HBd hbr HBd.size rfl rfl rfl rfl; clear hbr)) | (go_at_call 84; go_must (refine (cmp_r (some ⟨g1, 0, none⟩) (some ⟨g2, 0, none⟩) _ _ c1 c2 r1 r2 rfl rfl (Nat.le_trans (dig_len (k := 1000) hl1 ht1 hv1 HZ.out.1) (by decide)) (Nat.le_trans (dig_len (k := 1000) hl2 ht2 hv2 HZ.out.2) (by decide)) _ (by exact hr1y) (by exact hr2) hl1 hl2 ht1 ht2).mono ?_; rw [hv1, hv2, HCV.out]; rintro e wx ⟨rfl, hbr⟩; have x0 := (hbr.cell (p := ⟨w.heap.size, 0, none⟩) (Ly0)).trans y0; have x1 := (hbr.cell (p := ⟨w.heap.size, 1, none⟩) (Ly0)).trans y1; have x2 := (hbr.cell (p := ⟨w.heap.size + 1, 0, none⟩) (Ly1)).trans y2; have x3 := (hbr.cell (p := ⟨w.heap.size + 1, 1, none⟩) (Ly1)).trans y3; have HBx := bel_join HBy hbr HBy.size rfl rfl rfl rfl; clear hbr)))
  all_goals go_wp2
  all_goals (cases n1 <;> go_wp2 <;> go_ret)
  all_goals first | exact ⟨by simp <;> rfl, HBx⟩ | exact ⟨rfl, HBx⟩ | exact ⟨rfl, HBx.drew⟩
 ·have q1 : (n1 != n2) = true := bne_iff_ne.mpr hn
  have HV := Lib.hid (show cmpI (ival n1 s1) (ival n2 s2) = if n1 then -1 else 1 by
   obtain ⟨p1, p2, z1, z2⟩ := HPZ.out
   unfold ival sgn
   cases n1 with
   | true =>
    cases n2 with
    | true => exact absurd rfl hn
    | false =>
     have := z1 rfl
     simp only [if_true]
     rw [cmpI_lt (by simp; omega)]
   | false =>
    cases n2 with
    | false => exact absurd rfl hn
    | true =>
     have := z2 rfl
     simp only [if_true]
     rw [cmpI_gt (by simp; omega)]
     rfl)
  rw [HV.out]
  clear hn
  go_enter Tryz.func64, Tryz.ntmps64
  go_upto_region 1 with fail
  rw [← HW.out]
  clear HW
  cases n1 with
  | true =>
   cases n2 with
   | true => exact absurd q1 (by decide)
   | false =>
    clear q1
    go_wp2
    repeat (go_quiet (fail); try go_wp2)
    go_ret
    exact ⟨by first | rfl | (simp <;> rfl), by first | exact HBd | exact bdrN HBd _⟩
  | false =>
   cases n2 with
   | false => exact absurd q1 (by decide)
   | true =>
    clear q1
    go_wp2
    repeat (go_quiet (fail); try go_wp2)
    go_ret
    exact ⟨by first | rfl | (simp <;> rfl), by first | exact HBd | exact bdrN HBd _⟩
end Go.Proofs.YtoijlbcbbblbfaaGreatDoor
