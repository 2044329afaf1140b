import Derived.Test.YtoijlbcbbblbfaaGreatDoorZzG7x0
import Derived.Test.YtoijlbcbbblbfaaGreatDoorZzG3x0
namespace Go.Proofs.YtoijlbcbbblbfaaGreatDoor
open Go.RowKit
open Num hiding B B_eq Lim sumB win sumB_congr Bp Bs sumB_bd subD subC sub_one addD addC add_one win_s win_congr take_step mul_one addp_step lv sumB_zero lv_of lv_bd lv_nil lv_trim Lim_zero win_zero sum_step Bmono sum_end len_of_lv ordN_val lv_lt_of_len ordL_val take_end win_split mul_step win_low win_bd win_change YB lv_set OfI dgt_lv
open Num32
set_option linter.unusedVariables false
set_option linter.unusedSimpArgs false

theorem quo_fin (n1 n2 : Bool) {x y XV YV : Int} (hx : 0 ≤ x) (hy : 0 < y) (h1 : sgn (!(n1 == n2)) (x / y) = XV) (h2 : sgn n1 (x % y) = YV) :
  (0 ≤ YV → XV = sgn n1 x / sgn n2 y ∧ YV = sgn n1 x % sgn n2 y) ∧ (YV < 0 → XV + sgn (!n2) 1 = sgn n1 x / sgn n2 y ∧ YV + sgn false y = sgn n1 x % sgn n2 y) := by
 have h3 := Int.emod_nonneg x (show y ≠ 0 by omega)
 cases n1 with
 | false =>
  have := quo_f n2 hx hy
  refine ⟨fun _ => ⟨by rw [← h1]; exact this.1, by rw [← h2]; exact this.2⟩, fun h => ?_⟩
  rw [← h2] at h
  have h4 : x % y < 0 := h
  omega
 | true =>
  refine ⟨fun h => ?_, fun h => ?_⟩
  ·have h4 : 0 ≤ - (x % y) := by rw [← h2] at h; exact h
   have := quo_z n2 hx hy (by omega)
   exact ⟨by rw [← h1]; exact this.1, by rw [← h2]; exact this.2⟩
  ·have h4 : - (x % y) < 0 := by rw [← h2] at h; exact h
   have := quo_t n2 hx hy (by omega)
   exact ⟨by rw [← h1]; exact this.1, by rw [← h2]; exact this.2⟩
theorem nv_one : nv ⟨#[1]⟩ = 1 := by simp [nv, sumY, byt] <;> rfl
theorem sum_b (n1 : Bool) (s1 : ByteArray) (n2 : Bool) (s2 : ByteArray) (v : Int) (hv : ival n1 s1 + ival n2 s2 = v) (h1 : s1.size ≤ 4000) (h2 : s2.size ≤ 4000) (w : World) :
  Calls Tryz.prog 65 #[.agg #[.bool n1, .string s1], .agg #[.bool n2, .string s2]] w fun e w' => e = .returned (.agg #[.bool (pv v).1, .string (pv v).2]) ∧ Below w.heap.size w w' :=
 (sum_r n1 s1 n2 s2 h1 h2 w).mono fun e w' h => ⟨by rw [h.1, hv]; rfl, h.2⟩
theorem make0_p (neg : Bool) (A0 : Option Addr) (n c0 : Nat) (l : List Int) (v : Int) (hv : sgn neg (lv l) = v) (hn : l.length = n) (hn4 : n ≤ 20000) (hc0 : n ≤ c0) (w : World) (ha : RL w A0 l) (hla : Lim l) :
  Calls Tryz.prog 69 #[.bool neg, .slice A0 n c0] w fun e w' => e = .returned (.agg #[.bool (pv v).1, .string (pv v).2]) ∧ Below w.heap.size w w' :=
 (make0_r neg A0 n c0 l hn hn4 hc0 w ha hla).mono fun e w' h => ⟨by rw [h.1, hv]; rfl, h.2⟩

set_option maxHeartbeats 4000000 in
set_option maxRecDepth 100000 in
theorem quo_r (n1 : Bool) (s1 : ByteArray) (n2 : Bool) (s2 : ByteArray) (h1 : s1.size ≤ 1000) (h2 : s2.size ≤ 1000) (h0 : 0 < nv s2) (w : World) :
  Calls Tryz.prog 63 #[.agg #[.bool n1, .string s1], .agg #[.bool n2, .string s2]] w fun e w' => e = .returned (.tuple #[.agg #[.bool (pv (ival n1 s1 / ival n2 s2)).1, .string (pv (ival n1 s1 / ival n2 s2)).2], .agg #[.bool (pv (ival n1 s1 % ival n2 s2)).1, .string (pv (ival n1 s1 % ival n2 s2)).2]]) ∧ Below w.heap.size w w' := by
 obtain ⟨w4, hw4⟩ : ∃ w4, w4 = (((w.alloc (.cells #[.bool n1, .string s1] 24)).alloc (.cells #[.bool n2, .string s2] 24)).alloc (.cells #[.bool false, .string ⟨#[]⟩] 24)).alloc (.cells #[.bool false, .string ⟨#[]⟩] 24) := ⟨_, rfl⟩
 have hb4 : Below w.heap.size w w4 := by rw [hw4]; exact ((((Below.refl _ _).alloc (Nat.le_refl _) _).alloc (by simp; try omega) _).alloc (by simp; try omega) _).alloc (by simp; try omega) _
 have hsz : w4.heap.size = w.heap.size + 4 := by rw [hw4]; simp
 have HW := Lib.hid hw4
 have HS := Lib.hid hb4
 have HSZ := Lib.hid hsz
 have e0_0 : w4.cell? ⟨w.heap.size, 0, none⟩ = some (.bool n1) := by rw [hw4]; simp [go_sem]
 have e0_1 : w4.cell? ⟨w.heap.size, 1, none⟩ = some (.string s1) := by rw [hw4]; simp [go_sem]
 have e1_0 : w4.cell? ⟨w.heap.size + 1, 0, none⟩ = some (.bool n2) := by rw [hw4]; simp [go_sem]
 have e1_1 : w4.cell? ⟨w.heap.size + 1, 1, none⟩ = some (.string s2) := by rw [hw4]; simp [go_sem]
 have e2_0 : w4.cell? ⟨w.heap.size + 2, 0, none⟩ = some (.bool false) := by rw [hw4]; simp [go_sem]
 have e2_1 : w4.cell? ⟨w.heap.size + 2, 1, none⟩ = some (.string ⟨#[]⟩) := by rw [hw4]; simp [go_sem]
 have e3_0 : w4.cell? ⟨w.heap.size + 3, 0, none⟩ = some (.bool false) := by rw [hw4]; simp [go_sem]
 have e3_1 : w4.cell? ⟨w.heap.size + 3, 1, none⟩ = some (.string ⟨#[]⟩) := by rw [hw4]; simp [go_sem]
 have k2_0 : w4.frozen? ⟨w.heap.size + 2, 0, none⟩ = false := by rw [hw4]; simp [go_sem]
 have k2_1 : w4.frozen? ⟨w.heap.size + 2, 1, none⟩ = false := by rw [hw4]; simp [go_sem]
 have k3_0 : w4.frozen? ⟨w.heap.size + 3, 0, none⟩ = false := by rw [hw4]; simp [go_sem]
 have k3_1 : w4.frozen? ⟨w.heap.size + 3, 1, none⟩ = false := by rw [hw4]; simp [go_sem]
 have HK := Lib.hid (show ∀ (w' : World) (h : Below w4.heap.size w4 w'), w'.cell? ⟨w.heap.size, 0, none⟩ = some (.bool n1) ∧ w'.cell? ⟨w.heap.size, 1, none⟩ = some (.string s1) ∧ w'.cell? ⟨w.heap.size + 1, 0, none⟩ = some (.bool n2) ∧ w'.cell? ⟨w.heap.size + 1, 1, none⟩ = some (.string s2) ∧ w'.cell? ⟨w.heap.size + 2, 0, none⟩ = some (.bool false) ∧ w'.cell? ⟨w.heap.size + 2, 1, none⟩ = some (.string ⟨#[]⟩) ∧ w'.cell? ⟨w.heap.size + 3, 0, none⟩ = some (.bool false) ∧ w'.cell? ⟨w.heap.size + 3, 1, none⟩ = some (.string ⟨#[]⟩) ∧ w'.frozen? ⟨w.heap.size + 2, 0, none⟩ = false ∧ w'.frozen? ⟨w.heap.size + 2, 1, none⟩ = false ∧ w'.frozen? ⟨w.heap.size + 3, 0, none⟩ = false ∧ w'.frozen? ⟨w.heap.size + 3, 1, none⟩ = false from
  fun w' h => ⟨(h.cell (by simp [hsz]; try omega)).trans e0_0, (h.cell (by simp [hsz]; try omega)).trans e0_1, (h.cell (by simp [hsz]; try omega)).trans e1_0, (h.cell (by simp [hsz]; try omega)).trans e1_1, (h.cell (by simp [hsz]; try omega)).trans e2_0, (h.cell (by simp [hsz]; try omega)).trans e2_1, (h.cell (by simp [hsz]; try omega)).trans e3_0, (h.cell (by simp [hsz]; try omega)).trans e3_1, (h.frozen (by simp [hsz]; try omega)).trans k2_0, (h.frozen (by simp [hsz]; try omega)).trans k2_1, (h.frozen (by simp [hsz]; try omega)).trans k3_0, (h.frozen (by simp [hsz]; try omega)).trans k3_1⟩)
 have HD1 := Lib.hid (digits_r s1 (by omega))
 have HD2 := Lib.hid (digits_r s2 (by omega))
 have HZ := Lib.hid (And.intro h1 h2)
 have HP := Lib.hid (And.intro (nv_bd s1).1 (And.intro h0 (And.intro (size_pow (k := 1000) h1) (size_pow (k := 1000) h2))))
 have z0 := e0_1
 have z1 := e1_1
 have Lz0 : w.heap.size < w4.heap.size := by rw [hsz]; omega
 have Lz1 : w.heap.size + 1 < w4.heap.size := by rw [hsz]; omega
 have HBz := Below.refl w4.heap.size w4
 clear hw4 hb4 hsz e0_0 e0_1 e1_0 e1_1 e2_0 e2_1 e3_0 e3_1 k2_0 k2_1 k3_0 k3_1 h1 h2 h0
 go_enter Tryz.func63, Tryz.ntmps63
 go_upto_region 1 with fail
 rw [← HW.out]
 clear HW
 go_wp2
 go_region_held3 (fun w' => w'.cell? ⟨w.heap.size, 1, none⟩ = some (.string s1) ∧ w'.cell? ⟨w.heap.size + 1, 1, none⟩ = some (.string s2)) (first | exact ⟨v0, v1⟩ | exact ⟨x0, x1⟩ | exact ⟨y0, y1⟩ | exact ⟨z0, z1⟩ | go_keep) (first | (go_at_call 52; have gz := y0; clear gz; go_must (refine (HD2.out _).mono ?_; rintro e wx ⟨_, r2, rfl, ⟨g2, c2, rfl, hg2, hc2, hr2⟩, hl2, ht2, hv2, hbr⟩; have x0 := (hbr.cell (p := ⟨w.heap.size, 1, none⟩) Ly0).trans y0; have x1 := (hbr.cell (p := ⟨w.heap.size + 1, 1, none⟩) Ly1).trans y1; have Lx0 := Nat.lt_of_lt_of_le Ly0 hbr.size; have Lx1 := Nat.lt_of_lt_of_le Ly1 hbr.size; have HBx := bel_join HBy hbr HBy.size rfl rfl rfl rfl; have hr1y := rl_below hbr hr1 (Nat.le_refl _); clear hbr)) | (go_at_call 52; go_must (refine (HD1.out _).mono ?_; rintro e wy ⟨_, r1, rfl, ⟨g1, c1, rfl, hg1, hc1, hr1⟩, hl1, ht1, hv1, hbr⟩; have y0 := (hbr.cell (p := ⟨w.heap.size, 1, none⟩) Lz0).trans z0; have y1 := (hbr.cell (p := ⟨w.heap.size + 1, 1, none⟩) Lz1).trans z1; have Ly0 := Nat.lt_of_lt_of_le Lz0 hbr.size; have Ly1 := Nat.lt_of_lt_of_le Lz1 hbr.size; have HBy := bel_join HBz hbr HBz.size rfl rfl rfl rfl; clear hbr)) | (go_at_call 51; go_must (refine (divmod_r (some ⟨g1, 0, none⟩) (some ⟨g2, 0, none⟩) _ _ c1 c2 r1 r2 rfl rfl (Nat.le_trans (dig_len (k := 250) hl1 ht1 hv1 HZ.out.1) (by decide)) (Nat.le_trans (dig_len (k := 250) hl2 ht2 hv2 HZ.out.2) (by decide)) hc2 _ (by exact hr1y) (by exact hr2) hl1 hl2 ht2 (by rw [hv2]; exact HP.out.2.1)).mono ?_; rintro e wv ⟨_, _, q, r, rfl, ⟨A3, c3, rfl, hc3, hr3⟩, ⟨A4, c4, rfl, hc4, hr4⟩, hl3, ht3, hl4, ht4, hv3, hv4, hbr⟩; have v0 := (hbr.cell (p := ⟨w.heap.size, 1, none⟩) Lx0).trans x0; have v1 := (hbr.cell (p := ⟨w.heap.size + 1, 1, none⟩) Lx1).trans x1; have Lv0 := Nat.lt_of_lt_of_le Lx0 hbr.size; have Lv1 := Nat.lt_of_lt_of_le Lx1 hbr.size; have HBv := bel_join HBx hbr HBx.size rfl rfl rfl rfl; rw [hv1, hv2] at hv3 hv4; clear hbr)))
 obtain ⟨e0_0, e0_1, e1_0, e1_1, e2_0, e2_1, e3_0, e3_1, k2_0, k2_1, k3_0, k3_1⟩ := HK.out _ HBv
 have HB := Lib.hid (HS.out.trans (HBv.mono HS.out.size))
 have HBW := Lib.hid HBv
 have HV := Lib.hid (And.intro hv3 hv4)
 have HQ := Lib.hid (And.intro hr3 (And.intro hl3 (And.intro ht3 hc3)))
 have HR := Lib.hid (And.intro hr4 (And.intro hl4 (And.intro ht4 hc4)))
 have hql : q.length ≤ 250 := by
  apply len_of_lv ht3 hl3
  rw [hv3, ← YB]
  have h1 := Int.ediv_le_self (nv s2) HP.out.1
  have h2 := HP.out.2.2.1
  rw [show 4 * 250 = 1000 from rfl]
  omega
 have hrl : r.length ≤ 250 := by
  apply len_of_lv ht4 hl4
  rw [hv4, ← YB]
  have h1 := Int.emod_lt_of_pos (nv s1) HP.out.2.1
  have h2 := HP.out.2.2.2
  rw [show 4 * 250 = 1000 from rfl]
  omega
 obtain ⟨nq, hnq⟩ : ∃ nq, q.length = nq := ⟨_, rfl⟩
 obtain ⟨nr, hnr⟩ : ∃ nr, r.length = nr := ⟨_, rfl⟩
 rw [hnq] at hql
 rw [hnr] at hrl
 have HL := Lib.hid (And.intro hnq (And.intro hnr (And.intro hql hrl)))
 rw [hnq, hnr]
 obtain ⟨XV, hXV⟩ : ∃ XV, sgn (!(n1 == n2)) (lv q) = XV := ⟨_, rfl⟩
 obtain ⟨YV, hYV⟩ : ∃ YV, sgn n1 (lv r) = YV := ⟨_, rfl⟩
 have HXY := Lib.hid (And.intro hXV hYV)
 obtain ⟨xb, hxb⟩ : ∃ b, (pv XV).1 = b := ⟨_, rfl⟩
 obtain ⟨xs, hxs⟩ : ∃ b, (pv XV).2 = b := ⟨_, rfl⟩
 obtain ⟨yb, hyb⟩ : ∃ b, (pv YV).1 = b := ⟨_, rfl⟩
 obtain ⟨ys, hys⟩ : ∃ b, (pv YV).2 = b := ⟨_, rfl⟩
 have HXP := Lib.hid (show (pv XV).1 = xb ∧ (pv XV).2 = xs ∧ (pv YV).1 = yb ∧ (pv YV).2 = ys from ⟨hxb, hxs, hyb, hys⟩)
 have HM1 := Lib.hid (fun (w9 : World) (h9 : w9.heap = wv.heap) => make0_p (!(n1 == n2)) A3 nq c3 q XV hXV hnq (by omega) (by rw [← hnq]; exact hc3) w9 (hr3.heap h9) hl3)
 have HM2 := Lib.hid (fun (w9 : World) (h9 : Below wv.heap.size wv w9) => make0_p n1 A4 nr c4 r YV hYV hnr (by omega) (by rw [← hnr]; exact hc4) w9 (rl_below h9 hr4 (Nat.le_refl _)) hl4)
 rw [hxb, hxs] at HM1
 rw [hyb, hys] at HM2
 clear hxb hxs hyb hys
 clear HBv hv3 hv4 hr3 hl3 ht3 hc3 hr4 hl4 ht4 hc4 hql hrl hnq hnr hXV hYV v0 v1 x0 x1 y0 y1 z0 z1 Lv0 Lv1 Lx0 Lx1 Ly0 Ly1 Lz0 Lz1 HBx HBy HBz hr1y hr2 hl2 ht2 hv2 hc2 hr1 hl1 ht1 hv1 hc1
 go_wp2_with fail
 have f0_0 := e0_0
 have f0_1 := e0_1
 have f1_0 := e1_0
 have f1_1 := e1_1
 have f2_0 := e2_0
 have f2_1 := e2_1
 have f3_0 := e3_0
 have f3_1 := e3_1
 have fz2_0 := k2_0
 have fz2_1 := k2_1
 have fz3_0 := k3_0
 have fz3_1 := k3_1
 have HL2 := Lib.hid (show w.heap.size + 2 < wv.heap.size by have := HBW.out.size; rw [HSZ.out] at this; omega)
 have HL3 := Lib.hid (show w.heap.size + 3 < wv.heap.size by have := HBW.out.size; rw [HSZ.out] at this; omega)
 have HL0 := Lib.hid (show w.heap.size < wv.heap.size by have := HBW.out.size; rw [HSZ.out] at this; omega)
 have HL1 := Lib.hid (show w.heap.size + 1 < wv.heap.size by have := HBW.out.size; rw [HSZ.out] at this; omega)
 clear e0_0 e0_1 e1_0 e1_1 e2_0 e2_1 e3_0 e3_1 k2_0 k2_1 k3_0 k3_1
 refine (HM1.out _ (by rfl)).mono ?_
 rintro e w11 ⟨rfl, hb11⟩
 have hB11 : Below wv.heap.size wv (w11.alloc (.cells #[.bool xb, .string xs] 24)) := ((hb11).alloc (by have := hb11.size; simp; try omega) _)
 have n0_0 := (hB11.cell (p := ⟨w.heap.size, 0, none⟩) HL0.out).trans f0_0
 have n0_1 := (hB11.cell (p := ⟨w.heap.size, 1, none⟩) HL0.out).trans f0_1
 have n1_0 := (hB11.cell (p := ⟨w.heap.size + 1, 0, none⟩) HL1.out).trans f1_0
 have n1_1 := (hB11.cell (p := ⟨w.heap.size + 1, 1, none⟩) HL1.out).trans f1_1
 have n2_0 := (hB11.cell (p := ⟨w.heap.size + 2, 0, none⟩) HL2.out).trans f2_0
 have n2_1 := (hB11.cell (p := ⟨w.heap.size + 2, 1, none⟩) HL2.out).trans f2_1
 have n3_0 := (hB11.cell (p := ⟨w.heap.size + 3, 0, none⟩) HL3.out).trans f3_0
 have n3_1 := (hB11.cell (p := ⟨w.heap.size + 3, 1, none⟩) HL3.out).trans f3_1
 have n4_0 : (w11.alloc (.cells #[.bool xb, .string xs] 24)).cell? ⟨w11.heap.size, 0, none⟩ = some (.bool xb) := by simp [go_sem]
 have n4_1 : (w11.alloc (.cells #[.bool xb, .string xs] 24)).cell? ⟨w11.heap.size, 1, none⟩ = some (.string xs) := by simp [go_sem]
 have nz2_0 := (hB11.frozen (p := ⟨w.heap.size + 2, 0, none⟩) HL2.out).trans fz2_0
 have nz2_1 := (hB11.frozen (p := ⟨w.heap.size + 2, 1, none⟩) HL2.out).trans fz2_1
 have nz3_0 := (hB11.frozen (p := ⟨w.heap.size + 3, 0, none⟩) HL3.out).trans fz3_0
 have nz3_1 := (hB11.frozen (p := ⟨w.heap.size + 3, 1, none⟩) HL3.out).trans fz3_1
 have nz4_0 : (w11.alloc (.cells #[.bool xb, .string xs] 24)).frozen? ⟨w11.heap.size, 0, none⟩ = false := by simp [go_sem]
 have nz4_1 : (w11.alloc (.cells #[.bool xb, .string xs] 24)).frozen? ⟨w11.heap.size, 1, none⟩ = false := by simp [go_sem]
 clear f0_0 f0_1 f1_0 f1_1 f2_0 f2_1 f3_0 f3_1 fz2_0 fz2_1 fz3_0 fz3_1
 have HX11 := Lib.hid hB11
 have HY11 := Lib.hid hb11.size
 clear hB11 hb11
 go_wp2_with fail
 obtain ⟨W11, hW11⟩ : ∃ W11, W11 = w11.alloc (.cells #[.bool xb, .string xs] 24) := ⟨_, rfl⟩
 have hZ11 : W11.heap.size = w11.heap.size + 1 := by rw [hW11]; simp
 rw [← hW11] at HX11 ⊢
 rw [← hW11] at n0_0 n0_1
 rw [← hW11] at n1_0 n1_1
 rw [← hW11] at n2_0 n2_1
 rw [← hW11] at n3_0 n3_1
 rw [← hW11] at n4_0 n4_1
 rw [← hW11] at nz2_0 nz2_1
 rw [← hW11] at nz3_0 nz3_1
 rw [← hW11] at nz4_0 nz4_1
 obtain ⟨g11, hg11⟩ : ∃ g11, w11.heap.size = g11 := ⟨_, rfl⟩
 rw [hg11] at n4_0 n4_1
 rw [hg11] at nz4_0 nz4_1
 rw [hg11] at hZ11 HY11 ⊢
 clear hW11 hg11
 have HG11 := Lib.hid (show w.heap.size + 3 < g11 from Nat.lt_of_lt_of_le HL3.out HY11.out)
 have HL0 := Lib.hid (Nat.lt_of_lt_of_le HL0.out HX11.out.size)
 have HL1 := Lib.hid (Nat.lt_of_lt_of_le HL1.out HX11.out.size)
 have HL2 := Lib.hid (Nat.lt_of_lt_of_le HL2.out HX11.out.size)
 have HL3 := Lib.hid (Nat.lt_of_lt_of_le HL3.out HX11.out.size)
 have HL4 := Lib.hid (show g11 < W11.heap.size by rw [hZ11]; omega)
 clear hZ11 HY11
 have HB := Lib.hid (HB.out.trans (HX11.out.mono HB.out.size))
 have HC11 := HX11
 clear HX11
 have f0_0 := n0_0
 have f0_1 := n0_1
 have f1_0 := n1_0
 have f1_1 := n1_1
 have f2_0 := n2_0
 have f2_1 := n2_1
 have f3_0 := n3_0
 have f3_1 := n3_1
 have f4_0 := n4_0
 have f4_1 := n4_1
 have fz2_0 := nz2_0
 have fz2_1 := nz2_1
 have fz3_0 := nz3_0
 have fz3_1 := nz3_1
 have fz4_0 := nz4_0
 have fz4_1 := nz4_1
 clear n0_0 n0_1 n1_0 n1_1 n2_0 n2_1 n3_0 n3_1 n4_0 n4_1 nz2_0 nz2_1 nz3_0 nz3_1 nz4_0 nz4_1
 refine (HM2.out _ HC11.out).mono ?_
 rintro e w12 ⟨rfl, hb12⟩
 have hB12 : Below W11.heap.size W11 (w12.alloc (.cells #[.bool yb, .string ys] 24)) := ((hb12).alloc (by have := hb12.size; simp; try omega) _)
 have n0_0 := (hB12.cell (p := ⟨w.heap.size, 0, none⟩) HL0.out).trans f0_0
 have n0_1 := (hB12.cell (p := ⟨w.heap.size, 1, none⟩) HL0.out).trans f0_1
 have n1_0 := (hB12.cell (p := ⟨w.heap.size + 1, 0, none⟩) HL1.out).trans f1_0
 have n1_1 := (hB12.cell (p := ⟨w.heap.size + 1, 1, none⟩) HL1.out).trans f1_1
 have n2_0 := (hB12.cell (p := ⟨w.heap.size + 2, 0, none⟩) HL2.out).trans f2_0
 have n2_1 := (hB12.cell (p := ⟨w.heap.size + 2, 1, none⟩) HL2.out).trans f2_1
 have n3_0 := (hB12.cell (p := ⟨w.heap.size + 3, 0, none⟩) HL3.out).trans f3_0
 have n3_1 := (hB12.cell (p := ⟨w.heap.size + 3, 1, none⟩) HL3.out).trans f3_1
 have n4_0 := (hB12.cell (p := ⟨g11, 0, none⟩) HL4.out).trans f4_0
 have n4_1 := (hB12.cell (p := ⟨g11, 1, none⟩) HL4.out).trans f4_1
 have n5_0 : (w12.alloc (.cells #[.bool yb, .string ys] 24)).cell? ⟨w12.heap.size, 0, none⟩ = some (.bool yb) := by simp [go_sem]
 have n5_1 : (w12.alloc (.cells #[.bool yb, .string ys] 24)).cell? ⟨w12.heap.size, 1, none⟩ = some (.string ys) := by simp [go_sem]
 have nz2_0 := (hB12.frozen (p := ⟨w.heap.size + 2, 0, none⟩) HL2.out).trans fz2_0
 have nz2_1 := (hB12.frozen (p := ⟨w.heap.size + 2, 1, none⟩) HL2.out).trans fz2_1
 have nz3_0 := (hB12.frozen (p := ⟨w.heap.size + 3, 0, none⟩) HL3.out).trans fz3_0
 have nz3_1 := (hB12.frozen (p := ⟨w.heap.size + 3, 1, none⟩) HL3.out).trans fz3_1
 have nz4_0 := (hB12.frozen (p := ⟨g11, 0, none⟩) HL4.out).trans fz4_0
 have nz4_1 := (hB12.frozen (p := ⟨g11, 1, none⟩) HL4.out).trans fz4_1
 have nz5_0 : (w12.alloc (.cells #[.bool yb, .string ys] 24)).frozen? ⟨w12.heap.size, 0, none⟩ = false := by simp [go_sem]
 have nz5_1 : (w12.alloc (.cells #[.bool yb, .string ys] 24)).frozen? ⟨w12.heap.size, 1, none⟩ = false := by simp [go_sem]
 clear f0_0 f0_1 f1_0 f1_1 f2_0 f2_1 f3_0 f3_1 f4_0 f4_1 fz2_0 fz2_1 fz3_0 fz3_1 fz4_0 fz4_1
 have HX12 := Lib.hid hB12
 have HY12 := Lib.hid hb12.size
 clear hB12 hb12
 go_upto_if 33 with fail
 obtain ⟨W12, hW12⟩ : ∃ W12, W12 = w12.alloc (.cells #[.bool yb, .string ys] 24) := ⟨_, rfl⟩
 have hZ12 : W12.heap.size = w12.heap.size + 1 := by rw [hW12]; simp
 rw [← hW12] at HX12 ⊢
 rw [← hW12] at n0_0 n0_1
 rw [← hW12] at n1_0 n1_1
 rw [← hW12] at n2_0 n2_1
 rw [← hW12] at n3_0 n3_1
 rw [← hW12] at n4_0 n4_1
 rw [← hW12] at n5_0 n5_1
 rw [← hW12] at nz2_0 nz2_1
 rw [← hW12] at nz3_0 nz3_1
 rw [← hW12] at nz4_0 nz4_1
 rw [← hW12] at nz5_0 nz5_1
 obtain ⟨g12, hg12⟩ : ∃ g12, w12.heap.size = g12 := ⟨_, rfl⟩
 rw [hg12] at n5_0 n5_1
 rw [hg12] at nz5_0 nz5_1
 rw [hg12] at hZ12 HY12 ⊢
 clear hW12 hg12
 have HG12 := Lib.hid (show g11 < g12 from Nat.lt_of_lt_of_le HL4.out HY12.out)
 have HL0 := Lib.hid (Nat.lt_of_lt_of_le HL0.out HX12.out.size)
 have HL1 := Lib.hid (Nat.lt_of_lt_of_le HL1.out HX12.out.size)
 have HL2 := Lib.hid (Nat.lt_of_lt_of_le HL2.out HX12.out.size)
 have HL3 := Lib.hid (Nat.lt_of_lt_of_le HL3.out HX12.out.size)
 have HL4 := Lib.hid (Nat.lt_of_lt_of_le HL4.out HX12.out.size)
 have HL5 := Lib.hid (show g12 < W12.heap.size by rw [hZ12]; omega)
 clear hZ12 HY12
 have HB := Lib.hid (HB.out.trans (HX12.out.mono HB.out.size))
 have HC12 := HX12
 clear HX12
 have f0_0 := n0_0
 have f0_1 := n0_1
 have f1_0 := n1_0
 have f1_1 := n1_1
 have f2_0 := n2_0
 have f2_1 := n2_1
 have f3_0 := n3_0
 have f3_1 := n3_1
 have f4_0 := n4_0
 have f4_1 := n4_1
 have f5_0 := n5_0
 have f5_1 := n5_1
 have fz2_0 := nz2_0
 have fz2_1 := nz2_1
 have fz3_0 := nz3_0
 have fz3_1 := nz3_1
 have fz4_0 := nz4_0
 have fz4_1 := nz4_1
 have fz5_0 := nz5_0
 have fz5_1 := nz5_1
 clear n0_0 n0_1 n1_0 n1_1 n2_0 n2_1 n3_0 n3_1 n4_0 n4_1 n5_0 n5_1 nz2_0 nz2_1 nz3_0 nz3_1 nz4_0 nz4_1 nz5_0 nz5_1
 have HF := Lib.hid (quo_fin n1 n2 (x := nv s1) (y := nv s2) (XV := XV) (YV := YV) HP.out.1 HP.out.2.1 (by rw [← HV.out.1]; exact HXY.out.1) (by rw [← HV.out.2]; exact HXY.out.2))
 have hfv : decide (YV < 0) = yb := HXP.out.2.2.1
 have ne1 : ¬ g11 = w.heap.size + 1 + 1 := by have := HG11.out; omega
 have ne2 : ¬ g11 = w.heap.size + 1 + 1 + 1 := by have := HG11.out; omega
 have HG12 := Lib.hid (And.intro HG12.out (Nat.lt_trans HG11.out HG12.out))
 have ne3 : ¬ g12 = w.heap.size + 1 + 1 := by have := HG12.out.1; have := HG12.out.2; omega
 have ne4 : ¬ g12 = w.heap.size + 1 + 1 + 1 := by have := HG12.out.1; have := HG12.out.2; omega
 have ne5 : ¬ g11 = g12 := by have := HG12.out.1; have := HG12.out.2; omega
 cases yb with
 | false =>
  have hyx0 := f4_0; have hyx1 := f4_1; have hyy0 := f5_0; have hyy1 := f5_1
  have ne6 : ¬ w.heap.size + 3 = w.heap.size + 1 + 1 := by omega
  have ne7 : ¬ w.heap.size + 2 = w.heap.size + 1 + 1 + 1 := by omega
  go_wp2
  go_region_held3 (fun w' => w'.cell? ⟨g11, 0, none⟩ = some (.bool xb) ∧ w'.cell? ⟨g11, 1, none⟩ = some (.string xs) ∧ w'.cell? ⟨g12, 0, none⟩ = some (.bool false) ∧ w'.cell? ⟨g12, 1, none⟩ = some (.string ys)) (first | exact ⟨f4_0, f4_1, f5_0, f5_1⟩ | exact ⟨set2_far ne1 f4_0, set2_far ne1 f4_1, set2_far ne3 f5_0, set2_far ne3 f5_1⟩ | exact ⟨set2_far ne2 f4_0, set2_far ne2 f4_1, set2_far ne4 f5_0, set2_far ne4 f5_1⟩ | exact ⟨set2_far ne2 (set2_far ne1 f4_0), set2_far ne2 (set2_far ne1 f4_1), set2_far ne4 (set2_far ne3 f5_0), set2_far ne4 (set2_far ne3 f5_1)⟩ | exact ⟨set2_far ne1 (set2_far ne2 f4_0), set2_far ne1 (set2_far ne2 f4_1), set2_far ne3 (set2_far ne4 f5_0), set2_far ne3 (set2_far ne4 f5_1)⟩ | go_keep) (fail)
  all_goals go_wp2
  all_goals refine bodyPost_ret (by simp [results, Tryz.results63, go_sem, f2_0, f2_1, f3_0, f3_1, fz2_0, fz2_1, fz3_0, fz3_1, ne6, ne7]; try rfl) rfl ?_
  all_goals refine ⟨by have h := HF.out.1 (by have := of_decide_eq_false hfv; omega); rw [show ival n1 s1 / ival n2 s2 = XV from h.1.symm, show ival n1 s1 % ival n2 s2 = YV from h.2.symm, HXP.out.1, HXP.out.2.1, HXP.out.2.2.1, HXP.out.2.2.2], ?_⟩
  all_goals exact (((((HB.out.setCell (by simp; try omega) _).setCell (by simp; try omega) _).setCell (by simp; try omega) _).setCell (by simp; try omega) _).drew)
 | true =>
  have HV2 := Lib.hid (HF.out.2 (of_decide_eq_true hfv))
  have he1 : ival true ys = YV := by have h := ival_pv YV; rwa [HXP.out.2.2.1, HXP.out.2.2.2] at h
  have he2 : ival xb xs = XV := by have h := ival_pv XV; rwa [HXP.out.1, HXP.out.2.1] at h
  have hz1 : ys.size ≤ 1000 := by rw [← HXP.out.2.2.2]; exact size_pv (by rw [← HXY.out.2, HV.out.2, sgn_abs (Int.emod_nonneg (nv s1) (show nv s2 ≠ 0 by have := HP.out.2.1; omega))]; have h1 := Int.emod_lt_of_pos (nv s1) HP.out.2.1; have h2 := HP.out.2.2.2; omega)
  have hz2 : xs.size ≤ 1000 := by rw [← HXP.out.2.1]; exact size_pv (by rw [← HXY.out.1, HV.out.1, sgn_abs (Int.ediv_nonneg HP.out.1 (Int.le_of_lt HP.out.2.1))]; have h1 := Int.ediv_le_self (nv s2) HP.out.1; have h2 := HP.out.2.2.1; omega)
  have HS1 := Lib.hid (fun w9 => sum_b true ys false s2 (ival n1 s1 % ival n2 s2) (by rw [he1]; exact HV2.out.2) (by omega) (by have := HZ.out.2; omega) w9)
  have HS2 := Lib.hid (fun w9 => sum_b xb xs (!n2) ⟨#[1]⟩ (ival n1 s1 / ival n2 s2) (by rw [he2, show ival (!n2) ⟨#[1]⟩ = sgn (!n2) 1 from congrArg _ nv_one]; exact HV2.out.1) (by omega) (by decide) w9)
  clear he1 he2 hz1 hz2 hfv ne3 ne4
  go_wp2_with fail
  refine (HS1.out _).mono ?_
  rintro e w13 ⟨rfl, hb13⟩
  have hB13 : Below W12.heap.size W12 (w13) := hb13
  have n0_0 := (hB13.cell (p := ⟨w.heap.size, 0, none⟩) HL0.out).trans f0_0
  have n0_1 := (hB13.cell (p := ⟨w.heap.size, 1, none⟩) HL0.out).trans f0_1
  have n1_0 := (hB13.cell (p := ⟨w.heap.size + 1, 0, none⟩) HL1.out).trans f1_0
  have n1_1 := (hB13.cell (p := ⟨w.heap.size + 1, 1, none⟩) HL1.out).trans f1_1
  have n2_0 := (hB13.cell (p := ⟨w.heap.size + 2, 0, none⟩) HL2.out).trans f2_0
  have n2_1 := (hB13.cell (p := ⟨w.heap.size + 2, 1, none⟩) HL2.out).trans f2_1
  have n3_0 := (hB13.cell (p := ⟨w.heap.size + 3, 0, none⟩) HL3.out).trans f3_0
  have n3_1 := (hB13.cell (p := ⟨w.heap.size + 3, 1, none⟩) HL3.out).trans f3_1
  have n4_0 := (hB13.cell (p := ⟨g11, 0, none⟩) HL4.out).trans f4_0
  have n4_1 := (hB13.cell (p := ⟨g11, 1, none⟩) HL4.out).trans f4_1
  have n5_0 := (hB13.cell (p := ⟨g12, 0, none⟩) HL5.out).trans f5_0
  have n5_1 := (hB13.cell (p := ⟨g12, 1, none⟩) HL5.out).trans f5_1
  have nz2_0 := (hB13.frozen (p := ⟨w.heap.size + 2, 0, none⟩) HL2.out).trans fz2_0
  have nz2_1 := (hB13.frozen (p := ⟨w.heap.size + 2, 1, none⟩) HL2.out).trans fz2_1
  have nz3_0 := (hB13.frozen (p := ⟨w.heap.size + 3, 0, none⟩) HL3.out).trans fz3_0
  have nz3_1 := (hB13.frozen (p := ⟨w.heap.size + 3, 1, none⟩) HL3.out).trans fz3_1
  have nz4_0 := (hB13.frozen (p := ⟨g11, 0, none⟩) HL4.out).trans fz4_0
  have nz4_1 := (hB13.frozen (p := ⟨g11, 1, none⟩) HL4.out).trans fz4_1
  have nz5_0 := (hB13.frozen (p := ⟨g12, 0, none⟩) HL5.out).trans fz5_0
  have nz5_1 := (hB13.frozen (p := ⟨g12, 1, none⟩) HL5.out).trans fz5_1
  clear f0_0 f0_1 f1_0 f1_1 f2_0 f2_1 f3_0 f3_1 f4_0 f4_1 f5_0 f5_1 fz2_0 fz2_1 fz3_0 fz3_1 fz4_0 fz4_1 fz5_0 fz5_1
  have HX13 := Lib.hid hB13
  have HY13 := Lib.hid hb13.size
  clear hB13 hb13
  go_upto_region 6 with fail
  have HL0 := Lib.hid (Nat.lt_of_lt_of_le HL0.out HX13.out.size)
  have HL1 := Lib.hid (Nat.lt_of_lt_of_le HL1.out HX13.out.size)
  have HL2 := Lib.hid (Nat.lt_of_lt_of_le HL2.out HX13.out.size)
  have HL3 := Lib.hid (Nat.lt_of_lt_of_le HL3.out HX13.out.size)
  have HL4 := Lib.hid (Nat.lt_of_lt_of_le HL4.out HX13.out.size)
  have HL5 := Lib.hid (Nat.lt_of_lt_of_le HL5.out HX13.out.size)
  have HB := Lib.hid (HB.out.trans (HX13.out.mono HB.out.size))
  have HC13 := HX13
  clear HX13
  have f0_0 := n0_0
  have f0_1 := n0_1
  have f1_0 := n1_0
  have f1_1 := n1_1
  have f2_0 := n2_0
  have f2_1 := n2_1
  have f3_0 := n3_0
  have f3_1 := n3_1
  have f4_0 := n4_0
  have f4_1 := n4_1
  have f5_0 := n5_0
  have f5_1 := n5_1
  have fz2_0 := nz2_0
  have fz2_1 := nz2_1
  have fz3_0 := nz3_0
  have fz3_1 := nz3_1
  have fz4_0 := nz4_0
  have fz4_1 := nz4_1
  have fz5_0 := nz5_0
  have fz5_1 := nz5_1
  clear n0_0 n0_1 n1_0 n1_1 n2_0 n2_1 n3_0 n3_1 n4_0 n4_1 n5_0 n5_1 nz2_0 nz2_1 nz3_0 nz3_1 nz4_0 nz4_1 nz5_0 nz5_1
  obtain ⟨W13, hW13⟩ : ∃ W13, W13 = (w13.setCell ⟨g12, 0, none⟩ (.bool (pv (ival n1 s1 % ival n2 s2)).1)).setCell ⟨g12, 1, none⟩ (.string (pv (ival n1 s1 % ival n2 s2)).2) := ⟨_, rfl⟩
  have HZW13 := Lib.hid (show W13.heap.size = w13.heap.size by rw [hW13]; simp)
  have HBn := Lib.hid (show Below w.heap.size w W13 by rw [hW13]; exact (HB.out.setCell (by have := HG11.out; have := HG12.out.1; simp; omega) _).setCell (by have := HG11.out; have := HG12.out.1; simp; omega) _)
  have nx : ¬ w.heap.size = g12 := by have := HG11.out; have := HG12.out.1; have := HG12.out.2; omega
  have n0_0 : W13.cell? ⟨w.heap.size, 0, none⟩ = some (.bool n1) := by rw [hW13]; exact set2_far nx f0_0
  have n0_1 : W13.cell? ⟨w.heap.size, 1, none⟩ = some (.string s1) := by rw [hW13]; exact set2_far nx f0_1
  clear nx
  have nx : ¬ w.heap.size + 1 = g12 := by have := HG11.out; have := HG12.out.1; have := HG12.out.2; omega
  have n1_0 : W13.cell? ⟨w.heap.size + 1, 0, none⟩ = some (.bool n2) := by rw [hW13]; exact set2_far nx f1_0
  have n1_1 : W13.cell? ⟨w.heap.size + 1, 1, none⟩ = some (.string s2) := by rw [hW13]; exact set2_far nx f1_1
  clear nx
  have nx : ¬ w.heap.size + 2 = g12 := by have := HG11.out; have := HG12.out.1; have := HG12.out.2; omega
  have n2_0 : W13.cell? ⟨w.heap.size + 2, 0, none⟩ = some (.bool false) := by rw [hW13]; exact set2_far nx f2_0
  have n2_1 : W13.cell? ⟨w.heap.size + 2, 1, none⟩ = some (.string ⟨#[]⟩) := by rw [hW13]; exact set2_far nx f2_1
  clear nx
  have nx : ¬ w.heap.size + 3 = g12 := by have := HG11.out; have := HG12.out.1; have := HG12.out.2; omega
  have n3_0 : W13.cell? ⟨w.heap.size + 3, 0, none⟩ = some (.bool false) := by rw [hW13]; exact set2_far nx f3_0
  have n3_1 : W13.cell? ⟨w.heap.size + 3, 1, none⟩ = some (.string ⟨#[]⟩) := by rw [hW13]; exact set2_far nx f3_1
  clear nx
  have nx : ¬ g11 = g12 := by have := HG11.out; have := HG12.out.1; have := HG12.out.2; omega
  have n4_0 : W13.cell? ⟨g11, 0, none⟩ = some (.bool xb) := by rw [hW13]; exact set2_far nx f4_0
  have n4_1 : W13.cell? ⟨g11, 1, none⟩ = some (.string xs) := by rw [hW13]; exact set2_far nx f4_1
  clear nx
  have n5_0 : W13.cell? ⟨g12, 0, none⟩ = some (.bool (pv (ival n1 s1 % ival n2 s2)).1) := by rw [hW13]; simp [go_sem, f5_0, f5_1]
  have n5_1 : W13.cell? ⟨g12, 1, none⟩ = some (.string (pv (ival n1 s1 % ival n2 s2)).2) := by rw [hW13]; simp [go_sem, f5_0, f5_1]
  have nz2_0 : W13.frozen? ⟨w.heap.size + 2, 0, none⟩ = false := by rw [hW13]; simp [go_sem, fz2_0]
  have nz2_1 : W13.frozen? ⟨w.heap.size + 2, 1, none⟩ = false := by rw [hW13]; simp [go_sem, fz2_1]
  have nz3_0 : W13.frozen? ⟨w.heap.size + 3, 0, none⟩ = false := by rw [hW13]; simp [go_sem, fz3_0]
  have nz3_1 : W13.frozen? ⟨w.heap.size + 3, 1, none⟩ = false := by rw [hW13]; simp [go_sem, fz3_1]
  have nz4_0 : W13.frozen? ⟨g11, 0, none⟩ = false := by rw [hW13]; simp [go_sem, fz4_0]
  have nz4_1 : W13.frozen? ⟨g11, 1, none⟩ = false := by rw [hW13]; simp [go_sem, fz4_1]
  have nz5_0 : W13.frozen? ⟨g12, 0, none⟩ = false := by rw [hW13]; simp [go_sem, fz5_0]
  have nz5_1 : W13.frozen? ⟨g12, 1, none⟩ = false := by rw [hW13]; simp [go_sem, fz5_1]
  rw [← hW13]
  clear hW13 HB f0_0 f0_1 f1_0 f1_1 f2_0 f2_1 f3_0 f3_1 f4_0 f4_1 f5_0 f5_1 fz2_0 fz2_1 fz3_0 fz3_1 fz4_0 fz4_1 fz5_0 fz5_1
  have HB := HBn
  have HL0 := Lib.hid (show w.heap.size < W13.heap.size by rw [HZW13.out]; exact HL0.out)
  have f0_0 := n0_0; have f0_1 := n0_1
  have HL1 := Lib.hid (show w.heap.size + 1 < W13.heap.size by rw [HZW13.out]; exact HL1.out)
  have f1_0 := n1_0; have f1_1 := n1_1
  have HL2 := Lib.hid (show w.heap.size + 2 < W13.heap.size by rw [HZW13.out]; exact HL2.out)
  have f2_0 := n2_0; have f2_1 := n2_1
  have HL3 := Lib.hid (show w.heap.size + 3 < W13.heap.size by rw [HZW13.out]; exact HL3.out)
  have f3_0 := n3_0; have f3_1 := n3_1
  have HL4 := Lib.hid (show g11 < W13.heap.size by rw [HZW13.out]; exact HL4.out)
  have f4_0 := n4_0; have f4_1 := n4_1
  have HL5 := Lib.hid (show g12 < W13.heap.size by rw [HZW13.out]; exact HL5.out)
  have f5_0 := n5_0; have f5_1 := n5_1
  have fz2_0 := nz2_0; have fz2_1 := nz2_1
  have fz3_0 := nz3_0; have fz3_1 := nz3_1
  have fz4_0 := nz4_0; have fz4_1 := nz4_1
  have fz5_0 := nz5_0; have fz5_1 := nz5_1
  clear HBn n0_0 n0_1 n1_0 n1_1 n2_0 n2_1 n3_0 n3_1 n4_0 n4_1 n5_0 n5_1 nz2_0 nz2_1 nz3_0 nz3_1 nz4_0 nz4_1 nz5_0 nz5_1
  go_upto_region 7 with fail
  obtain ⟨W14, hW14⟩ : ∃ W14, W14 = W13.alloc (.cells #[.bool (!n2), .string ⟨#[1]⟩] 24) := ⟨_, rfl⟩
  have hB14 : Below W13.heap.size W13 W14 := by rw [hW14]; exact (Below.refl _ _).alloc (Nat.le_refl _) _
  have hZ14 : W14.heap.size = W13.heap.size + 1 := by rw [hW14]; simp
  have n0_0 := (hB14.cell (p := ⟨w.heap.size, 0, none⟩) HL0.out).trans f0_0
  have n0_1 := (hB14.cell (p := ⟨w.heap.size, 1, none⟩) HL0.out).trans f0_1
  have n1_0 := (hB14.cell (p := ⟨w.heap.size + 1, 0, none⟩) HL1.out).trans f1_0
  have n1_1 := (hB14.cell (p := ⟨w.heap.size + 1, 1, none⟩) HL1.out).trans f1_1
  have n2_0 := (hB14.cell (p := ⟨w.heap.size + 2, 0, none⟩) HL2.out).trans f2_0
  have n2_1 := (hB14.cell (p := ⟨w.heap.size + 2, 1, none⟩) HL2.out).trans f2_1
  have n3_0 := (hB14.cell (p := ⟨w.heap.size + 3, 0, none⟩) HL3.out).trans f3_0
  have n3_1 := (hB14.cell (p := ⟨w.heap.size + 3, 1, none⟩) HL3.out).trans f3_1
  have n4_0 := (hB14.cell (p := ⟨g11, 0, none⟩) HL4.out).trans f4_0
  have n4_1 := (hB14.cell (p := ⟨g11, 1, none⟩) HL4.out).trans f4_1
  have n5_0 := (hB14.cell (p := ⟨g12, 0, none⟩) HL5.out).trans f5_0
  have n5_1 := (hB14.cell (p := ⟨g12, 1, none⟩) HL5.out).trans f5_1
  have nz2_0 := (hB14.frozen (p := ⟨w.heap.size + 2, 0, none⟩) HL2.out).trans fz2_0
  have nz2_1 := (hB14.frozen (p := ⟨w.heap.size + 2, 1, none⟩) HL2.out).trans fz2_1
  have nz3_0 := (hB14.frozen (p := ⟨w.heap.size + 3, 0, none⟩) HL3.out).trans fz3_0
  have nz3_1 := (hB14.frozen (p := ⟨w.heap.size + 3, 1, none⟩) HL3.out).trans fz3_1
  have nz4_0 := (hB14.frozen (p := ⟨g11, 0, none⟩) HL4.out).trans fz4_0
  have nz4_1 := (hB14.frozen (p := ⟨g11, 1, none⟩) HL4.out).trans fz4_1
  have nz5_0 := (hB14.frozen (p := ⟨g12, 0, none⟩) HL5.out).trans fz5_0
  have nz5_1 := (hB14.frozen (p := ⟨g12, 1, none⟩) HL5.out).trans fz5_1
  have n6_0 : W14.cell? ⟨W13.heap.size, 0, none⟩ = some (.bool (!n2)) := by rw [hW14]; simp [go_sem]
  have n6_1 : W14.cell? ⟨W13.heap.size, 1, none⟩ = some (.string ⟨#[1]⟩) := by rw [hW14]; simp [go_sem]
  rw [← hW14]
  have HBn := Lib.hid (HB.out.trans (hB14.mono HB.out.size))
  obtain ⟨g13, hg13⟩ : ∃ g13, W13.heap.size = g13 := ⟨_, rfl⟩
  rw [hg13] at n6_0 n6_1 hZ14 ⊢
  have HG13 := Lib.hid (show g12 < g13 by rw [← hg13]; exact HL5.out)
  have HL0 := Lib.hid (show w.heap.size < W14.heap.size by have := HL0.out; omega)
  have HL1 := Lib.hid (show w.heap.size + 1 < W14.heap.size by have := HL1.out; omega)
  have HL2 := Lib.hid (show w.heap.size + 2 < W14.heap.size by have := HL2.out; omega)
  have HL3 := Lib.hid (show w.heap.size + 3 < W14.heap.size by have := HL3.out; omega)
  have HL4 := Lib.hid (show g11 < W14.heap.size by have := HL4.out; omega)
  have HL5 := Lib.hid (show g12 < W14.heap.size by have := HL5.out; omega)
  have HL6 := Lib.hid (show g13 < W14.heap.size by omega)
  clear hW14 hg13 hZ14 hB14 HB f0_0 f0_1 f1_0 f1_1 f2_0 f2_1 f3_0 f3_1 f4_0 f4_1 f5_0 f5_1 fz2_0 fz2_1 fz3_0 fz3_1 fz4_0 fz4_1 fz5_0 fz5_1
  have HB := HBn
  have f0_0 := n0_0; have f0_1 := n0_1
  have f1_0 := n1_0; have f1_1 := n1_1
  have f2_0 := n2_0; have f2_1 := n2_1
  have f3_0 := n3_0; have f3_1 := n3_1
  have f4_0 := n4_0; have f4_1 := n4_1
  have f5_0 := n5_0; have f5_1 := n5_1
  have f6_0 := n6_0; have f6_1 := n6_1
  have fz2_0 := nz2_0; have fz2_1 := nz2_1
  have fz3_0 := nz3_0; have fz3_1 := nz3_1
  have fz4_0 := nz4_0; have fz4_1 := nz4_1
  have fz5_0 := nz5_0; have fz5_1 := nz5_1
  clear HBn n0_0 n0_1 n1_0 n1_1 n2_0 n2_1 n3_0 n3_1 n4_0 n4_1 n5_0 n5_1 n6_0 n6_1 nz2_0 nz2_1 nz3_0 nz3_1 nz4_0 nz4_1 nz5_0 nz5_1
  go_wp2_with fail
  refine (HS2.out _).mono ?_
  rintro e w15 ⟨rfl, hb15⟩
  have hB15 : Below W14.heap.size W14 (w15) := hb15
  have n0_0 := (hB15.cell (p := ⟨w.heap.size, 0, none⟩) HL0.out).trans f0_0
  have n0_1 := (hB15.cell (p := ⟨w.heap.size, 1, none⟩) HL0.out).trans f0_1
  have n1_0 := (hB15.cell (p := ⟨w.heap.size + 1, 0, none⟩) HL1.out).trans f1_0
  have n1_1 := (hB15.cell (p := ⟨w.heap.size + 1, 1, none⟩) HL1.out).trans f1_1
  have n2_0 := (hB15.cell (p := ⟨w.heap.size + 2, 0, none⟩) HL2.out).trans f2_0
  have n2_1 := (hB15.cell (p := ⟨w.heap.size + 2, 1, none⟩) HL2.out).trans f2_1
  have n3_0 := (hB15.cell (p := ⟨w.heap.size + 3, 0, none⟩) HL3.out).trans f3_0
  have n3_1 := (hB15.cell (p := ⟨w.heap.size + 3, 1, none⟩) HL3.out).trans f3_1
  have n4_0 := (hB15.cell (p := ⟨g11, 0, none⟩) HL4.out).trans f4_0
  have n4_1 := (hB15.cell (p := ⟨g11, 1, none⟩) HL4.out).trans f4_1
  have n5_0 := (hB15.cell (p := ⟨g12, 0, none⟩) HL5.out).trans f5_0
  have n5_1 := (hB15.cell (p := ⟨g12, 1, none⟩) HL5.out).trans f5_1
  have n6_0 := (hB15.cell (p := ⟨g13, 0, none⟩) HL6.out).trans f6_0
  have n6_1 := (hB15.cell (p := ⟨g13, 1, none⟩) HL6.out).trans f6_1
  have nz2_0 := (hB15.frozen (p := ⟨w.heap.size + 2, 0, none⟩) HL2.out).trans fz2_0
  have nz2_1 := (hB15.frozen (p := ⟨w.heap.size + 2, 1, none⟩) HL2.out).trans fz2_1
  have nz3_0 := (hB15.frozen (p := ⟨w.heap.size + 3, 0, none⟩) HL3.out).trans fz3_0
  have nz3_1 := (hB15.frozen (p := ⟨w.heap.size + 3, 1, none⟩) HL3.out).trans fz3_1
  have nz4_0 := (hB15.frozen (p := ⟨g11, 0, none⟩) HL4.out).trans fz4_0
  have nz4_1 := (hB15.frozen (p := ⟨g11, 1, none⟩) HL4.out).trans fz4_1
  have nz5_0 := (hB15.frozen (p := ⟨g12, 0, none⟩) HL5.out).trans fz5_0
  have nz5_1 := (hB15.frozen (p := ⟨g12, 1, none⟩) HL5.out).trans fz5_1
  clear f0_0 f0_1 f1_0 f1_1 f2_0 f2_1 f3_0 f3_1 f4_0 f4_1 f5_0 f5_1 f6_0 f6_1 fz2_0 fz2_1 fz3_0 fz3_1 fz4_0 fz4_1 fz5_0 fz5_1
  have HX15 := Lib.hid hB15
  have HY15 := Lib.hid hb15.size
  clear hB15 hb15
  go_upto_region 8 with fail
  have HL0 := Lib.hid (Nat.lt_of_lt_of_le HL0.out HX15.out.size)
  have HL1 := Lib.hid (Nat.lt_of_lt_of_le HL1.out HX15.out.size)
  have HL2 := Lib.hid (Nat.lt_of_lt_of_le HL2.out HX15.out.size)
  have HL3 := Lib.hid (Nat.lt_of_lt_of_le HL3.out HX15.out.size)
  have HL4 := Lib.hid (Nat.lt_of_lt_of_le HL4.out HX15.out.size)
  have HL5 := Lib.hid (Nat.lt_of_lt_of_le HL5.out HX15.out.size)
  have HL6 := Lib.hid (Nat.lt_of_lt_of_le HL6.out HX15.out.size)
  have HB := Lib.hid (HB.out.trans (HX15.out.mono HB.out.size))
  have HC15 := HX15
  clear HX15
  have f0_0 := n0_0
  have f0_1 := n0_1
  have f1_0 := n1_0
  have f1_1 := n1_1
  have f2_0 := n2_0
  have f2_1 := n2_1
  have f3_0 := n3_0
  have f3_1 := n3_1
  have f4_0 := n4_0
  have f4_1 := n4_1
  have f5_0 := n5_0
  have f5_1 := n5_1
  have f6_0 := n6_0
  have f6_1 := n6_1
  have fz2_0 := nz2_0
  have fz2_1 := nz2_1
  have fz3_0 := nz3_0
  have fz3_1 := nz3_1
  have fz4_0 := nz4_0
  have fz4_1 := nz4_1
  have fz5_0 := nz5_0
  have fz5_1 := nz5_1
  clear n0_0 n0_1 n1_0 n1_1 n2_0 n2_1 n3_0 n3_1 n4_0 n4_1 n5_0 n5_1 n6_0 n6_1 nz2_0 nz2_1 nz3_0 nz3_1 nz4_0 nz4_1 nz5_0 nz5_1
  obtain ⟨W15, hW15⟩ : ∃ W15, W15 = (w15.setCell ⟨g11, 0, none⟩ (.bool (pv (ival n1 s1 / ival n2 s2)).1)).setCell ⟨g11, 1, none⟩ (.string (pv (ival n1 s1 / ival n2 s2)).2) := ⟨_, rfl⟩
  have HZW15 := Lib.hid (show W15.heap.size = w15.heap.size by rw [hW15]; simp)
  have HBn := Lib.hid (show Below w.heap.size w W15 by rw [hW15]; exact (HB.out.setCell (by have := HG11.out; have := HG12.out.1; simp; omega) _).setCell (by have := HG11.out; have := HG12.out.1; simp; omega) _)
  have nx : ¬ w.heap.size = g11 := by have := HG11.out; have := HG12.out.1; have := HG12.out.2; omega
  have n0_0 : W15.cell? ⟨w.heap.size, 0, none⟩ = some (.bool n1) := by rw [hW15]; exact set2_far nx f0_0
  have n0_1 : W15.cell? ⟨w.heap.size, 1, none⟩ = some (.string s1) := by rw [hW15]; exact set2_far nx f0_1
  clear nx
  have nx : ¬ w.heap.size + 1 = g11 := by have := HG11.out; have := HG12.out.1; have := HG12.out.2; omega
  have n1_0 : W15.cell? ⟨w.heap.size + 1, 0, none⟩ = some (.bool n2) := by rw [hW15]; exact set2_far nx f1_0
  have n1_1 : W15.cell? ⟨w.heap.size + 1, 1, none⟩ = some (.string s2) := by rw [hW15]; exact set2_far nx f1_1
  clear nx
  have nx : ¬ w.heap.size + 2 = g11 := by have := HG11.out; have := HG12.out.1; have := HG12.out.2; omega
  have n2_0 : W15.cell? ⟨w.heap.size + 2, 0, none⟩ = some (.bool false) := by rw [hW15]; exact set2_far nx f2_0
  have n2_1 : W15.cell? ⟨w.heap.size + 2, 1, none⟩ = some (.string ⟨#[]⟩) := by rw [hW15]; exact set2_far nx f2_1
  clear nx
  have nx : ¬ w.heap.size + 3 = g11 := by have := HG11.out; have := HG12.out.1; have := HG12.out.2; omega
  have n3_0 : W15.cell? ⟨w.heap.size + 3, 0, none⟩ = some (.bool false) := by rw [hW15]; exact set2_far nx f3_0
  have n3_1 : W15.cell? ⟨w.heap.size + 3, 1, none⟩ = some (.string ⟨#[]⟩) := by rw [hW15]; exact set2_far nx f3_1
  clear nx
  have n4_0 : W15.cell? ⟨g11, 0, none⟩ = some (.bool (pv (ival n1 s1 / ival n2 s2)).1) := by rw [hW15]; simp [go_sem, f4_0, f4_1]
  have n4_1 : W15.cell? ⟨g11, 1, none⟩ = some (.string (pv (ival n1 s1 / ival n2 s2)).2) := by rw [hW15]; simp [go_sem, f4_0, f4_1]
  have nx : ¬ g12 = g11 := by have := HG11.out; have := HG12.out.1; have := HG12.out.2; omega
  have n5_0 : W15.cell? ⟨g12, 0, none⟩ = some (.bool (pv (ival n1 s1 % ival n2 s2)).1) := by rw [hW15]; exact set2_far nx f5_0
  have n5_1 : W15.cell? ⟨g12, 1, none⟩ = some (.string (pv (ival n1 s1 % ival n2 s2)).2) := by rw [hW15]; exact set2_far nx f5_1
  clear nx
  have nx : ¬ g13 = g11 := by have := HG11.out; have := HG12.out.1; have := HG12.out.2; have := HG13.out; omega
  have n6_0 : W15.cell? ⟨g13, 0, none⟩ = some (.bool (!n2)) := by rw [hW15]; exact set2_far nx f6_0
  have n6_1 : W15.cell? ⟨g13, 1, none⟩ = some (.string ⟨#[1]⟩) := by rw [hW15]; exact set2_far nx f6_1
  clear nx
  have nz2_0 : W15.frozen? ⟨w.heap.size + 2, 0, none⟩ = false := by rw [hW15]; simp [go_sem, fz2_0]
  have nz2_1 : W15.frozen? ⟨w.heap.size + 2, 1, none⟩ = false := by rw [hW15]; simp [go_sem, fz2_1]
  have nz3_0 : W15.frozen? ⟨w.heap.size + 3, 0, none⟩ = false := by rw [hW15]; simp [go_sem, fz3_0]
  have nz3_1 : W15.frozen? ⟨w.heap.size + 3, 1, none⟩ = false := by rw [hW15]; simp [go_sem, fz3_1]
  have nz4_0 : W15.frozen? ⟨g11, 0, none⟩ = false := by rw [hW15]; simp [go_sem, fz4_0]
  have nz4_1 : W15.frozen? ⟨g11, 1, none⟩ = false := by rw [hW15]; simp [go_sem, fz4_1]
  have nz5_0 : W15.frozen? ⟨g12, 0, none⟩ = false := by rw [hW15]; simp [go_sem, fz5_0]
  have nz5_1 : W15.frozen? ⟨g12, 1, none⟩ = false := by rw [hW15]; simp [go_sem, fz5_1]
  rw [← hW15]
  clear hW15 HB f0_0 f0_1 f1_0 f1_1 f2_0 f2_1 f3_0 f3_1 f4_0 f4_1 f5_0 f5_1 f6_0 f6_1 fz2_0 fz2_1 fz3_0 fz3_1 fz4_0 fz4_1 fz5_0 fz5_1
  have HB := HBn
  have HL0 := Lib.hid (show w.heap.size < W15.heap.size by rw [HZW15.out]; exact HL0.out)
  have f0_0 := n0_0; have f0_1 := n0_1
  have HL1 := Lib.hid (show w.heap.size + 1 < W15.heap.size by rw [HZW15.out]; exact HL1.out)
  have f1_0 := n1_0; have f1_1 := n1_1
  have HL2 := Lib.hid (show w.heap.size + 2 < W15.heap.size by rw [HZW15.out]; exact HL2.out)
  have f2_0 := n2_0; have f2_1 := n2_1
  have HL3 := Lib.hid (show w.heap.size + 3 < W15.heap.size by rw [HZW15.out]; exact HL3.out)
  have f3_0 := n3_0; have f3_1 := n3_1
  have HL4 := Lib.hid (show g11 < W15.heap.size by rw [HZW15.out]; exact HL4.out)
  have f4_0 := n4_0; have f4_1 := n4_1
  have HL5 := Lib.hid (show g12 < W15.heap.size by rw [HZW15.out]; exact HL5.out)
  have f5_0 := n5_0; have f5_1 := n5_1
  have HL6 := Lib.hid (show g13 < W15.heap.size by rw [HZW15.out]; exact HL6.out)
  have f6_0 := n6_0; have f6_1 := n6_1
  have fz2_0 := nz2_0; have fz2_1 := nz2_1
  have fz3_0 := nz3_0; have fz3_1 := nz3_1
  have fz4_0 := nz4_0; have fz4_1 := nz4_1
  have fz5_0 := nz5_0; have fz5_1 := nz5_1
  clear HBn n0_0 n0_1 n1_0 n1_1 n2_0 n2_1 n3_0 n3_1 n4_0 n4_1 n5_0 n5_1 n6_0 n6_1 nz2_0 nz2_1 nz3_0 nz3_1 nz4_0 nz4_1 nz5_0 nz5_1
  have ne3 : ¬ g12 = w.heap.size + 1 + 1 := by have := HG12.out.1; have := HG12.out.2; omega
  have ne4 : ¬ g12 = w.heap.size + 1 + 1 + 1 := by have := HG12.out.1; have := HG12.out.2; omega
  have hyx0 := f4_0; have hyx1 := f4_1; have hyy0 := f5_0; have hyy1 := f5_1
  have ne6 : ¬ w.heap.size + 3 = w.heap.size + 1 + 1 := by omega
  have ne7 : ¬ w.heap.size + 2 = w.heap.size + 1 + 1 + 1 := by omega
  go_wp2
  go_region_held3 (fun w' => w'.cell? ⟨g11, 0, none⟩ = some (.bool (pv (ival n1 s1 / ival n2 s2)).1) ∧ w'.cell? ⟨g11, 1, none⟩ = some (.string (pv (ival n1 s1 / ival n2 s2)).2) ∧ w'.cell? ⟨g12, 0, none⟩ = some (.bool (pv (ival n1 s1 % ival n2 s2)).1) ∧ w'.cell? ⟨g12, 1, none⟩ = some (.string (pv (ival n1 s1 % ival n2 s2)).2)) (first | exact ⟨f4_0, f4_1, f5_0, f5_1⟩ | exact ⟨set2_far ne1 f4_0, set2_far ne1 f4_1, set2_far ne3 f5_0, set2_far ne3 f5_1⟩ | exact ⟨set2_far ne2 f4_0, set2_far ne2 f4_1, set2_far ne4 f5_0, set2_far ne4 f5_1⟩ | exact ⟨set2_far ne2 (set2_far ne1 f4_0), set2_far ne2 (set2_far ne1 f4_1), set2_far ne4 (set2_far ne3 f5_0), set2_far ne4 (set2_far ne3 f5_1)⟩ | exact ⟨set2_far ne1 (set2_far ne2 f4_0), set2_far ne1 (set2_far ne2 f4_1), set2_far ne3 (set2_far ne4 f5_0), set2_far ne3 (set2_far ne4 f5_1)⟩ | go_keep) (fail)
  all_goals go_wp2
  all_goals refine bodyPost_ret (by simp [results, Tryz.results63, go_sem, f2_0, f2_1, f3_0, f3_1, fz2_0, fz2_1, fz3_0, fz3_1, ne6, ne7]; try rfl) rfl ?_
  all_goals refine ⟨rfl, ?_⟩
  all_goals exact (((((HB.out.setCell (by simp; try omega) _).setCell (by simp; try omega) _).setCell (by simp; try omega) _).setCell (by simp; try omega) _).drew)
end Go.Proofs.YtoijlbcbbblbfaaGreatDoor
