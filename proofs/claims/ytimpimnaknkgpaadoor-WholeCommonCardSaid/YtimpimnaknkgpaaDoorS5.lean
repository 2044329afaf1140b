import Derived.Test.YtimpimnaknkgpaaDoorS1
import Derived.Test.YtimpimnaknkgpaaDoorRh
namespace Go.Proofs.YtimpimnaknkgpaaDoor
open Go.RowKit
open Num hiding B B_eq Lim sumB win sumB_congr Bp Bs sumB_bd subD subC sub_one addD addC add_one win_s win_congr take_step mul_one addp_step lv sumB_zero lv_of lv_bd lv_nil lv_trim Lim_zero win_zero sum_step Bmono sum_end len_of_lv ordN_val lv_lt_of_len ordL_val take_end win_split mul_step win_low win_bd win_change YB lv_set OfI dgt_lv
open Num32
set_option linter.unusedVariables false
set_option linter.unusedSimpArgs false

theorem gcd_bd {a b : Nat} {M : Int} (ha : (a : Int) < M) (hb : (b : Int) < M) : ((Nat.gcd a b : Nat) : Int) < M := by
  by_cases h : a = 0
  · rw [h, Nat.gcd_zero_left]; exact hb
  · have := Nat.gcd_le_left b (Nat.pos_of_ne_zero h); omega
set_option maxHeartbeats 4000000 in
set_option maxRecDepth 100000 in
theorem common_r (n1 : Bool) (s1 : ByteArray) (n2 : Bool) (s2 : ByteArray) (h1 : s1.size ≤ 4000) (h2 : s2.size ≤ 4000) (w : World) :
    Calls Tryd.prog 19 #[.agg #[.bool n1, .string s1], .agg #[.bool n2, .string s2]] w fun e w' => e = .returned (putV (Nat.gcd (nv s1).toNat (nv s2).toNat : Nat)) ∧ Below w.heap.size w w' := by
  obtain ⟨w3, hw3⟩ : ∃ w3, w3 = ((w.alloc (.cells #[.bool n1, .string s1] 24)).alloc (.cells #[.bool n2, .string s2] 24)).alloc (.cells #[.bool false, .string ⟨#[]⟩] 24) := ⟨_, rfl⟩
  have hb3 : Below w.heap.size w w3 := by rw [hw3]; exact (((Below.refl _ _).alloc (Nat.le_refl _) _).alloc (by simp) _).alloc (by simp; omega) _
  have d0 : w3.cell? ⟨w.heap.size, 0, none⟩ = some (.bool n1) := by rw [hw3]; simp [go_sem]
  have d1 : w3.cell? ⟨w.heap.size, 1, none⟩ = some (.string s1) := by rw [hw3]; simp [go_sem]
  have d2 : w3.cell? ⟨w.heap.size + 1, 0, none⟩ = some (.bool n2) := by rw [hw3]; simp [go_sem]
  have d3 : w3.cell? ⟨w.heap.size + 1, 1, none⟩ = some (.string s2) := by rw [hw3]; simp [go_sem]
  have d4 : w3.cell? ⟨w.heap.size + 2, 0, none⟩ = some (.bool false) := by rw [hw3]; simp [go_sem]
  have d5 : w3.cell? ⟨w.heap.size + 2, 1, none⟩ = some (.string ⟨#[]⟩) := by rw [hw3]; simp [go_sem]
  have d6 : w3.frozen? ⟨w.heap.size + 2, 0, none⟩ = false := by rw [hw3]; simp [go_sem]
  have d7 : w3.frozen? ⟨w.heap.size + 2, 1, none⟩ = false := by rw [hw3]; simp [go_sem]
  have hsz : w3.heap.size = w.heap.size + 3 := by rw [hw3]; simp
  have HW := Lib.hid hw3
  have HS := Lib.hid hb3
  have HSZ := Lib.hid hsz
  have HK := Lib.hid (show ∀ (w' : World) (h : Below w3.heap.size w3 w'), w'.cell? ⟨w.heap.size, 0, none⟩ = some (.bool n1) ∧ w'.cell? ⟨w.heap.size, 1, none⟩ = some (.string s1) ∧ w'.cell? ⟨w.heap.size + 1, 0, none⟩ = some (.bool n2) ∧ w'.cell? ⟨w.heap.size + 1, 1, none⟩ = some (.string s2) ∧ w'.cell? ⟨w.heap.size + 2, 0, none⟩ = some (.bool false) ∧ w'.cell? ⟨w.heap.size + 2, 1, none⟩ = some (.string ⟨#[]⟩) ∧ w'.frozen? ⟨w.heap.size + 2, 0, none⟩ = false ∧ w'.frozen? ⟨w.heap.size + 2, 1, none⟩ = false from
    fun w' h => ⟨(h.cell (by simp [hsz]; try omega)).trans d0, (h.cell (by simp [hsz]; try omega)).trans d1, (h.cell (by simp [hsz]; try omega)).trans d2, (h.cell (by simp [hsz]; try omega)).trans d3, (h.cell (by simp [hsz]; try omega)).trans d4, (h.cell (by simp [hsz]; try omega)).trans d5, (h.frozen (by simp [hsz]; try omega)).trans d6, (h.frozen (by simp [hsz]; try omega)).trans d7⟩)
  have HD1 := Lib.hid (digits_r s1 (by omega))
  have HD2 := Lib.hid (digits_r s2 (by omega))
  have HZ := Lib.hid (And.intro h1 h2)
  have HVAL := Lib.hid (show sgn false ((Nat.gcd (nv s1).toNat (nv s2).toNat : Nat) : Int) = ((Nat.gcd (nv s1).toNat (nv s2).toNat : Nat) : Int) from rfl)
  have HAB := Lib.hid (show ((((((Nat.gcd (nv s1).toNat (nv s2).toNat : Nat) : Int)).natAbs : Nat) : Int) < 256 ^ (4 * 1000)) from by
    rw [Int.natAbs_natCast]
    exact gcd_bd (by have := size_pow h1; have := (nv_bd s1).1; omega) (by have := size_pow h2; have := (nv_bd s2).1; omega))
  clear h1 h2
  have L0 : w.heap.size < w3.heap.size := by rw [hsz]; omega
  have L1 : w.heap.size + 1 < w3.heap.size := by rw [hsz]; omega
  have L2 : w.heap.size + 2 < w3.heap.size := by rw [hsz]; omega
  have hne : ¬ w.heap.size = w.heap.size + 1 + 1 := by omega
  have hne2 : ¬ w.heap.size + 1 = w.heap.size + 1 + 1 := by omega
  have HBd := HS.out
  clear HK hw3 hb3 hsz
  go_enter Tryd.func19, Tryd.ntmps19
  go_upto_region 1 with fail
  rw [← HW.out]
  clear HW
  go_region_held3 (fun w' => w'.cell? ⟨w.heap.size, 0, none⟩ = some (.bool n1) ∧ w'.cell? ⟨w.heap.size, 1, none⟩ = some (.string s1) ∧ w'.cell? ⟨w.heap.size + 1, 0, none⟩ = some (.bool n2) ∧ w'.cell? ⟨w.heap.size + 1, 1, none⟩ = some (.string s2)) (first | exact ⟨v0, v1, v2, v3⟩ | exact ⟨x0, x1, x2, x3⟩ | exact ⟨y0, y1, y2, y3⟩ | exact ⟨z0, z1, z2, z3⟩ | exact ⟨d0, d1, d2, d3⟩ | exact ⟨(cell_far _ _ _ _ _ _ hne).trans ((cell_far _ _ _ _ _ _ hne).trans v0), (cell_far _ _ _ _ _ _ hne).trans ((cell_far _ _ _ _ _ _ hne).trans v1), (cell_far _ _ _ _ _ _ hne2).trans ((cell_far _ _ _ _ _ _ hne2).trans v2), (cell_far _ _ _ _ _ _ hne2).trans ((cell_far _ _ _ _ _ _ hne2).trans v3)⟩ | (refine ⟨?_, ?_, ?_, ?_⟩; go_keep; go_keep; go_keep; go_keep)) (first | (go_at_call 37; have gz := z0; clear gz; go_must (refine (HD2.out _).mono ?_; rintro e wy ⟨_, r2, rfl, ⟨g2, c2, rfl, hg2, hc2, hr2⟩, hl2, ht2, hv2, hbr⟩; have y0 := (hbr.cell (p := ⟨w.heap.size, 0, none⟩) (Lz0)).trans z0; have y1 := (hbr.cell (p := ⟨w.heap.size, 1, none⟩) (Lz0)).trans z1; have y2 := (hbr.cell (p := ⟨w.heap.size + 1, 0, none⟩) (Lz1)).trans z2; have y3 := (hbr.cell (p := ⟨w.heap.size + 1, 1, none⟩) (Lz1)).trans z3; have y4 := (hbr.cell (p := ⟨w.heap.size + 2, 0, none⟩) (Lz2)).trans z4; have y5 := (hbr.cell (p := ⟨w.heap.size + 2, 1, none⟩) (Lz2)).trans z5; have y6 := (hbr.frozen (p := ⟨w.heap.size + 2, 0, none⟩) (Lz2)).trans z6; have y7 := (hbr.frozen (p := ⟨w.heap.size + 2, 1, none⟩) (Lz2)).trans z7; have Ly0 := Nat.lt_of_lt_of_le Lz0 hbr.size; have Ly1 := Nat.lt_of_lt_of_le Lz1 hbr.size; have Ly2 := Nat.lt_of_lt_of_le Lz2 hbr.size; have hr1y := rl_below hbr hr1 (Nat.le_refl _); have HBy := bel_join HBz hbr HBz.size rfl rfl rfl rfl; clear hbr)) | (go_at_call 37; go_must (refine (HD1.out _).mono ?_; rintro e wz ⟨_, r1, rfl, ⟨g1, c1, rfl, hg1, hc1, hr1⟩, hl1, ht1, hv1, hbr⟩; have z0 := (hbr.cell (p := ⟨w.heap.size, 0, none⟩) (L0)).trans d0; have z1 := (hbr.cell (p := ⟨w.heap.size, 1, none⟩) (L0)).trans d1; have z2 := (hbr.cell (p := ⟨w.heap.size + 1, 0, none⟩) (L1)).trans d2; have z3 := (hbr.cell (p := ⟨w.heap.size + 1, 1, none⟩) (L1)).trans d3; have z4 := (hbr.cell (p := ⟨w.heap.size + 2, 0, none⟩) (L2)).trans d4; have z5 := (hbr.cell (p := ⟨w.heap.size + 2, 1, none⟩) (L2)).trans d5; have z6 := (hbr.frozen (p := ⟨w.heap.size + 2, 0, none⟩) (L2)).trans d6; have z7 := (hbr.frozen (p := ⟨w.heap.size + 2, 1, none⟩) (L2)).trans d7; have Lz0 := Nat.lt_of_lt_of_le L0 hbr.size; have Lz1 := Nat.lt_of_lt_of_le L1 hbr.size; have Lz2 := Nat.lt_of_lt_of_le L2 hbr.size; have HBz := bel_join HBd hbr HBd.size rfl rfl rfl rfl; clear hbr)) | (go_at_call 43; go_must (refine (gcd_r 1000 (Nat.le_refl _) (some ⟨g1, 0, none⟩) (some ⟨g2, 0, none⟩) _ _ c1 c2 r1 r2 rfl rfl (dig_len (k := 1000) hl1 ht1 hv1 HZ.out.1) (dig_len (k := 1000) hl2 ht2 hv2 HZ.out.2) hc1 hc2 _ (by exact hr1y) (by exact hr2) hl1 hl2 ht1 ht2).mono ?_; rintro e wx ⟨_, r3, rfl, ⟨A3, c3, rfl, hc3, hr3⟩, hl3, ht3, hv3, hbr⟩; have x0 := (hbr.cell (p := ⟨w.heap.size, 0, none⟩) (Ly0)).trans y0; have x1 := (hbr.cell (p := ⟨w.heap.size, 1, none⟩) (Ly0)).trans y1; have x2 := (hbr.cell (p := ⟨w.heap.size + 1, 0, none⟩) (Ly1)).trans y2; have x3 := (hbr.cell (p := ⟨w.heap.size + 1, 1, none⟩) (Ly1)).trans y3; have x4 := (hbr.cell (p := ⟨w.heap.size + 2, 0, none⟩) (Ly2)).trans y4; have x5 := (hbr.cell (p := ⟨w.heap.size + 2, 1, none⟩) (Ly2)).trans y5; have x6 := (hbr.frozen (p := ⟨w.heap.size + 2, 0, none⟩) (Ly2)).trans y6; have x7 := (hbr.frozen (p := ⟨w.heap.size + 2, 1, none⟩) (Ly2)).trans y7; have Lx0 := Nat.lt_of_lt_of_le Ly0 hbr.size; have Lx1 := Nat.lt_of_lt_of_le Ly1 hbr.size; have Lx2 := Nat.lt_of_lt_of_le Ly2 hbr.size; have HBx := bel_join HBy hbr HBy.size rfl rfl rfl rfl; rw [hv1, hv2] at hv3; have hln := Nat.le_trans (len_of_abs hl3 ht3 hv3 HAB.out) (by decide : 1000 ≤ 20000); clear hbr)) | (go_at_call 38; go_must (refine (make0_b _ _ _ _ r3 rfl hln hc3 _ (by exact hr3) hl3).mono ?_; rintro e wv ⟨rfl, hbr⟩; have v0 := (hbr.cell (p := ⟨w.heap.size, 0, none⟩) (Lx0)).trans x0; have v1 := (hbr.cell (p := ⟨w.heap.size, 1, none⟩) (Lx0)).trans x1; have v2 := (hbr.cell (p := ⟨w.heap.size + 1, 0, none⟩) (Lx1)).trans x2; have v3 := (hbr.cell (p := ⟨w.heap.size + 1, 1, none⟩) (Lx1)).trans x3; have v4 := (hbr.cell (p := ⟨w.heap.size + 2, 0, none⟩) (Lx2)).trans x4; have v5 := (hbr.cell (p := ⟨w.heap.size + 2, 1, none⟩) (Lx2)).trans x5; have v6 := (hbr.frozen (p := ⟨w.heap.size + 2, 0, none⟩) (Lx2)).trans x6; have v7 := (hbr.frozen (p := ⟨w.heap.size + 2, 1, none⟩) (Lx2)).trans x7; have HBv := bel_join HBx hbr HBx.size rfl rfl rfl rfl; clear hbr)))
  all_goals go_wp2
  all_goals refine bodyPost_ret (by simp [results, Tryd.results19, go_sem, v4, v5]; try rfl) rfl ?_
  all_goals exact ⟨by first | (rw [← HVAL.out]; rfl) | (rw [hv3, ← HVAL.out]; rfl), (HBv.setCell (by simp; try omega) _).setCell (by simp; try omega) _⟩

end Go.Proofs.YtimpimnaknkgpaaDoor
