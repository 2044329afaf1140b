import Derived.Test.YtoijlbcbbblbfaaGreatDoorZzV0
import Derived.Test.YtoijlbcbbblbfaaGreatDoorZzG3x0
import Derived.Test.YtoijlbcbbblbfaaGreatDoorZzG7x0
import Derived.Test.YtoijlbcbbblbfaaGreatDoorY2HZ
namespace Go.Proofs.YtoijlbcbbblbfaaGreatDoor
open Go.RowKit
open Num hiding B B_eq Lim sumB win sumB_congr Bp Bs sumB_bd subD subC sub_one addD addC add_one win_s win_congr take_step mul_one addp_step lv sumB_zero lv_of lv_bd lv_nil lv_trim Lim_zero win_zero sum_step Bmono sum_end len_of_lv ordN_val lv_lt_of_len ordL_val take_end win_split mul_step win_low win_bd win_change YB lv_set OfI dgt_lv
open Num32
open Go.Proofs.YtoijlbcbbblbfaaGreatDoorW Go.Proofs.YtoijlbcbbblbfaaGreatDoorW.PrintWords
set_option linter.unusedVariables false
set_option linter.unusedSimpArgs false

/-- What lies in memory while Lowest runs: both numbers, the result. -/
structure LW (w W : World) (nb : Bool) (s1 : ByteArray) (db : Bool) (s2 : ByteArray) : Prop where
 x0 : W.heap[w.heap.size]? = some (.cells #[.bool nb, .string s1] 24 (0, 0))
 x1 : W.heap[w.heap.size + 1]? = some (.cells #[.bool db, .string s2] 24 (0, 0))
 x2 : W.heap[w.heap.size + 2]? = some (.cells #[.bool false, .string ⟨#[]⟩, .string ⟨#[]⟩] 27 (0, 0))
 bel : Below w.heap.size w W
theorem LW.step {w W W2 : World} {nb : Bool} {s1 : ByteArray} {db : Bool} {s2 : ByteArray} (h : LW w W nb s1 db s2) (hb : Below W.heap.size W W2) : LW w W2 nb s1 db s2 :=
 ⟨blk_below h.x0 hb, blk_below h.x1 hb, blk_below h.x2 hb, h.bel.trans (hb.mono h.bel.size)⟩
theorem LW.setn {w W : World} {nb : Bool} {s1 : ByteArray} {db : Bool} {s2 : ByteArray} (h : LW w W nb s1 db s2) (x : Bool) (y : ByteArray) : LW w ((W.setCell ⟨w.heap.size, 0, none⟩ (.bool x)).setCell ⟨w.heap.size, 1, none⟩ (.string y)) x y db s2 :=
 ⟨blk_put (blk_put h.x0 0 _ rfl) 1 _ rfl, PrintWords.blk_far (PrintWords.blk_far h.x1 (by simp) _) (by simp) _, PrintWords.blk_far (PrintWords.blk_far h.x2 (by simp) _) (by simp) _, (h.bel.setCell (Nat.le_refl _) _).setCell (Nat.le_refl _) _⟩
theorem LW.setd {w W : World} {nb : Bool} {s1 : ByteArray} {db : Bool} {s2 : ByteArray} (h : LW w W nb s1 db s2) (x : Bool) (y : ByteArray) : LW w ((W.setCell ⟨w.heap.size + 1, 0, none⟩ (.bool x)).setCell ⟨w.heap.size + 1, 1, none⟩ (.string y)) nb s1 x y :=
 ⟨PrintWords.blk_far (PrintWords.blk_far h.x0 (by simp) _) (by simp) _, blk_put (blk_put h.x1 0 _ rfl) 1 _ rfl, PrintWords.blk_far (PrintWords.blk_far h.x2 (by simp) _) (by simp) _, (h.bel.setCell (Nat.le_add_right _ _) _).setCell (Nat.le_add_right _ _) _⟩
theorem LW.c {w W : World} {nb : Bool} {s1 : ByteArray} {db : Bool} {s2 : ByteArray} (h : LW w W nb s1 db s2) :
  W.cell? ⟨w.heap.size, 0, none⟩ = some (.bool nb) ∧ W.cell? ⟨w.heap.size, 1, none⟩ = some (.string s1) ∧ W.frozen? ⟨w.heap.size, 0, none⟩ = false ∧ W.frozen? ⟨w.heap.size, 1, none⟩ = false ∧
  W.cell? ⟨w.heap.size + 1, 0, none⟩ = some (.bool db) ∧ W.cell? ⟨w.heap.size + 1, 1, none⟩ = some (.string s2) ∧ W.frozen? ⟨w.heap.size + 1, 0, none⟩ = false ∧ W.frozen? ⟨w.heap.size + 1, 1, none⟩ = false ∧
  W.cell? ⟨w.heap.size + 2, 0, none⟩ = some (.bool false) ∧ W.cell? ⟨w.heap.size + 2, 1, none⟩ = some (.string ⟨#[]⟩) ∧ W.cell? ⟨w.heap.size + 2, 2, none⟩ = some (.string ⟨#[]⟩) ∧ W.frozen? ⟨w.heap.size + 2, 0, none⟩ = false ∧ W.frozen? ⟨w.heap.size + 2, 1, none⟩ = false ∧ W.frozen? ⟨w.heap.size + 2, 2, none⟩ = false :=
 ⟨(blk_cell h.x0 0).trans rfl, (blk_cell h.x0 1).trans rfl, blk_frozen h.x0 0, blk_frozen h.x0 1, (blk_cell h.x1 0).trans rfl, (blk_cell h.x1 1).trans rfl, blk_frozen h.x1 0, blk_frozen h.x1 1, (blk_cell h.x2 0).trans rfl, (blk_cell h.x2 1).trans rfl, (blk_cell h.x2 2).trans rfl, blk_frozen h.x2 0, blk_frozen h.x2 1, blk_frozen h.x2 2⟩
theorem LW.new (w : World) (n1 : Bool) (s1 : ByteArray) (n2 : Bool) (s2 : ByteArray) : LW w (((w.alloc (.cells #[.bool n1, .string s1] 24)).alloc (.cells #[.bool n2, .string s2] 24)).alloc (.cells #[.bool false, .string ⟨#[]⟩, .string ⟨#[]⟩] 27)) n1 s1 n2 s2 :=
 ⟨blk_alloc (blk_alloc (blk_new w _) _) _, blk_alloc (by simpa using blk_new (w.alloc (.cells #[.bool n1, .string s1] 24)) (.cells #[.bool n2, .string s2] 24)) _, by simpa using blk_new ((w.alloc (.cells #[.bool n1, .string s1] 24)).alloc (.cells #[.bool n2, .string s2] 24)) (.cells #[.bool false, .string ⟨#[]⟩, .string ⟨#[]⟩] 27), ((((Below.refl _ _).alloc (Nat.le_refl _) _).alloc (by simp; try omega) _).alloc (by simp; try omega) _)⟩
theorem divsz {a g M : Int} {k : Nat} (ha : 0 ≤ a) (h : a < 256 ^ (4 * k)) {q : List Int} (hl : Lim q) (ht : Tr q) (hv : lv q = a / g) : q.length ≤ k := by
 apply len_of_lv ht hl
 rw [hv, ← YB]
 have := Int.ediv_le_self g ha
 omega
/-- A part of what Lowest tells where a divisor is divided out. -/
theorem low_mag {n : Bool} {s : ByteArray} {G : Nat} (hd : (G : Int) ∣ ival n s) : encN (nv s / (G : Int)) = (pv (ival n s / (G : Int))).2 := by
 show encN _ = encN _
 congr 1
 have h0 := (nv_bd s).1
 unfold ival sgn at hd ⊢
 cases n
 ·simp only [Bool.false_eq_true, if_false]
  have := Int.ediv_nonneg h0 (show (0 : Int) ≤ (G : Int) by omega)
  omega
 ·simp only [if_true] at hd ⊢
  have hd2 : (G : Int) ∣ nv s := Int.dvd_neg.1 hd
  rw [Int.neg_ediv_of_dvd hd2]
  have := Int.ediv_nonneg h0 (show (0 : Int) ≤ (G : Int) by omega)
  omega
theorem low_sgn {n : Bool} {s : ByteArray} {G : Nat} (hk : okI n s) (hG : 0 < G) (hd : (G : Int) ∣ ival n s) : n = (pv (ival n s / (G : Int))).1 := by
 show n = decide _
 have h0 := (nv_bd s).1
 obtain ⟨c, hc⟩ := hd
 rw [hc, Int.mul_ediv_cancel_left _ (by omega)]
 cases n
 ·have hv : ival false s = nv s := rfl
  rw [hv] at hc
  refine (decide_eq_false fun hlt => ?_).symm
  have := Int.mul_neg_of_pos_of_neg (show (0 : Int) < (G : Int) by omega) hlt
  omega
 ·have hp := nv_pos hk.2.1 (hk.2.2 rfl)
  have hv : ival true s = - nv s := rfl
  rw [hv] at hc
  refine (decide_eq_true (Int.lt_of_not_ge fun hge => ?_)).symm
  have := Int.mul_nonneg (show (0 : Int) ≤ (G : Int) by omega) hge
  omega

set_option maxHeartbeats 4000000 in
set_option maxRecDepth 100000 in
theorem low_a (n1 nb : Bool) (s1 s2 gS : ByteArray) (G : Nat) (R : RG) (HCM : Hid (∀ w, Calls Tryz.prog 49 #[.agg #[.bool n1, .string s1], .agg #[.bool false, .string s2]] w fun e w' => e = .returned (.agg #[.bool false, .string gS]) ∧ Below w.heap.size w w'))
  (hnb : n1 = nb) (hg : (gS.toList == ([1] : List UInt8)) = true) (hres : (nb, s1, s2) = R) (w : World) :
  Calls Tryz.prog 16 #[.agg #[.bool n1, .string s1], .agg #[.bool false, .string s2]] w fun e w' => e = .returned (.agg #[.bool R.1, .string R.2.1, .string R.2.2]) ∧ Below w.heap.size w w' := by
 subst hnb
 have HRES := Lib.hid hres.symm
 clear hres
 obtain ⟨w3, hw3⟩ : ∃ w3, w3 = ((w.alloc (.cells #[.bool n1, .string s1] 24)).alloc (.cells #[.bool false, .string s2] 24)).alloc (.cells #[.bool false, .string ⟨#[]⟩, .string ⟨#[]⟩] 27) := ⟨_, rfl⟩
 have HL := Lib.hid (LW.new w n1 s1 false s2)
 rw [← hw3] at HL
 have HW := Lib.hid hw3
 clear hw3
 obtain ⟨a0, a1, a2, a3, b0, b1, b2, b3, d0, d1, d2, d3, d4, d5⟩ := HL.out.c
 go_enter Tryz.func16, Tryz.ntmps16
 go_wp2_with fail
 rw [← HW.out]
 clear HW a0 a1 a2 a3 b0 b1 b2 b3 d0 d1 d2 d3 d4 d5
 refine (HCM.out _).mono ?_
 rintro e w5 ⟨rfl, hb5⟩
 have HL6 := Lib.hid ((HL.out.step hb5).step ((Below.refl w5.heap.size w5).alloc (Nat.le_refl _) (.cells #[.bool false, .string gS] 24)))
 have HG := Lib.hid (blk_new w5 (.cells #[.bool false, .string gS] 24))
 have HGE := Lib.hid (show w.heap.size + 2 < w5.heap.size from blk_lt (HL.out.step hb5).x2)
 clear hb5 HL
 obtain ⟨a0, a1, a2, a3, b0, b1, b2, b3, d0, d1, d2, d3, d4, d5⟩ := HL6.out.c
 go_upto_if 14 with fail
 clear a0 a1 a2 a3 b0 b1 b2 b3 d0 d1 d2 d3 d4 d5
 obtain ⟨W5, hW5⟩ : ∃ W, W = w5.alloc (.cells #[.bool false, .string gS] 24) := ⟨_, rfl⟩
 rw [← hW5]
 rw [← hW5] at HL6 HG
 clear hW5
 obtain ⟨g5, hg5⟩ : ∃ g, w5.heap.size = g := ⟨_, rfl⟩
 rw [hg5] at HG HGE ⊢
 clear hg5
 have HL := HL6; clear HL6
 obtain ⟨a0, a1, a2, a3, b0, b1, b2, b3, d0, d1, d2, d3, d4, d5⟩ := HL.out.c
 have e1 : W5.cell? ⟨g5, 1, none⟩ = some (.string gS) := (blk_cell HG.out 1).trans rfl
 go_wp2
 refine bodyPost_ret (by simp [results, Tryz.results16, go_sem, d0, d1, d2]; try rfl) rfl ?_
 exact ⟨by rw [HRES.out], ((HL.out.bel.setCell (by simp; try omega) _).setCell (by simp; try omega) _).setCell (by simp; try omega) _⟩
set_option maxHeartbeats 4000000 in
set_option maxRecDepth 100000 in
theorem low_b (n1 nb : Bool) (s1 s2 gS : ByteArray) (G : Nat) (R : RG) (HCM : Hid (∀ w, Calls Tryz.prog 49 #[.agg #[.bool n1, .string s1], .agg #[.bool false, .string s2]] w fun e w' => e = .returned (.agg #[.bool false, .string gS]) ∧ Below w.heap.size w w'))
  (hnb : n1 = nb) (hg : (gS.toList == ([1] : List UInt8)) = false) (h1 : s1.size ≤ 1000) (h2 : s2.size ≤ 1000) (h3 : gS.size ≤ 1000) (hgv : nv gS = (G : Int)) (hgp : 0 < G) (hres : (nb, encN (nv s1 / (G : Int)), encN (nv s2 / (G : Int))) = R) (w : World) :
  Calls Tryz.prog 16 #[.agg #[.bool n1, .string s1], .agg #[.bool false, .string s2]] w fun e w' => e = .returned (.agg #[.bool R.1, .string R.2.1, .string R.2.2]) ∧ Below w.heap.size w w' := by
 subst hnb
 have HRES := Lib.hid hres.symm
 clear hres
 have HSZ := Lib.hid (And.intro h1 (And.intro h2 h3))
 have HGP := Lib.hid (show 0 < nv gS by omega)
 have HD1 := Lib.hid (digits_r s1 (by omega))
 have HD2 := Lib.hid (digits_r s2 (by omega))
 have HDG := Lib.hid (digits_r gS (by omega))
 have HGV := Lib.hid hgv
 clear h1 h2 h3 hgv hgp
 obtain ⟨w3, hw3⟩ : ∃ w3, w3 = ((w.alloc (.cells #[.bool n1, .string s1] 24)).alloc (.cells #[.bool false, .string s2] 24)).alloc (.cells #[.bool false, .string ⟨#[]⟩, .string ⟨#[]⟩] 27) := ⟨_, rfl⟩
 have HL := Lib.hid (LW.new w n1 s1 false s2)
 rw [← hw3] at HL
 have HW := Lib.hid hw3
 clear hw3
 obtain ⟨a0, a1, a2, a3, b0, b1, b2, b3, d0, d1, d2, d3, d4, d5⟩ := HL.out.c
 go_enter Tryz.func16, Tryz.ntmps16
 go_wp2_with fail
 rw [← HW.out]
 clear HW a0 a1 a2 a3 b0 b1 b2 b3 d0 d1 d2 d3 d4 d5
 refine (HCM.out _).mono ?_
 rintro e w5 ⟨rfl, hb5⟩
 have HL6 := Lib.hid ((HL.out.step hb5).step ((Below.refl w5.heap.size w5).alloc (Nat.le_refl _) (.cells #[.bool false, .string gS] 24)))
 have HG := Lib.hid (blk_new w5 (.cells #[.bool false, .string gS] 24))
 have HGE := Lib.hid (show w.heap.size + 2 < w5.heap.size from blk_lt (HL.out.step hb5).x2)
 clear hb5 HL
 obtain ⟨a0, a1, a2, a3, b0, b1, b2, b3, d0, d1, d2, d3, d4, d5⟩ := HL6.out.c
 go_upto_if 14 with fail
 clear a0 a1 a2 a3 b0 b1 b2 b3 d0 d1 d2 d3 d4 d5
 obtain ⟨W5, hW5⟩ : ∃ W, W = w5.alloc (.cells #[.bool false, .string gS] 24) := ⟨_, rfl⟩
 rw [← hW5]
 rw [← hW5] at HL6 HG
 clear hW5
 obtain ⟨g5, hg5⟩ : ∃ g, w5.heap.size = g := ⟨_, rfl⟩
 rw [hg5] at HG HGE ⊢
 clear hg5
 have HL := HL6; clear HL6
 obtain ⟨a0, a1, a2, a3, b0, b1, b2, b3, d0, d1, d2, d3, d4, d5⟩ := HL.out.c
 have e1 : W5.cell? ⟨g5, 1, none⟩ = some (.string gS) := (blk_cell HG.out 1).trans rfl
 go_upto_region 7 with fail
 clear a0 a1 a2 a3 b0 b1 b2 b3 d0 d1 d2 d3 d4 d5
 clear e1
 have z0 : W5.cell? ⟨w.heap.size, 1, none⟩ = some (.string s1) := (blk_cell HL.out.x0 1).trans rfl
 have z1 : W5.cell? ⟨g5, 1, none⟩ = some (.string gS) := (blk_cell HG.out 1).trans rfl
 have Lz0 := World.block_lt_of_cell? _ _ z0
 have Lz1 := World.block_lt_of_cell? _ _ z1
 have HBz := Below.refl W5.heap.size W5
 go_region_held3 (fun w' => w'.cell? ⟨w.heap.size, 1, none⟩ = some (.string s1) ∧ w'.cell? ⟨g5, 1, none⟩ = some (.string gS)) (first | exact ⟨v0, v1⟩ | exact ⟨x0, x1⟩ | exact ⟨y0, y1⟩ | exact ⟨z0, z1⟩ | go_keep) (first | (go_at_call 52; have gz := y0; clear gz; go_must (refine (HDG.out _).mono ?_; rintro e wx ⟨_, r2, rfl, ⟨g2, c2, rfl, hg2, hc2, hr2⟩, hl2, ht2, hv2, hbr⟩; have x0 := (hbr.cell (p := ⟨w.heap.size, 1, none⟩) Ly0).trans y0; have x1 := (hbr.cell (p := ⟨g5, 1, none⟩) Ly1).trans y1; have Lx0 := Nat.lt_of_lt_of_le Ly0 hbr.size; have Lx1 := Nat.lt_of_lt_of_le Ly1 hbr.size; have HBx := bel_join HBy hbr HBy.size rfl rfl rfl rfl; have hr1y := rl_below hbr hr1 (Nat.le_refl _); clear hbr)) | (go_at_call 52; go_must (refine (HD1.out _).mono ?_; rintro e wy ⟨_, r1, rfl, ⟨g1, c1, rfl, hg1, hc1, hr1⟩, hl1, ht1, hv1, hbr⟩; have y0 := (hbr.cell (p := ⟨w.heap.size, 1, none⟩) Lz0).trans z0; have y1 := (hbr.cell (p := ⟨g5, 1, none⟩) Lz1).trans z1; have Ly0 := Nat.lt_of_lt_of_le Lz0 hbr.size; have Ly1 := Nat.lt_of_lt_of_le Lz1 hbr.size; have HBy := bel_join HBz hbr HBz.size rfl rfl rfl rfl; clear hbr)) | (go_at_call 51; go_must (refine (divmod_r (some ⟨g1, 0, none⟩) (some ⟨g2, 0, none⟩) _ _ c1 c2 r1 r2 rfl rfl (Nat.le_trans (dig_len (k := 250) hl1 ht1 hv1 HSZ.out.1) (by decide)) (Nat.le_trans (dig_len (k := 250) hl2 ht2 hv2 HSZ.out.2.2) (by decide)) hc2 _ (by exact hr1y) (by exact hr2) hl1 hl2 ht2 (by rw [hv2]; exact HGP.out)).mono ?_; rintro e wa ⟨_, _, q3, u3, rfl, ⟨A3, c3, rfl, hc3, hr3⟩, ⟨A4, c4, rfl, hc4, hr4⟩, hl3, ht3, hl4, ht4, hv3, hv4, hbr⟩; have v0 := (hbr.cell (p := ⟨w.heap.size, 1, none⟩) Lx0).trans x0; have v1 := (hbr.cell (p := ⟨g5, 1, none⟩) Lx1).trans x1; have Lv0 := Nat.lt_of_lt_of_le Lx0 hbr.size; have Lv1 := Nat.lt_of_lt_of_le Lx1 hbr.size; have HBv := bel_join HBx hbr HBx.size rfl rfl rfl rfl; rw [hv1, hv2] at hv3; clear hbr hv4 ht4 hl4)))
 have HL := Lib.hid (HL.out.step HBv)
 have HG := Lib.hid (blk_below HG.out HBv)
 have HV3 := Lib.hid (And.intro hv3 (And.intro hl3 (divsz (M := 0) (k := 250) (nv_bd s1).1 (size_pow (k := 1000) HSZ.out.1) hl3 ht3 hv3)))
 have HR3 := Lib.hid (And.intro hr3 hc3)
 obtain ⟨n3, hn3⟩ : ∃ n, q3.length = n := ⟨_, rfl⟩
 rw [hn3]
 have HN3 := Lib.hid hn3
 obtain ⟨m3, hm3⟩ : ∃ n, u3.length = n := ⟨_, rfl⟩
 rw [hm3]
 clear hn3 hm3 hr3 hc3 hv3 hl3 ht3 hr4 hc4 v0 v1 x0 x1 y0 y1 z0 z1 Lv0 Lv1 Lx0 Lx1 Ly0 Ly1 Lz0 Lz1 HBv HBx HBy HBz hr1y hr2 hl2 ht2 hv2 hc2 hr1 hl1 ht1 hv1 hc1 hg1 hg2
 obtain ⟨a0, a1, a2, a3, b0, b1, b2, b3, d0, d1, d2, d3, d4, d5⟩ := HL.out.c
 have e1 : wa.cell? ⟨g5, 1, none⟩ = some (.string gS) := (blk_cell HG.out 1).trans rfl
 go_upto_region 8 with fail
 clear a0 a1 a2 a3 b0 b1 b2 b3 d0 d1 d2 d3 d4 d5
 clear e1
 have z0 : wa.cell? ⟨w.heap.size + 1, 1, none⟩ = some (.string s2) := (blk_cell HL.out.x1 1).trans rfl
 have z1 : wa.cell? ⟨g5, 1, none⟩ = some (.string gS) := (blk_cell HG.out 1).trans rfl
 have Lz0 := World.block_lt_of_cell? _ _ z0
 have Lz1 := World.block_lt_of_cell? _ _ z1
 have HBz := Below.refl wa.heap.size wa
 go_region_held3 (fun w' => w'.cell? ⟨w.heap.size + 1, 1, none⟩ = some (.string s2) ∧ w'.cell? ⟨g5, 1, none⟩ = some (.string gS)) (first | exact ⟨v0, v1⟩ | exact ⟨x0, x1⟩ | exact ⟨y0, y1⟩ | exact ⟨z0, z1⟩ | go_keep) (first | (go_at_call 52; have gz := y0; clear gz; go_must (refine (HDG.out _).mono ?_; rintro e wx ⟨_, r2, rfl, ⟨g2, c2, rfl, hg2, hc2, hr2⟩, hl2, ht2, hv2, hbr⟩; have x0 := (hbr.cell (p := ⟨w.heap.size + 1, 1, none⟩) Ly0).trans y0; have x1 := (hbr.cell (p := ⟨g5, 1, none⟩) Ly1).trans y1; have Lx0 := Nat.lt_of_lt_of_le Ly0 hbr.size; have Lx1 := Nat.lt_of_lt_of_le Ly1 hbr.size; have HBx := bel_join HBy hbr HBy.size rfl rfl rfl rfl; have hr1y := rl_below hbr hr1 (Nat.le_refl _); clear hbr)) | (go_at_call 52; go_must (refine (HD2.out _).mono ?_; rintro e wy ⟨_, r1, rfl, ⟨g1, c1, rfl, hg1, hc1, hr1⟩, hl1, ht1, hv1, hbr⟩; have y0 := (hbr.cell (p := ⟨w.heap.size + 1, 1, none⟩) Lz0).trans z0; have y1 := (hbr.cell (p := ⟨g5, 1, none⟩) Lz1).trans z1; have Ly0 := Nat.lt_of_lt_of_le Lz0 hbr.size; have Ly1 := Nat.lt_of_lt_of_le Lz1 hbr.size; have HBy := bel_join HBz hbr HBz.size rfl rfl rfl rfl; clear hbr)) | (go_at_call 51; go_must (refine (divmod_r (some ⟨g1, 0, none⟩) (some ⟨g2, 0, none⟩) _ _ c1 c2 r1 r2 rfl rfl (Nat.le_trans (dig_len (k := 250) hl1 ht1 hv1 HSZ.out.2.1) (by decide)) (Nat.le_trans (dig_len (k := 250) hl2 ht2 hv2 HSZ.out.2.2) (by decide)) hc2 _ (by exact hr1y) (by exact hr2) hl1 hl2 ht2 (by rw [hv2]; exact HGP.out)).mono ?_; rintro e wb ⟨_, _, q5, u5, rfl, ⟨A5, c5, rfl, hc5, hr5⟩, ⟨A4, c4, rfl, hc4, hr4⟩, hl5, ht5, hl4, ht4, hv5, hv4, hbr⟩; have v0 := (hbr.cell (p := ⟨w.heap.size + 1, 1, none⟩) Lx0).trans x0; have v1 := (hbr.cell (p := ⟨g5, 1, none⟩) Lx1).trans x1; have Lv0 := Nat.lt_of_lt_of_le Lx0 hbr.size; have Lv1 := Nat.lt_of_lt_of_le Lx1 hbr.size; have HBv := bel_join HBx hbr HBx.size rfl rfl rfl rfl; rw [hv1, hv2] at hv5; clear hbr hv4 ht4 hl4)))
 have HL := Lib.hid (HL.out.step HBv)
 have HG := Lib.hid (blk_below HG.out HBv)
 have HR3 := Lib.hid (And.intro (rl_below HBv HR3.out.1 (Nat.le_refl _)) HR3.out.2)
 have HV5 := Lib.hid (And.intro hv5 (And.intro hl5 (divsz (M := 0) (k := 250) (nv_bd s2).1 (size_pow (k := 1000) HSZ.out.2.1) hl5 ht5 hv5)))
 have HR5 := Lib.hid (And.intro hr5 hc5)
 obtain ⟨n5, hn5⟩ : ∃ n, q5.length = n := ⟨_, rfl⟩
 rw [hn5]
 have HN5 := Lib.hid hn5
 obtain ⟨m5, hm5⟩ : ∃ n, u5.length = n := ⟨_, rfl⟩
 rw [hm5]
 clear hn5 hm5 hr5 hc5 hv5 hl5 ht5 hr4 hc4 v0 v1 x0 x1 y0 y1 z0 z1 Lv0 Lv1 Lx0 Lx1 Ly0 Ly1 Lz0 Lz1 HBv HBx HBy HBz hr1y hr2 hl2 ht2 hv2 hc2 hr1 hl1 ht1 hv1 hc1 hg1 hg2
 obtain ⟨a0, a1, a2, a3, b0, b1, b2, b3, d0, d1, d2, d3, d4, d5⟩ := HL.out.c
 go_upto_region 9 with fail
 have HB0 := Below.refl wb.heap.size wb
 have Ld := World.block_lt_of_cell? _ _ d0
 have HM1 := Lib.hid (fun (w9 : World) (h9 : w9.heap = wb.heap) => nat_r A3 n3 c3 q3 HN3.out (by have := HV3.out.2.2; rw [HN3.out] at this; omega) (by have := HR3.out.2; rw [HN3.out] at this; exact this) w9 (HR3.out.1.heap h9) HV3.out.2.1)
 have HM2 := Lib.hid (fun (w9 : World) (h9 : Below wb.heap.size wb w9) => nat_r A5 n5 c5 q5 HN5.out (by have := HV5.out.2.2; rw [HN5.out] at this; omega) (by have := HR5.out.2; rw [HN5.out] at this; exact this) w9 (rl_below h9 HR5.out.1 (Nat.le_refl _)) HV5.out.2.1)
 have y0 := a0; have y1 := d0; have y2 := d1; have y3 := d2; have y4 := d3; have y5 := d4; have y6 := d5; have Ly := Ld; have HBy := HB0
 clear a0 a1 a2 a3 b0 b1 b2 b3 d0 d1 d2 d3 d4 d5
 clear Ld HB0
 have hne : ¬ w.heap.size = w.heap.size + 1 + 1 := by omega
 go_region_held3 (fun w' => w'.cell? ⟨w.heap.size, 0, none⟩ = some (.bool n1)) (first | exact v0 | exact x0 | exact y0 | exact (cell_far _ _ _ _ _ _ hne).trans ((cell_far _ _ _ _ _ _ hne).trans ((cell_far _ _ _ _ _ _ hne).trans v0)) | go_keep) (first | (go_at_call 53; have gz := x0; clear gz; go_must (refine (HM2.out _ (by first | exact HBx | exact HBx.drew)).mono ?_; rintro e wv ⟨rfl, hbr⟩; have v0 := (hbr.cell (p := ⟨w.heap.size, 0, none⟩) (Nat.lt_trans (Nat.lt_add_of_pos_right (show 0 < 2 by decide)) Lx)).trans x0; have v1 := (hbr.cell (p := ⟨w.heap.size + 2, 0, none⟩) Lx).trans x1; have v2 := (hbr.cell (p := ⟨w.heap.size + 2, 1, none⟩) Lx).trans x2; have v3 := (hbr.cell (p := ⟨w.heap.size + 2, 2, none⟩) Lx).trans x3; have v4 := (hbr.frozen (p := ⟨w.heap.size + 2, 0, none⟩) Lx).trans x4; have v5 := (hbr.frozen (p := ⟨w.heap.size + 2, 1, none⟩) Lx).trans x5; have v6 := (hbr.frozen (p := ⟨w.heap.size + 2, 2, none⟩) Lx).trans x6; have Lv := Nat.lt_of_lt_of_le Lx hbr.size; have HBv := bel_join HBx hbr HBx.size rfl rfl rfl rfl; clear hbr)) | (go_at_call 53; go_must (refine (HM1.out _ (by rfl)).mono ?_; rintro e wx ⟨rfl, hbr⟩; have x0 := (hbr.cell (p := ⟨w.heap.size, 0, none⟩) (Nat.lt_trans (Nat.lt_add_of_pos_right (show 0 < 2 by decide)) Ly)).trans y0; have x1 := (hbr.cell (p := ⟨w.heap.size + 2, 0, none⟩) Ly).trans y1; have x2 := (hbr.cell (p := ⟨w.heap.size + 2, 1, none⟩) Ly).trans y2; have x3 := (hbr.cell (p := ⟨w.heap.size + 2, 2, none⟩) Ly).trans y3; have x4 := (hbr.frozen (p := ⟨w.heap.size + 2, 0, none⟩) Ly).trans y4; have x5 := (hbr.frozen (p := ⟨w.heap.size + 2, 1, none⟩) Ly).trans y5; have x6 := (hbr.frozen (p := ⟨w.heap.size + 2, 2, none⟩) Ly).trans y6; have Lx := Nat.lt_of_lt_of_le Ly hbr.size; have HBx := bel_join HBy hbr HBy.size rfl rfl rfl rfl; clear hbr)))
 all_goals go_wp2
 all_goals refine bodyPost_ret (by simp [results, Tryz.results16, go_sem, v1, v2, v3]; try rfl) rfl ?_
 all_goals exact ⟨by rw [HV3.out.1, HV5.out.1, HGV.out, HRES.out], (((HL.out.bel.trans (HBv.mono HL.out.bel.size)).setCell (by simp; try omega) _).setCell (by simp; try omega) _).setCell (by simp; try omega) _⟩
set_option maxHeartbeats 4000000 in
set_option maxRecDepth 100000 in
theorem low_c (n1 nb : Bool) (s1 s2 gS : ByteArray) (G : Nat) (R : RG) (HCM : Hid (∀ w, Calls Tryz.prog 49 #[.agg #[.bool n1, .string s1], .agg #[.bool true, .string s2]] w fun e w' => e = .returned (.agg #[.bool false, .string gS]) ∧ Below w.heap.size w w'))
  (HN1 : Hid (∀ w, Calls Tryz.prog 50 #[.agg #[.bool n1, .string s1]] w fun e w' => e = .returned (.agg #[.bool nb, .string s1]) ∧ Below w.heap.size w w')) (HN2 : Hid (∀ w, Calls Tryz.prog 50 #[.agg #[.bool true, .string s2]] w fun e w' => e = .returned (.agg #[.bool false, .string s2]) ∧ Below w.heap.size w w'))
  (hg : (gS.toList == ([1] : List UInt8)) = true) (hres : (nb, s1, s2) = R) (w : World) :
  Calls Tryz.prog 16 #[.agg #[.bool n1, .string s1], .agg #[.bool true, .string s2]] w fun e w' => e = .returned (.agg #[.bool R.1, .string R.2.1, .string R.2.2]) ∧ Below w.heap.size w w' := by
 have HRES := Lib.hid hres.symm
 clear hres
 obtain ⟨w3, hw3⟩ : ∃ w3, w3 = ((w.alloc (.cells #[.bool n1, .string s1] 24)).alloc (.cells #[.bool true, .string s2] 24)).alloc (.cells #[.bool false, .string ⟨#[]⟩, .string ⟨#[]⟩] 27) := ⟨_, rfl⟩
 have HL := Lib.hid (LW.new w n1 s1 true s2)
 rw [← hw3] at HL
 have HW := Lib.hid hw3
 clear hw3
 obtain ⟨a0, a1, a2, a3, b0, b1, b2, b3, d0, d1, d2, d3, d4, d5⟩ := HL.out.c
 go_enter Tryz.func16, Tryz.ntmps16
 go_wp2_with fail
 rw [← HW.out]
 clear HW a0 a1 a2 a3 b0 b1 b2 b3 d0 d1 d2 d3 d4 d5
 refine (HCM.out _).mono ?_
 rintro e w5 ⟨rfl, hb5⟩
 have HL6 := Lib.hid ((HL.out.step hb5).step ((Below.refl w5.heap.size w5).alloc (Nat.le_refl _) (.cells #[.bool false, .string gS] 24)))
 have HG := Lib.hid (blk_new w5 (.cells #[.bool false, .string gS] 24))
 have HGE := Lib.hid (show w.heap.size + 2 < w5.heap.size from blk_lt (HL.out.step hb5).x2)
 clear hb5 HL
 obtain ⟨a0, a1, a2, a3, b0, b1, b2, b3, d0, d1, d2, d3, d4, d5⟩ := HL6.out.c
 go_upto_if 14 with fail
 clear a0 a1 a2 a3 b0 b1 b2 b3 d0 d1 d2 d3 d4 d5
 obtain ⟨W5, hW5⟩ : ∃ W, W = w5.alloc (.cells #[.bool false, .string gS] 24) := ⟨_, rfl⟩
 rw [← hW5]
 rw [← hW5] at HL6 HG
 clear hW5
 obtain ⟨g5, hg5⟩ : ∃ g, w5.heap.size = g := ⟨_, rfl⟩
 rw [hg5] at HG HGE ⊢
 clear hg5
 have HL := HL6; clear HL6
 obtain ⟨a0, a1, a2, a3, b0, b1, b2, b3, d0, d1, d2, d3, d4, d5⟩ := HL.out.c
 go_wp2_with fail
 refine (HN1.out _).mono ?_
 rintro e w6 ⟨rfl, hb6⟩
 have HL6 := Lib.hid (HL.out.step hb6)
 have HG6 := Lib.hid (blk_below HG.out hb6)
 clear a0 a1 a2 a3 b0 b1 b2 b3 d0 d1 d2 d3 d4 d5
 clear HL HG hb6
 have HL := HL6; have HG := HG6; clear HL6 HG6
 obtain ⟨a0, a1, a2, a3, b0, b1, b2, b3, d0, d1, d2, d3, d4, d5⟩ := HL.out.c
 go_upto_region 4 with fail
 clear a0 a1 a2 a3 b0 b1 b2 b3 d0 d1 d2 d3 d4 d5
 obtain ⟨W6, hW6⟩ : ∃ W, W = (w6.setCell ⟨w.heap.size, 0, none⟩ (.bool nb)).setCell ⟨w.heap.size, 1, none⟩ (.string s1) := ⟨_, rfl⟩
 rw [← hW6]
 have HL6 := Lib.hid (HL.out.setn nb s1)
 have HG6 := Lib.hid (PrintWords.blk_far (PrintWords.blk_far HG.out (p := ⟨w.heap.size, 0, none⟩) (show g5 ≠ w.heap.size by have := HGE.out; omega) (.bool nb)) (p := ⟨w.heap.size, 1, none⟩) (show g5 ≠ w.heap.size by have := HGE.out; omega) (.string s1))
 rw [← hW6] at HL6 HG6
 clear hW6 HL HG
 have HL := HL6; have HG := HG6; clear HL6 HG6
 obtain ⟨a0, a1, a2, a3, b0, b1, b2, b3, d0, d1, d2, d3, d4, d5⟩ := HL.out.c
 go_wp2_with fail
 refine (HN2.out _).mono ?_
 rintro e w7 ⟨rfl, hb7⟩
 have HL6 := Lib.hid (HL.out.step hb7)
 have HG6 := Lib.hid (blk_below HG.out hb7)
 clear a0 a1 a2 a3 b0 b1 b2 b3 d0 d1 d2 d3 d4 d5
 clear HL HG hb7
 have HL := HL6; have HG := HG6; clear HL6 HG6
 obtain ⟨a0, a1, a2, a3, b0, b1, b2, b3, d0, d1, d2, d3, d4, d5⟩ := HL.out.c
 go_upto_region 5 with fail
 clear a0 a1 a2 a3 b0 b1 b2 b3 d0 d1 d2 d3 d4 d5
 obtain ⟨W7, hW7⟩ : ∃ W, W = (w7.setCell ⟨w.heap.size + 1, 0, none⟩ (.bool false)).setCell ⟨w.heap.size + 1, 1, none⟩ (.string s2) := ⟨_, rfl⟩
 rw [← hW7]
 have HL6 := Lib.hid (HL.out.setd false s2)
 have HG6 := Lib.hid (PrintWords.blk_far (PrintWords.blk_far HG.out (p := ⟨w.heap.size + 1, 0, none⟩) (show g5 ≠ w.heap.size + 1 by have := HGE.out; omega) (.bool false)) (p := ⟨w.heap.size + 1, 1, none⟩) (show g5 ≠ w.heap.size + 1 by have := HGE.out; omega) (.string s2))
 rw [← hW7] at HL6 HG6
 clear hW7 HL HG
 have HL := HL6; have HG := HG6; clear HL6 HG6
 obtain ⟨a0, a1, a2, a3, b0, b1, b2, b3, d0, d1, d2, d3, d4, d5⟩ := HL.out.c
 have e1 : W7.cell? ⟨g5, 1, none⟩ = some (.string gS) := (blk_cell HG.out 1).trans rfl
 go_wp2
 refine bodyPost_ret (by simp [results, Tryz.results16, go_sem, d0, d1, d2]; try rfl) rfl ?_
 exact ⟨by rw [HRES.out], ((HL.out.bel.setCell (by simp; try omega) _).setCell (by simp; try omega) _).setCell (by simp; try omega) _⟩
set_option maxHeartbeats 4000000 in
set_option maxRecDepth 100000 in
theorem low_d (n1 nb : Bool) (s1 s2 gS : ByteArray) (G : Nat) (R : RG) (HCM : Hid (∀ w, Calls Tryz.prog 49 #[.agg #[.bool n1, .string s1], .agg #[.bool true, .string s2]] w fun e w' => e = .returned (.agg #[.bool false, .string gS]) ∧ Below w.heap.size w w'))
  (HN1 : Hid (∀ w, Calls Tryz.prog 50 #[.agg #[.bool n1, .string s1]] w fun e w' => e = .returned (.agg #[.bool nb, .string s1]) ∧ Below w.heap.size w w')) (HN2 : Hid (∀ w, Calls Tryz.prog 50 #[.agg #[.bool true, .string s2]] w fun e w' => e = .returned (.agg #[.bool false, .string s2]) ∧ Below w.heap.size w w'))
  (hg : (gS.toList == ([1] : List UInt8)) = false) (h1 : s1.size ≤ 1000) (h2 : s2.size ≤ 1000) (h3 : gS.size ≤ 1000) (hgv : nv gS = (G : Int)) (hgp : 0 < G) (hres : (nb, encN (nv s1 / (G : Int)), encN (nv s2 / (G : Int))) = R) (w : World) :
  Calls Tryz.prog 16 #[.agg #[.bool n1, .string s1], .agg #[.bool true, .string s2]] w fun e w' => e = .returned (.agg #[.bool R.1, .string R.2.1, .string R.2.2]) ∧ Below w.heap.size w w' := by
 have HRES := Lib.hid hres.symm
 clear hres
 have HSZ := Lib.hid (And.intro h1 (And.intro h2 h3))
 have HGP := Lib.hid (show 0 < nv gS by omega)
 have HD1 := Lib.hid (digits_r s1 (by omega))
 have HD2 := Lib.hid (digits_r s2 (by omega))
 have HDG := Lib.hid (digits_r gS (by omega))
 have HGV := Lib.hid hgv
 clear h1 h2 h3 hgv hgp
 obtain ⟨w3, hw3⟩ : ∃ w3, w3 = ((w.alloc (.cells #[.bool n1, .string s1] 24)).alloc (.cells #[.bool true, .string s2] 24)).alloc (.cells #[.bool false, .string ⟨#[]⟩, .string ⟨#[]⟩] 27) := ⟨_, rfl⟩
 have HL := Lib.hid (LW.new w n1 s1 true s2)
 rw [← hw3] at HL
 have HW := Lib.hid hw3
 clear hw3
 obtain ⟨a0, a1, a2, a3, b0, b1, b2, b3, d0, d1, d2, d3, d4, d5⟩ := HL.out.c
 go_enter Tryz.func16, Tryz.ntmps16
 go_wp2_with fail
 rw [← HW.out]
 clear HW a0 a1 a2 a3 b0 b1 b2 b3 d0 d1 d2 d3 d4 d5
 refine (HCM.out _).mono ?_
 rintro e w5 ⟨rfl, hb5⟩
 have HL6 := Lib.hid ((HL.out.step hb5).step ((Below.refl w5.heap.size w5).alloc (Nat.le_refl _) (.cells #[.bool false, .string gS] 24)))
 have HG := Lib.hid (blk_new w5 (.cells #[.bool false, .string gS] 24))
 have HGE := Lib.hid (show w.heap.size + 2 < w5.heap.size from blk_lt (HL.out.step hb5).x2)
 clear hb5 HL
 obtain ⟨a0, a1, a2, a3, b0, b1, b2, b3, d0, d1, d2, d3, d4, d5⟩ := HL6.out.c
 go_upto_if 14 with fail
 clear a0 a1 a2 a3 b0 b1 b2 b3 d0 d1 d2 d3 d4 d5
 obtain ⟨W5, hW5⟩ : ∃ W, W = w5.alloc (.cells #[.bool false, .string gS] 24) := ⟨_, rfl⟩
 rw [← hW5]
 rw [← hW5] at HL6 HG
 clear hW5
 obtain ⟨g5, hg5⟩ : ∃ g, w5.heap.size = g := ⟨_, rfl⟩
 rw [hg5] at HG HGE ⊢
 clear hg5
 have HL := HL6; clear HL6
 obtain ⟨a0, a1, a2, a3, b0, b1, b2, b3, d0, d1, d2, d3, d4, d5⟩ := HL.out.c
 go_wp2_with fail
 refine (HN1.out _).mono ?_
 rintro e w6 ⟨rfl, hb6⟩
 have HL6 := Lib.hid (HL.out.step hb6)
 have HG6 := Lib.hid (blk_below HG.out hb6)
 clear a0 a1 a2 a3 b0 b1 b2 b3 d0 d1 d2 d3 d4 d5
 clear HL HG hb6
 have HL := HL6; have HG := HG6; clear HL6 HG6
 obtain ⟨a0, a1, a2, a3, b0, b1, b2, b3, d0, d1, d2, d3, d4, d5⟩ := HL.out.c
 go_upto_region 4 with fail
 clear a0 a1 a2 a3 b0 b1 b2 b3 d0 d1 d2 d3 d4 d5
 obtain ⟨W6, hW6⟩ : ∃ W, W = (w6.setCell ⟨w.heap.size, 0, none⟩ (.bool nb)).setCell ⟨w.heap.size, 1, none⟩ (.string s1) := ⟨_, rfl⟩
 rw [← hW6]
 have HL6 := Lib.hid (HL.out.setn nb s1)
 have HG6 := Lib.hid (PrintWords.blk_far (PrintWords.blk_far HG.out (p := ⟨w.heap.size, 0, none⟩) (show g5 ≠ w.heap.size by have := HGE.out; omega) (.bool nb)) (p := ⟨w.heap.size, 1, none⟩) (show g5 ≠ w.heap.size by have := HGE.out; omega) (.string s1))
 rw [← hW6] at HL6 HG6
 clear hW6 HL HG
 have HL := HL6; have HG := HG6; clear HL6 HG6
 obtain ⟨a0, a1, a2, a3, b0, b1, b2, b3, d0, d1, d2, d3, d4, d5⟩ := HL.out.c
 go_wp2_with fail
 refine (HN2.out _).mono ?_
 rintro e w7 ⟨rfl, hb7⟩
 have HL6 := Lib.hid (HL.out.step hb7)
 have HG6 := Lib.hid (blk_below HG.out hb7)
 clear a0 a1 a2 a3 b0 b1 b2 b3 d0 d1 d2 d3 d4 d5
 clear HL HG hb7
 have HL := HL6; have HG := HG6; clear HL6 HG6
 obtain ⟨a0, a1, a2, a3, b0, b1, b2, b3, d0, d1, d2, d3, d4, d5⟩ := HL.out.c
 go_upto_region 5 with fail
 clear a0 a1 a2 a3 b0 b1 b2 b3 d0 d1 d2 d3 d4 d5
 obtain ⟨W7, hW7⟩ : ∃ W, W = (w7.setCell ⟨w.heap.size + 1, 0, none⟩ (.bool false)).setCell ⟨w.heap.size + 1, 1, none⟩ (.string s2) := ⟨_, rfl⟩
 rw [← hW7]
 have HL6 := Lib.hid (HL.out.setd false s2)
 have HG6 := Lib.hid (PrintWords.blk_far (PrintWords.blk_far HG.out (p := ⟨w.heap.size + 1, 0, none⟩) (show g5 ≠ w.heap.size + 1 by have := HGE.out; omega) (.bool false)) (p := ⟨w.heap.size + 1, 1, none⟩) (show g5 ≠ w.heap.size + 1 by have := HGE.out; omega) (.string s2))
 rw [← hW7] at HL6 HG6
 clear hW7 HL HG
 have HL := HL6; have HG := HG6; clear HL6 HG6
 obtain ⟨a0, a1, a2, a3, b0, b1, b2, b3, d0, d1, d2, d3, d4, d5⟩ := HL.out.c
 have e1 : W7.cell? ⟨g5, 1, none⟩ = some (.string gS) := (blk_cell HG.out 1).trans rfl
 go_upto_region 7 with fail
 clear a0 a1 a2 a3 b0 b1 b2 b3 d0 d1 d2 d3 d4 d5
 clear e1
 have z0 : W7.cell? ⟨w.heap.size, 1, none⟩ = some (.string s1) := (blk_cell HL.out.x0 1).trans rfl
 have z1 : W7.cell? ⟨g5, 1, none⟩ = some (.string gS) := (blk_cell HG.out 1).trans rfl
 have Lz0 := World.block_lt_of_cell? _ _ z0
 have Lz1 := World.block_lt_of_cell? _ _ z1
 have HBz := Below.refl W7.heap.size W7
 go_region_held3 (fun w' => w'.cell? ⟨w.heap.size, 1, none⟩ = some (.string s1) ∧ w'.cell? ⟨g5, 1, none⟩ = some (.string gS)) (first | exact ⟨v0, v1⟩ | exact ⟨x0, x1⟩ | exact ⟨y0, y1⟩ | exact ⟨z0, z1⟩ | go_keep) (first | (go_at_call 52; have gz := y0; clear gz; go_must (refine (HDG.out _).mono ?_; rintro e wx ⟨_, r2, rfl, ⟨g2, c2, rfl, hg2, hc2, hr2⟩, hl2, ht2, hv2, hbr⟩; have x0 := (hbr.cell (p := ⟨w.heap.size, 1, none⟩) Ly0).trans y0; have x1 := (hbr.cell (p := ⟨g5, 1, none⟩) Ly1).trans y1; have Lx0 := Nat.lt_of_lt_of_le Ly0 hbr.size; have Lx1 := Nat.lt_of_lt_of_le Ly1 hbr.size; have HBx := bel_join HBy hbr HBy.size rfl rfl rfl rfl; have hr1y := rl_below hbr hr1 (Nat.le_refl _); clear hbr)) | (go_at_call 52; go_must (refine (HD1.out _).mono ?_; rintro e wy ⟨_, r1, rfl, ⟨g1, c1, rfl, hg1, hc1, hr1⟩, hl1, ht1, hv1, hbr⟩; have y0 := (hbr.cell (p := ⟨w.heap.size, 1, none⟩) Lz0).trans z0; have y1 := (hbr.cell (p := ⟨g5, 1, none⟩) Lz1).trans z1; have Ly0 := Nat.lt_of_lt_of_le Lz0 hbr.size; have Ly1 := Nat.lt_of_lt_of_le Lz1 hbr.size; have HBy := bel_join HBz hbr HBz.size rfl rfl rfl rfl; clear hbr)) | (go_at_call 51; go_must (refine (divmod_r (some ⟨g1, 0, none⟩) (some ⟨g2, 0, none⟩) _ _ c1 c2 r1 r2 rfl rfl (Nat.le_trans (dig_len (k := 250) hl1 ht1 hv1 HSZ.out.1) (by decide)) (Nat.le_trans (dig_len (k := 250) hl2 ht2 hv2 HSZ.out.2.2) (by decide)) hc2 _ (by exact hr1y) (by exact hr2) hl1 hl2 ht2 (by rw [hv2]; exact HGP.out)).mono ?_; rintro e wa ⟨_, _, q3, u3, rfl, ⟨A3, c3, rfl, hc3, hr3⟩, ⟨A4, c4, rfl, hc4, hr4⟩, hl3, ht3, hl4, ht4, hv3, hv4, hbr⟩; have v0 := (hbr.cell (p := ⟨w.heap.size, 1, none⟩) Lx0).trans x0; have v1 := (hbr.cell (p := ⟨g5, 1, none⟩) Lx1).trans x1; have Lv0 := Nat.lt_of_lt_of_le Lx0 hbr.size; have Lv1 := Nat.lt_of_lt_of_le Lx1 hbr.size; have HBv := bel_join HBx hbr HBx.size rfl rfl rfl rfl; rw [hv1, hv2] at hv3; clear hbr hv4 ht4 hl4)))
 have HL := Lib.hid (HL.out.step HBv)
 have HG := Lib.hid (blk_below HG.out HBv)
 have HV3 := Lib.hid (And.intro hv3 (And.intro hl3 (divsz (M := 0) (k := 250) (nv_bd s1).1 (size_pow (k := 1000) HSZ.out.1) hl3 ht3 hv3)))
 have HR3 := Lib.hid (And.intro hr3 hc3)
 obtain ⟨n3, hn3⟩ : ∃ n, q3.length = n := ⟨_, rfl⟩
 rw [hn3]
 have HN3 := Lib.hid hn3
 obtain ⟨m3, hm3⟩ : ∃ n, u3.length = n := ⟨_, rfl⟩
 rw [hm3]
 clear hn3 hm3 hr3 hc3 hv3 hl3 ht3 hr4 hc4 v0 v1 x0 x1 y0 y1 z0 z1 Lv0 Lv1 Lx0 Lx1 Ly0 Ly1 Lz0 Lz1 HBv HBx HBy HBz hr1y hr2 hl2 ht2 hv2 hc2 hr1 hl1 ht1 hv1 hc1 hg1 hg2
 obtain ⟨a0, a1, a2, a3, b0, b1, b2, b3, d0, d1, d2, d3, d4, d5⟩ := HL.out.c
 have e1 : wa.cell? ⟨g5, 1, none⟩ = some (.string gS) := (blk_cell HG.out 1).trans rfl
 go_upto_region 8 with fail
 clear a0 a1 a2 a3 b0 b1 b2 b3 d0 d1 d2 d3 d4 d5
 clear e1
 have z0 : wa.cell? ⟨w.heap.size + 1, 1, none⟩ = some (.string s2) := (blk_cell HL.out.x1 1).trans rfl
 have z1 : wa.cell? ⟨g5, 1, none⟩ = some (.string gS) := (blk_cell HG.out 1).trans rfl
 have Lz0 := World.block_lt_of_cell? _ _ z0
 have Lz1 := World.block_lt_of_cell? _ _ z1
 have HBz := Below.refl wa.heap.size wa
 go_region_held3 (fun w' => w'.cell? ⟨w.heap.size + 1, 1, none⟩ = some (.string s2) ∧ w'.cell? ⟨g5, 1, none⟩ = some (.string gS)) (first | exact ⟨v0, v1⟩ | exact ⟨x0, x1⟩ | exact ⟨y0, y1⟩ | exact ⟨z0, z1⟩ | go_keep) (first | (go_at_call 52; have gz := y0; clear gz; go_must (refine (HDG.out _).mono ?_; rintro e wx ⟨_, r2, rfl, ⟨g2, c2, rfl, hg2, hc2, hr2⟩, hl2, ht2, hv2, hbr⟩; have x0 := (hbr.cell (p := ⟨w.heap.size + 1, 1, none⟩) Ly0).trans y0; have x1 := (hbr.cell (p := ⟨g5, 1, none⟩) Ly1).trans y1; have Lx0 := Nat.lt_of_lt_of_le Ly0 hbr.size; have Lx1 := Nat.lt_of_lt_of_le Ly1 hbr.size; have HBx := bel_join HBy hbr HBy.size rfl rfl rfl rfl; have hr1y := rl_below hbr hr1 (Nat.le_refl _); clear hbr)) | (go_at_call 52; go_must (refine (HD2.out _).mono ?_; rintro e wy ⟨_, r1, rfl, ⟨g1, c1, rfl, hg1, hc1, hr1⟩, hl1, ht1, hv1, hbr⟩; have y0 := (hbr.cell (p := ⟨w.heap.size + 1, 1, none⟩) Lz0).trans z0; have y1 := (hbr.cell (p := ⟨g5, 1, none⟩) Lz1).trans z1; have Ly0 := Nat.lt_of_lt_of_le Lz0 hbr.size; have Ly1 := Nat.lt_of_lt_of_le Lz1 hbr.size; have HBy := bel_join HBz hbr HBz.size rfl rfl rfl rfl; clear hbr)) | (go_at_call 51; go_must (refine (divmod_r (some ⟨g1, 0, none⟩) (some ⟨g2, 0, none⟩) _ _ c1 c2 r1 r2 rfl rfl (Nat.le_trans (dig_len (k := 250) hl1 ht1 hv1 HSZ.out.2.1) (by decide)) (Nat.le_trans (dig_len (k := 250) hl2 ht2 hv2 HSZ.out.2.2) (by decide)) hc2 _ (by exact hr1y) (by exact hr2) hl1 hl2 ht2 (by rw [hv2]; exact HGP.out)).mono ?_; rintro e wb ⟨_, _, q5, u5, rfl, ⟨A5, c5, rfl, hc5, hr5⟩, ⟨A4, c4, rfl, hc4, hr4⟩, hl5, ht5, hl4, ht4, hv5, hv4, hbr⟩; have v0 := (hbr.cell (p := ⟨w.heap.size + 1, 1, none⟩) Lx0).trans x0; have v1 := (hbr.cell (p := ⟨g5, 1, none⟩) Lx1).trans x1; have Lv0 := Nat.lt_of_lt_of_le Lx0 hbr.size; have Lv1 := Nat.lt_of_lt_of_le Lx1 hbr.size; have HBv := bel_join HBx hbr HBx.size rfl rfl rfl rfl; rw [hv1, hv2] at hv5; clear hbr hv4 ht4 hl4)))
 have HL := Lib.hid (HL.out.step HBv)
 have HG := Lib.hid (blk_below HG.out HBv)
 have HR3 := Lib.hid (And.intro (rl_below HBv HR3.out.1 (Nat.le_refl _)) HR3.out.2)
 have HV5 := Lib.hid (And.intro hv5 (And.intro hl5 (divsz (M := 0) (k := 250) (nv_bd s2).1 (size_pow (k := 1000) HSZ.out.2.1) hl5 ht5 hv5)))
 have HR5 := Lib.hid (And.intro hr5 hc5)
 obtain ⟨n5, hn5⟩ : ∃ n, q5.length = n := ⟨_, rfl⟩
 rw [hn5]
 have HN5 := Lib.hid hn5
 obtain ⟨m5, hm5⟩ : ∃ n, u5.length = n := ⟨_, rfl⟩
 rw [hm5]
 clear hn5 hm5 hr5 hc5 hv5 hl5 ht5 hr4 hc4 v0 v1 x0 x1 y0 y1 z0 z1 Lv0 Lv1 Lx0 Lx1 Ly0 Ly1 Lz0 Lz1 HBv HBx HBy HBz hr1y hr2 hl2 ht2 hv2 hc2 hr1 hl1 ht1 hv1 hc1 hg1 hg2
 obtain ⟨a0, a1, a2, a3, b0, b1, b2, b3, d0, d1, d2, d3, d4, d5⟩ := HL.out.c
 go_upto_region 9 with fail
 have HB0 := Below.refl wb.heap.size wb
 have Ld := World.block_lt_of_cell? _ _ d0
 have HM1 := Lib.hid (fun (w9 : World) (h9 : w9.heap = wb.heap) => nat_r A3 n3 c3 q3 HN3.out (by have := HV3.out.2.2; rw [HN3.out] at this; omega) (by have := HR3.out.2; rw [HN3.out] at this; exact this) w9 (HR3.out.1.heap h9) HV3.out.2.1)
 have HM2 := Lib.hid (fun (w9 : World) (h9 : Below wb.heap.size wb w9) => nat_r A5 n5 c5 q5 HN5.out (by have := HV5.out.2.2; rw [HN5.out] at this; omega) (by have := HR5.out.2; rw [HN5.out] at this; exact this) w9 (rl_below h9 HR5.out.1 (Nat.le_refl _)) HV5.out.2.1)
 have y0 := a0; have y1 := d0; have y2 := d1; have y3 := d2; have y4 := d3; have y5 := d4; have y6 := d5; have Ly := Ld; have HBy := HB0
 clear a0 a1 a2 a3 b0 b1 b2 b3 d0 d1 d2 d3 d4 d5
 clear Ld HB0
 have hne : ¬ w.heap.size = w.heap.size + 1 + 1 := by omega
 go_region_held3 (fun w' => w'.cell? ⟨w.heap.size, 0, none⟩ = some (.bool nb)) (first | exact v0 | exact x0 | exact y0 | exact (cell_far _ _ _ _ _ _ hne).trans ((cell_far _ _ _ _ _ _ hne).trans ((cell_far _ _ _ _ _ _ hne).trans v0)) | go_keep) (first | (go_at_call 53; have gz := x0; clear gz; go_must (refine (HM2.out _ (by first | exact HBx | exact HBx.drew)).mono ?_; rintro e wv ⟨rfl, hbr⟩; have v0 := (hbr.cell (p := ⟨w.heap.size, 0, none⟩) (Nat.lt_trans (Nat.lt_add_of_pos_right (show 0 < 2 by decide)) Lx)).trans x0; have v1 := (hbr.cell (p := ⟨w.heap.size + 2, 0, none⟩) Lx).trans x1; have v2 := (hbr.cell (p := ⟨w.heap.size + 2, 1, none⟩) Lx).trans x2; have v3 := (hbr.cell (p := ⟨w.heap.size + 2, 2, none⟩) Lx).trans x3; have v4 := (hbr.frozen (p := ⟨w.heap.size + 2, 0, none⟩) Lx).trans x4; have v5 := (hbr.frozen (p := ⟨w.heap.size + 2, 1, none⟩) Lx).trans x5; have v6 := (hbr.frozen (p := ⟨w.heap.size + 2, 2, none⟩) Lx).trans x6; have Lv := Nat.lt_of_lt_of_le Lx hbr.size; have HBv := bel_join HBx hbr HBx.size rfl rfl rfl rfl; clear hbr)) | (go_at_call 53; go_must (refine (HM1.out _ (by rfl)).mono ?_; rintro e wx ⟨rfl, hbr⟩; have x0 := (hbr.cell (p := ⟨w.heap.size, 0, none⟩) (Nat.lt_trans (Nat.lt_add_of_pos_right (show 0 < 2 by decide)) Ly)).trans y0; have x1 := (hbr.cell (p := ⟨w.heap.size + 2, 0, none⟩) Ly).trans y1; have x2 := (hbr.cell (p := ⟨w.heap.size + 2, 1, none⟩) Ly).trans y2; have x3 := (hbr.cell (p := ⟨w.heap.size + 2, 2, none⟩) Ly).trans y3; have x4 := (hbr.frozen (p := ⟨w.heap.size + 2, 0, none⟩) Ly).trans y4; have x5 := (hbr.frozen (p := ⟨w.heap.size + 2, 1, none⟩) Ly).trans y5; have x6 := (hbr.frozen (p := ⟨w.heap.size + 2, 2, none⟩) Ly).trans y6; have Lx := Nat.lt_of_lt_of_le Ly hbr.size; have HBx := bel_join HBy hbr HBy.size rfl rfl rfl rfl; clear hbr)))
 all_goals go_wp2
 all_goals refine bodyPost_ret (by simp [results, Tryz.results16, go_sem, v1, v2, v3]; try rfl) rfl ?_
 all_goals exact ⟨by rw [HV3.out.1, HV5.out.1, HGV.out, HRES.out], (((HL.out.bel.trans (HBv.mono HL.out.bel.size)).setCell (by simp; try omega) _).setCell (by simp; try omega) _).setCell (by simp; try omega) _⟩
theorem int_gcd_nv (n1 : Bool) (s1 : ByteArray) (n2 : Bool) (s2 : ByteArray) : Int.gcd (ival n1 s1) (ival n2 s2) = Nat.gcd (nv s1).toNat (nv s2).toNat := by
 unfold Int.gcd
 rw [natAbs_ival, natAbs_ival]
theorem low_fin {nb : Bool} {s1 s2 : ByteArray} (k1 : okI nb s1) (k2 : okI false s2) (hp : 0 < nv s2) {G : Nat} (hG : Nat.gcd (nv s1).toNat (nv s2).toNat = G) :
  (G = 1 → (nb, s1, s2) = pq (Rat.divInt (ival nb s1) (nv s2))) ∧ (nb, encN (nv s1 / (G : Int)), encN (nv s2 / (G : Int))) = pq (Rat.divInt (ival nb s1) (nv s2)) := by
 have hp2 : 0 < ival false s2 := hp
 have hg : Int.gcd (ival nb s1) (ival false s2) = G := (int_gcd_nv _ _ _ _).trans hG
 have hn := low_num (n := ival nb s1) hp2
 have hd := low_den (n := ival nb s1) hp2
 have hG0 := gcd_pos (n := ival nb s1) hp2
 rw [hg] at hn hd hG0
 have d1 : (G : Int) ∣ ival nb s1 := by rw [← hg]; exact Int.gcd_dvd_left _ _
 have d2 : (G : Int) ∣ ival false s2 := by rw [← hg]; exact Int.gcd_dvd_right _ _
 have e : pq (Rat.divInt (ival nb s1) (nv s2)) = ((pv (ival nb s1 / (G : Int))).1, (pv (ival nb s1 / (G : Int))).2, (pv (ival false s2 / (G : Int))).2) := by
  show pq (Rat.divInt (ival nb s1) (ival false s2)) = _
  unfold pq
  rw [hn, hd]
 rw [e, ← low_sgn k1 hG0 d1, ← low_mag d1, ← low_mag d2]
 refine ⟨fun h1 => ?_, rfl⟩
 have c1 : encN (nv s1 / (G : Int)) = s1 := by
  rw [h1]
  have : nv s1 / ((1 : Nat) : Int) = nv s1 := Int.ediv_one _
  rw [this]
  exact encN_nv k1.2.1
 have c2 : encN (nv s2 / (G : Int)) = s2 := by
  rw [h1]
  have : nv s2 / ((1 : Nat) : Int) = nv s2 := Int.ediv_one _
  rw [this]
  exact encN_nv k2.2.1
 rw [c1, c2]
theorem lowest_r (n1 : Bool) (s1 : ByteArray) (n2 : Bool) (s2 : ByteArray) (h1 : s1.size ≤ 1000) (h2 : s2.size ≤ 1000) (k1 : okI n1 s1) (k2 : okI n2 s2) (h0 : ival n2 s2 ≠ 0) (w : World) :
  Calls Tryz.prog 16 #[.agg #[.bool n1, .string s1], .agg #[.bool n2, .string s2]] w fun e w' => e = .returned (.agg #[.bool (pq (Rat.divInt (ival n1 s1) (ival n2 s2))).1, .string (pq (Rat.divInt (ival n1 s1) (ival n2 s2))).2.1, .string (pq (Rat.divInt (ival n1 s1) (ival n2 s2))).2.2]) ∧ Below w.heap.size w w' := by
 obtain ⟨G, hG⟩ : ∃ G, Nat.gcd (nv s1).toNat (nv s2).toNat = G := ⟨_, rfl⟩
 have hv2 := (nv_bd s2).1
 have hp : 0 < nv s2 := by unfold ival sgn at h0; split at h0 <;> omega
 have HCM : Hid (∀ w, Calls Tryz.prog 49 #[.agg #[.bool n1, .string s1], .agg #[.bool n2, .string s2]] w fun e w' => e = .returned (.agg #[.bool false, .string (pv (G : Int)).2]) ∧ Below w.heap.size w w') :=
  Lib.hid fun w => (common_r n1 s1 n2 s2 (by omega) (by omega) w).mono fun e w' h => ⟨by rw [h.1, hG, putV_pv, pv_nn (by omega)]; rfl, h.2⟩
 have hG0 : 0 < G := by rw [← hG]; exact Nat.gcd_pos_of_pos_right _ (by omega)
 have hgv : nv (pv (G : Int)).2 = (G : Int) := nv_pn (by omega)
 have hgs : (pv (G : Int)).2.size ≤ 1000 := size_pv (by
  rw [Int.natAbs_natCast, ← hG]
  have hs := size_pow h2
  have := Nat.gcd_le_right (nv s1).toNat (show 0 < (nv s2).toNat by omega)
  omega)
 cases n2 with
 | false =>
  have hf := low_fin k1 k2 hp hG
  have e : ival false s2 = nv s2 := rfl
  rw [e]
  by_cases g1 : G = 1
  ·exact low_a n1 n1 s1 s2 _ G _ HCM rfl (beq_iff_eq.2 (one_iff.2 g1)) (hf.1 g1) w
  ·exact low_b n1 n1 s1 s2 _ G _ HCM rfl (beq_eq_false_iff_ne.2 fun hc => g1 (one_iff.1 hc)) h1 h2 hgs hgv hG0 hf.2 w
 | true =>
  have kf : okI false s2 := ⟨k2.1, k2.2.1, fun hc => by cases hc⟩
  have hf := low_fin (okI_neg k1) kf hp hG
  rw [ival_ng k1] at hf
  have e : Rat.divInt (ival n1 s1) (ival true s2) = Rat.divInt (- ival n1 s1) (nv s2) := by
   have : ival true s2 = - nv s2 := rfl
   rw [this, Rat.divInt_neg']
  rw [e]
  have HN1 := Lib.hid (negate_r n1 s1)
  have HN2 := negate_r true s2
  have e2 : (!true && decide (0 < s2.size)) = false := rfl
  rw [e2] at HN2
  by_cases g1 : G = 1
  ·exact low_c n1 _ s1 s2 _ G _ HCM HN1 (Lib.hid HN2) (beq_iff_eq.2 (one_iff.2 g1)) (hf.1 g1) w
  ·exact low_d n1 _ s1 s2 _ G _ HCM HN1 (Lib.hid HN2) (beq_eq_false_iff_ne.2 fun hc => g1 (one_iff.1 hc)) h1 h2 hgs hgv hG0 hf.2 w
end Go.Proofs.YtoijlbcbbblbfaaGreatDoor
