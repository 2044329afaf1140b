import Derived.Test.YtoijlbcbbblbfaaGreatDoorZzG0x0
import Derived.Test.YtoijlbcbbblbfaaGreatDoorZzG0x1
import Derived.Test.YtoijlbcbbblbfaaGreatDoorZzG8x0
import Derived.Test.YtoijlbcbbblbfaaGreatDoorZzG7x0
-- printed by hp.py, sq3
namespace Go.Proofs.YtoijlbcbbblbfaaGreatDoorH.R
open Go.RowKit Go.Proofs.YtoijlbcbbblbfaaGreatDoorH.Z Go.Proofs.YtoijlbcbbblbfaaGreatDoorW.PrintWords Go.Proofs.YtoijlbcbbblbfaaGreatDoorW.PrintLast Go.Proofs.YtoijlbcbbblbfaaGreatDoorW.PrintMore
attribute [local go_sem] max2_int min2_int max_two min_two max_three min_three max_four min_four   -- for this text's walks alone
set_option linter.unusedVariables false
set_option linter.unusedSimpArgs false

/-! ### gussetref03_Sum: function 38 -/
def gussetref03_Sum.j0 : Nat → Bool → Bool → ByteArray → ByteArray → Bool → ByteArray → ByteArray → Option (Bool × ByteArray × ByteArray)
 | 0, _, _, _, _, _, _, _ => none
 | k + 1, x13, x302000, x302001, x302002, x303000, x303001, x303002 => if x13 = true then ((gussetref02_Sum.f x302000 x302001 x303000 x303001).bind fun bt304 => (some (bt304.1, bt304.2, (⟨#[1]⟩ : ByteArray)))) else ((gussetref03_den.f x303000 x303001 x303002).bind fun bt306 => ((gussetref02_Times.f x302000 x302001 bt306.1 bt306.2).bind fun bt308 => ((gussetref03_den.f x302000 x302001 x302002).bind fun bt310 => ((gussetref02_Times.f x303000 x303001 bt310.1 bt310.2).bind fun bt312 => ((gussetref02_Sum.f bt308.1 bt308.2 bt312.1 bt312.2).bind fun bt314 => ((gussetref03_den.f x302000 x302001 x302002).bind fun bt317 => ((gussetref03_den.f x303000 x303001 x303002).bind fun bt319 => ((gussetref02_Times.f bt317.1 bt317.2 bt319.1 bt319.2).bind fun bt321 => ((gussetref03_Lowest.f bt314.1 bt314.2 bt321.1 bt321.2).bind fun bt323 => (some (bt323.1, bt323.2.1, bt323.2.2)))))))))))
def gussetref03_Sum.f (k : Nat) (a0_0 : Bool) (a0_1 : ByteArray) (a0_2 : ByteArray) (a1_0 : Bool) (a1_1 : ByteArray) (a1_2 : ByteArray) : Option (Bool × ByteArray × ByteArray) := if a0_2.toList = ([1] : List UInt8) then (gussetref03_Sum.j0 k (a1_2.toList == ([1] : List UInt8)) a0_0 a0_1 a0_2 a1_0 a1_1 a1_2) else (gussetref03_Sum.j0 k false a0_0 a0_1 a0_2 a1_0 a1_1 a1_2)
def gussetref03_Sum.T3 : Bool × List (List Nat × List Nat) := (true, [([], []), ([0], [0]), ([], []), ([2], [2]), ([1, 3, 3], [1, 3]), ([], []), ([5], [5]), ([], []), ([7, 4], [7]), ([6, 8, 8], [6, 8]), ([4, 9, 9], [4, 9]), ([], []), ([11, 10, 10, 0, 1, 2, 3, 4, 5, 6, 7, 8, 9, 10, 11], [10, 11])])
def gussetref03_Sum.B3 : List Nat := [0, 1, 0, 4, 15, 0, 32, 0, 159, 511, 1023, 0, 4095]
theorem gussetref03_Sum.tab3 : rtab .any (opsOf Tryz.f38 3) = gussetref03_Sum.T3 := by kernel_rfl
theorem gussetref03_Sum.bits3 : waitsOk gussetref03_Sum.T3.2 gussetref03_Sum.B3 = true := by kernel_rfl
def gussetref03_Sum.T4 : Bool × List (List Nat × List Nat) := (true, [([], []), ([], []), ([1], [1]), ([], []), ([3, 2], [3]), ([2, 4, 4], [2, 4]), ([0, 5, 5], [0, 5]), ([6, 6, 0, 1, 2, 3, 4, 5, 6], [6])])
def gussetref03_Sum.B4 : List Nat := [0, 0, 2, 0, 14, 30, 63, 127]
theorem gussetref03_Sum.tab4 : rtab .any (opsOf Tryz.f38 4) = gussetref03_Sum.T4 := by kernel_rfl
theorem gussetref03_Sum.bits4 : waitsOk gussetref03_Sum.T4.2 gussetref03_Sum.B4 = true := by kernel_rfl
set_option maxHeartbeats 8000000 in
set_option maxRecDepth 100000 in
theorem gussetref03_Sum.calls (k : Nat) (a0_0 : Bool) (a0_1 : ByteArray) (a0_2 : ByteArray) (a1_0 : Bool) (a1_1 : ByteArray) (a1_2 : ByteArray) (r1 : Bool) (r2 : ByteArray) (r3 : ByteArray) (w : World) (h : gussetref03_Sum.f k a0_0 a0_1 a0_2 a1_0 a1_1 a1_2 = some (r1, r2, r3)) :
  Calls Tryz.prog 38 #[.agg #[.bool a0_0, .string a0_1, .string a0_2], .agg #[.bool a1_0, .string a1_1, .string a1_2]] w fun e w' => e = .returned (.agg #[.bool r1, .string r2, .string r3]) ∧ Below w.heap.size w w' := by
 have hu27 := Tryz.underlying27
 have hu24 := Tryz.underlying24; have hf0 := zf240; have hf1 := zf241; have hf2 := zf270; have hf3 := zf271
 have HB := Aside0.mk (Below.refl w.heap.size w)
 unfold gussetref03_Sum.f at h; have H := h; clear h
 have HC3 := Aside0.mk H
 clear H
 go_enter Tryz.func38, Tryz.ntmps38
 go_upto_region 1 with (first | ((with_reducible refine gate_dst (N := 2) rfl ?_); refine zY 2 #[.bool a0_0, .string a0_1, .string a0_2] 27 ?_; intro gb301 hg w4 hbox hb; have BK301 := Aside0.mk (hbox); have GW301 := zG hg HB; have GE301 := zG hg HB; replace HB := zS HB hb; clear hb hbox hg) | ((with_reducible refine gate_dst (N := 3) rfl ?_); refine zY 3 #[.bool a1_0, .string a1_1, .string a1_2] 27 ?_; intro gb302 hg w5 hbox hb; have BK302 := Aside0.mk (hbox); have GW302 := zG hg HB; have GE302 := zG hg HB; obtain ⟨NB301_302, NB302_301⟩ := zQ hg BK301; replace BK301 := zB BK301 hb; replace HB := zS HB hb; clear hb hbox hg) | ((with_reducible refine gate_dst (N := 4) rfl ?_); refine zY 4 #[.bool false, .string (⟨#[]⟩ : ByteArray), .string (⟨#[]⟩ : ByteArray)] 27 ?_; intro gb303 hg w6 hbox hb; have BK303 := Aside0.mk (hbox); have GW303 := zG hg HB; have GE303 := zG hg HB; obtain ⟨NB301_303, NB303_301⟩ := zQ hg BK301; obtain ⟨NB302_303, NB303_302⟩ := zQ hg BK302; obtain ⟨BK301, BK302⟩ := zB2 BK301 BK302 hb; replace HB := zS HB hb; clear hb hbox hg))
 (try simp only [Act.put, List.setIfInBounds_toArray, List.set_cons_zero, List.set_cons_succ])
 go_cut [13] (fun v13 wc => ∃ (kq : Nat) (x13_2 : Bool), v13 = .bool x13_2 ∧ Aside0 (gussetref03_Sum.j0 kq x13_2 a0_0 a0_1 a0_2 a1_0 a1_1 a1_2 = some (r1, r2, r3)) ∧ Aside0 (kq ≤ k) ∧ Aside0 (wc.heap[gb301]? = some (.cells #[.bool a0_0, .string a0_1, .string a0_2] 27 (0, 0))) ∧ Aside0 (wc.heap[gb302]? = some (.cells #[.bool a1_0, .string a1_1, .string a1_2] 27 (0, 0))) ∧ Aside0 (wc.heap[gb303]? = some (.cells #[.bool false, .string (⟨#[]⟩ : ByteArray), .string (⟨#[]⟩ : ByteArray)] 27 (0, 0))) ∧ Aside0 (Below w.heap.size w wc))
 case first =>
  have H := HC3.out
  clear HC3
  by_cases c7 : a0_2.toList = ([1] : List UInt8)
  ·rw [if_pos c7] at H
   have c7b0 := beq_iff_eq.mpr c7
   have c7b1 := bne_eq_false_iff_eq.mpr c7
   clear c7
   (first | rw [c7b0] | (simp only [i64_w, i32_w]; rw [c7b0]) | skip)
   have H' := Aside0.mk H
   clear H; have hnb8 := NB301_302.out; have hnc8 := NB302_301.out; have hnb9 := NB301_303.out; have hnc9 := NB303_301.out; obtain ⟨hcz10_0, hcz10_1, hcz10_2, hfz10_0, hfz10_1, hfz10_2⟩ := z3 BK301; have hnb11 := NB302_303.out; have hnc11 := NB303_302.out; obtain ⟨hcz12_0, hcz12_1, hcz12_2, hfz12_0, hfz12_1, hfz12_2⟩ := z3 BK302
   go_wp2
   go_meet
   case rel => exact ⟨_, ((a1_2.toList == ([1] : List UInt8))), zR, H', zL, zK BK301, zK BK302, zK BK303, ⟨zT HB⟩⟩
  ·rw [if_neg c7] at H
   have c7b0 := beq_eq_false_iff_ne.mpr c7
   have c7b1 := bne_iff_ne.mpr c7
   (first | rw [c7b0] | (simp only [i64_w, i32_w]; rw [c7b0]) | skip)
   have H' := Aside0.mk H
   clear H; have hnb13 := NB301_302.out; have hnc13 := NB302_301.out; have hnb14 := NB301_303.out; have hnc14 := NB303_301.out; obtain ⟨hcz15_0, hcz15_1, hcz15_2, hfz15_0, hfz15_1, hfz15_2⟩ := z3 BK301
   go_wp2
   go_meet
   case rel => exact ⟨_, (false), zR, H', zL, zK BK301, zK BK302, zK BK303, ⟨zT HB⟩⟩
 case rest =>
  clear HC3
  try clear c1; try clear p2; try clear c3; try clear c7; try clear c7b0; try clear c7b1; try clear c8; try clear c9; try clear c11; try clear c13; try clear c14; try clear hcz10_0; try clear hcz10_1; try clear hcz10_2; try clear hcz12_0; try clear hcz12_1; try clear hcz12_2; try clear hcz15_0; try clear hcz15_1; try clear hcz15_2; try clear hfz10_0; try clear hfz10_1; try clear hfz10_2; try clear hfz12_0; try clear hfz12_1; try clear hfz12_2; try clear hfz15_0; try clear hfz15_1; try clear hfz15_2
  obtain ⟨kq, x13_2, rfl, HA, HJ2, BK301, BK302, BK303, HB⟩ := hcut
  cases kq with
  | zero => exact absurd HA.out (by simp [gussetref03_Sum.j0])
  | succ kj2 =>
   have H := HA.out
   clear HA
   simp only [gussetref03_Sum.j0] at H
   by_cases c16 : x13_2 = true
   ·subst c16
    rw [if_pos rfl] at H
    obtain ⟨⟨t304, t305⟩, A17, H⟩ := zo H; try dsimp only at H
    simp only [Option.some.injEq, Prod.mk.injEq] at H
    obtain ⟨rfl, rfl, rfl⟩ := H
    have hnb18 := NB301_302.out; have hnc18 := NB302_301.out; have hnb19 := NB301_303.out; have hnc19 := NB303_301.out; obtain ⟨hcz20_0, hcz20_1, hcz20_2, hfz20_0, hfz20_1, hfz20_2⟩ := z3 BK301; have hnb21 := NB302_303.out; have hnc21 := NB303_302.out; obtain ⟨hcz22_0, hcz22_1, hcz22_2, hfz22_0, hfz22_1, hfz22_2⟩ := z3 BK302
    go_wp2_with (first | ((with_reducible refine gate_callee (f := 65) rfl ?_); refine zO Tryz.func65 (by kernel_rfl) (gussetref02_Sum.calls a0_0 a0_1 a1_0 a1_1 t304 t305 _ A17.out) fun w23 hb => ?_; obtain ⟨BK301, BK302, BK303⟩ := zB3 BK301 BK302 BK303 hb; replace HB := zS HB hb; (try clear hb); obtain ⟨hcz24_0, hcz24_1, hcz24_2, hfz24_0, hfz24_1, hfz24_2⟩ := z3 BK303))
    refine bodyPost_ret (results_cell_row rfl _ _ gb303 27 #[.bool t304, .string t305, .string (⟨#[1]⟩ : ByteArray)] (0, 0) _ rfl (by (with_reducible repeat (first | refine blk_drewN ?_ _ | refine blk_drew ?_ | refine blk_alloc ?_ _)); refine zP (cs := #[.bool t304, .string t305, .string (⟨#[]⟩ : ByteArray)]) ?_ 2 _; (with_reducible repeat (first | refine blk_drewN ?_ _ | refine blk_drew ?_ | refine blk_alloc ?_ _)); refine zP (cs := #[.bool t304, .string (⟨#[]⟩ : ByteArray), .string (⟨#[]⟩ : ByteArray)]) ?_ 1 _; (with_reducible repeat (first | refine blk_drewN ?_ _ | refine blk_drew ?_ | refine blk_alloc ?_ _)); refine zP (cs := #[.bool false, .string (⟨#[]⟩ : ByteArray), .string (⟨#[]⟩ : ByteArray)]) ?_ 0 _; (with_reducible repeat (first | refine blk_drewN ?_ _ | refine blk_drew ?_ | refine blk_alloc ?_ _)); exact BK303.out) Tryz.underlying27 rfl (by kernel_rfl)) rfl ?_
    exact ⟨zH, zT HB⟩
   ·replace c16 := Bool.eq_false_iff.mpr c16
    subst c16
    rw [if_neg zn] at H
    obtain ⟨⟨t306, t307⟩, A25, H⟩ := zo H; try dsimp only at H
    obtain ⟨⟨t308, t309⟩, A26, H⟩ := zo H; try dsimp only at H
    obtain ⟨⟨t310, t311⟩, A27, H⟩ := zo H; try dsimp only at H
    obtain ⟨⟨t312, t313⟩, A28, H⟩ := zo H; try dsimp only at H
    obtain ⟨⟨t314, t315⟩, A29, H⟩ := zo H; try dsimp only at H
    obtain ⟨⟨t317, t318⟩, A30, H⟩ := zo H; try dsimp only at H
    obtain ⟨⟨t319, t320⟩, A31, H⟩ := zo H; try dsimp only at H
    obtain ⟨⟨t321, t322⟩, A32, H⟩ := zo H; try dsimp only at H
    obtain ⟨⟨t323, t324, t325⟩, A33, H⟩ := zo H; try dsimp only at H
    simp only [Option.some.injEq, Prod.mk.injEq] at H
    obtain ⟨rfl, rfl, rfl⟩ := H
    try go_wp2
    replace BK301 := zD BK301; replace BK302 := zD BK302; replace BK303 := zD BK303; replace HB := zF HB
    refine start_ (n := 13) (S := fun w' => w'.cell? ⟨gb301, 0, none⟩ = some (.bool a0_0) ∧ w'.cell? ⟨gb301, 1, none⟩ = some (.string a0_1) ∧ w'.cell? ⟨gb301, 2, none⟩ = some (.string a0_2) ∧ w'.cell? ⟨gb302, 0, none⟩ = some (.bool a1_0) ∧ w'.cell? ⟨gb302, 1, none⟩ = some (.string a1_1) ∧ w'.cell? ⟨gb302, 2, none⟩ = some (.string a1_2)) (ds := []) (zb 13 0) (by kernel_rfl) rfl rfl ⟨zc BK301 0, zc BK301 1, zc BK301 2, zc BK302 0, zc BK302 1, zc BK302 2⟩ (fun hHeld => ?_); refine with_tabW gussetref03_Sum.tab3 gussetref03_Sum.bits3 (fun HT_ HW_ => ?_)
    generalize wc.drew = w34 at BK301 BK302 BK303 HB hHeld ⊢
    refine zU (i := 0) (N := some 20) (zb 13 1) (any_of HT_.out (by kernel_rfl)) ?_
    refine zU (i := 5) (N := some 25) (zb 13 33) (any_of HT_.out (by kernel_rfl)) ?_
    refine zV (i := 1) (N := some 21) (zb 13 35) (take_ofW HT_.out HW_.out (by kernel_rfl)) hHeld ?_
    refine zV (i := 2) (N := some 22) (zb 13 39) (take_ofW HT_.out HW_.out (by kernel_rfl)) hHeld ?_
    refine zV (i := 6) (N := some 26) (zb 13 103) (take_ofW HT_.out HW_.out (by kernel_rfl)) hHeld ?_
    refine zV (i := 7) (N := some 27) (zb 13 231) (take_ofW HT_.out HW_.out (by kernel_rfl)) hHeld ?_
    refine join_ (σ := Nat) 1 (zb 13 4095) (fun s_ => [(23, .agg #[.bool t306, .string t307]), (24, .agg #[.bool t308, .string t309]), (28, .agg #[.bool t310, .string t311]), (29, .agg #[.bool t312, .string t313]), (30, .agg #[.bool t314, .string t315]), (5, .pointer (some ⟨s_, 0, none⟩))]) (fun s_ w' => (w'.cell? ⟨gb301, 0, none⟩ = some (.bool a0_0) ∧ w'.cell? ⟨gb301, 1, none⟩ = some (.string a0_1) ∧ w'.cell? ⟨gb301, 2, none⟩ = some (.string a0_2) ∧ w'.cell? ⟨gb302, 0, none⟩ = some (.bool a1_0) ∧ w'.cell? ⟨gb302, 1, none⟩ = some (.string a1_1) ∧ w'.cell? ⟨gb302, 2, none⟩ = some (.string a1_2)) ∧ (w'.heap[gb301]? = some (.cells #[.bool a0_0, .string a0_1, .string a0_2] 27 (0, 0))) ∧ (w'.heap[gb302]? = some (.cells #[.bool a1_0, .string a1_1, .string a1_2] 27 (0, 0))) ∧ (w'.heap[gb303]? = some (.cells #[.bool false, .string (⟨#[]⟩ : ByteArray), .string (⟨#[]⟩ : ByteArray)] 27 (0, 0))) ∧ (w'.heap[s_]? = some (.cells #[.bool false, .string (⟨#[]⟩ : ByteArray)] 24 (0, 0))) ∧ (w.heap.size ≤ s_) ∧ (w.heap.size ≤ s_) ∧ (gb301 ≠ s_) ∧ (s_ ≠ gb301) ∧ (gb302 ≠ s_) ∧ (s_ ≠ gb302) ∧ (gb303 ≠ s_) ∧ (s_ ≠ gb303) ∧ (Below w.heap.size w w')) ?_ ?_
    rotate_left
    ·intro hJ3_4_8_9_10_11
     refine join_ (σ := Unit) 2 (zb 13 2047) (fun s_ => [(23, .agg #[.bool t306, .string t307]), (24, .agg #[.bool t308, .string t309]), (28, .agg #[.bool t310, .string t311]), (29, .agg #[.bool t312, .string t313]), (30, .agg #[.bool t314, .string t315])]) (fun s_ w' => (w'.cell? ⟨gb301, 0, none⟩ = some (.bool a0_0) ∧ w'.cell? ⟨gb301, 1, none⟩ = some (.string a0_1) ∧ w'.cell? ⟨gb301, 2, none⟩ = some (.string a0_2) ∧ w'.cell? ⟨gb302, 0, none⟩ = some (.bool a1_0) ∧ w'.cell? ⟨gb302, 1, none⟩ = some (.string a1_1) ∧ w'.cell? ⟨gb302, 2, none⟩ = some (.string a1_2)) ∧ (w'.heap[gb301]? = some (.cells #[.bool a0_0, .string a0_1, .string a0_2] 27 (0, 0))) ∧ (w'.heap[gb302]? = some (.cells #[.bool a1_0, .string a1_1, .string a1_2] 27 (0, 0))) ∧ (w'.heap[gb303]? = some (.cells #[.bool false, .string (⟨#[]⟩ : ByteArray), .string (⟨#[]⟩ : ByteArray)] 27 (0, 0))) ∧ (Below w.heap.size w w')) ?_ ?_
     rotate_left
     ·intro hJ3_4_8_9_10
      refine join_ (σ := Nat) 2 (zb 13 3071) (fun s_ => [(23, .agg #[.bool t306, .string t307]), (24, .agg #[.bool t308, .string t309]), (28, .agg #[.bool t310, .string t311]), (29, .agg #[.bool t312, .string t313]), (5, .pointer (some ⟨s_, 0, none⟩))]) (fun s_ w' => (w'.cell? ⟨gb301, 0, none⟩ = some (.bool a0_0) ∧ w'.cell? ⟨gb301, 1, none⟩ = some (.string a0_1) ∧ w'.cell? ⟨gb301, 2, none⟩ = some (.string a0_2) ∧ w'.cell? ⟨gb302, 0, none⟩ = some (.bool a1_0) ∧ w'.cell? ⟨gb302, 1, none⟩ = some (.string a1_1) ∧ w'.cell? ⟨gb302, 2, none⟩ = some (.string a1_2)) ∧ (w'.heap[gb301]? = some (.cells #[.bool a0_0, .string a0_1, .string a0_2] 27 (0, 0))) ∧ (w'.heap[gb302]? = some (.cells #[.bool a1_0, .string a1_1, .string a1_2] 27 (0, 0))) ∧ (w'.heap[gb303]? = some (.cells #[.bool false, .string (⟨#[]⟩ : ByteArray), .string (⟨#[]⟩ : ByteArray)] 27 (0, 0))) ∧ (w'.heap[s_]? = some (.cells #[.bool false, .string (⟨#[]⟩ : ByteArray)] 24 (0, 0))) ∧ (w.heap.size ≤ s_) ∧ (w.heap.size ≤ s_) ∧ (gb301 ≠ s_) ∧ (s_ ≠ gb301) ∧ (gb302 ≠ s_) ∧ (s_ ≠ gb302) ∧ (gb303 ≠ s_) ∧ (s_ ≠ gb303) ∧ (Below w.heap.size w w')) ?_ ?_
      rotate_left
      ·intro hJ3_4_8_9_11
       refine join_ (σ := Unit) 3 (zb 13 1023) (fun s_ => [(23, .agg #[.bool t306, .string t307]), (24, .agg #[.bool t308, .string t309]), (28, .agg #[.bool t310, .string t311]), (29, .agg #[.bool t312, .string t313])]) (fun s_ w' => (w'.cell? ⟨gb301, 0, none⟩ = some (.bool a0_0) ∧ w'.cell? ⟨gb301, 1, none⟩ = some (.string a0_1) ∧ w'.cell? ⟨gb301, 2, none⟩ = some (.string a0_2) ∧ w'.cell? ⟨gb302, 0, none⟩ = some (.bool a1_0) ∧ w'.cell? ⟨gb302, 1, none⟩ = some (.string a1_1) ∧ w'.cell? ⟨gb302, 2, none⟩ = some (.string a1_2)) ∧ (w'.heap[gb301]? = some (.cells #[.bool a0_0, .string a0_1, .string a0_2] 27 (0, 0))) ∧ (w'.heap[gb302]? = some (.cells #[.bool a1_0, .string a1_1, .string a1_2] 27 (0, 0))) ∧ (w'.heap[gb303]? = some (.cells #[.bool false, .string (⟨#[]⟩ : ByteArray), .string (⟨#[]⟩ : ByteArray)] 27 (0, 0))) ∧ (Below w.heap.size w w')) ?_ ?_
       rotate_left
       ·intro hJ3_4_8_9
        refine join_ (σ := Nat) 3 (zb 13 2559) (fun s_ => [(23, .agg #[.bool t306, .string t307]), (24, .agg #[.bool t308, .string t309]), (28, .agg #[.bool t310, .string t311]), (5, .pointer (some ⟨s_, 0, none⟩))]) (fun s_ w' => (w'.cell? ⟨gb301, 0, none⟩ = some (.bool a0_0) ∧ w'.cell? ⟨gb301, 1, none⟩ = some (.string a0_1) ∧ w'.cell? ⟨gb301, 2, none⟩ = some (.string a0_2) ∧ w'.cell? ⟨gb302, 0, none⟩ = some (.bool a1_0) ∧ w'.cell? ⟨gb302, 1, none⟩ = some (.string a1_1) ∧ w'.cell? ⟨gb302, 2, none⟩ = some (.string a1_2)) ∧ (w'.heap[gb301]? = some (.cells #[.bool a0_0, .string a0_1, .string a0_2] 27 (0, 0))) ∧ (w'.heap[gb302]? = some (.cells #[.bool a1_0, .string a1_1, .string a1_2] 27 (0, 0))) ∧ (w'.heap[gb303]? = some (.cells #[.bool false, .string (⟨#[]⟩ : ByteArray), .string (⟨#[]⟩ : ByteArray)] 27 (0, 0))) ∧ (w'.heap[s_]? = some (.cells #[.bool false, .string (⟨#[]⟩ : ByteArray)] 24 (0, 0))) ∧ (w.heap.size ≤ s_) ∧ (w.heap.size ≤ s_) ∧ (gb301 ≠ s_) ∧ (s_ ≠ gb301) ∧ (gb302 ≠ s_) ∧ (s_ ≠ gb302) ∧ (gb303 ≠ s_) ∧ (s_ ≠ gb303) ∧ (Below w.heap.size w w')) ?_ ?_
        rotate_left
        ·intro hJ3_4_8_11
         refine join_ (σ := Unit) 4 (zb 13 511) (fun s_ => [(23, .agg #[.bool t306, .string t307]), (24, .agg #[.bool t308, .string t309]), (28, .agg #[.bool t310, .string t311])]) (fun s_ w' => (w'.cell? ⟨gb301, 0, none⟩ = some (.bool a0_0) ∧ w'.cell? ⟨gb301, 1, none⟩ = some (.string a0_1) ∧ w'.cell? ⟨gb301, 2, none⟩ = some (.string a0_2) ∧ w'.cell? ⟨gb302, 0, none⟩ = some (.bool a1_0) ∧ w'.cell? ⟨gb302, 1, none⟩ = some (.string a1_1) ∧ w'.cell? ⟨gb302, 2, none⟩ = some (.string a1_2)) ∧ (w'.heap[gb301]? = some (.cells #[.bool a0_0, .string a0_1, .string a0_2] 27 (0, 0))) ∧ (w'.heap[gb302]? = some (.cells #[.bool a1_0, .string a1_1, .string a1_2] 27 (0, 0))) ∧ (w'.heap[gb303]? = some (.cells #[.bool false, .string (⟨#[]⟩ : ByteArray), .string (⟨#[]⟩ : ByteArray)] 27 (0, 0))) ∧ (Below w.heap.size w w')) ?_ ?_
         rotate_left
         ·intro hJ3_4_8
          refine join_ (σ := Nat) 4 (zb 13 2303) (fun s_ => [(23, .agg #[.bool t306, .string t307]), (24, .agg #[.bool t308, .string t309]), (5, .pointer (some ⟨s_, 0, none⟩))]) (fun s_ w' => (w'.cell? ⟨gb301, 0, none⟩ = some (.bool a0_0) ∧ w'.cell? ⟨gb301, 1, none⟩ = some (.string a0_1) ∧ w'.cell? ⟨gb301, 2, none⟩ = some (.string a0_2) ∧ w'.cell? ⟨gb302, 0, none⟩ = some (.bool a1_0) ∧ w'.cell? ⟨gb302, 1, none⟩ = some (.string a1_1) ∧ w'.cell? ⟨gb302, 2, none⟩ = some (.string a1_2)) ∧ (w'.heap[gb301]? = some (.cells #[.bool a0_0, .string a0_1, .string a0_2] 27 (0, 0))) ∧ (w'.heap[gb302]? = some (.cells #[.bool a1_0, .string a1_1, .string a1_2] 27 (0, 0))) ∧ (w'.heap[gb303]? = some (.cells #[.bool false, .string (⟨#[]⟩ : ByteArray), .string (⟨#[]⟩ : ByteArray)] 27 (0, 0))) ∧ (w'.heap[s_]? = some (.cells #[.bool false, .string (⟨#[]⟩ : ByteArray)] 24 (0, 0))) ∧ (w.heap.size ≤ s_) ∧ (w.heap.size ≤ s_) ∧ (gb301 ≠ s_) ∧ (s_ ≠ gb301) ∧ (gb302 ≠ s_) ∧ (s_ ≠ gb302) ∧ (gb303 ≠ s_) ∧ (s_ ≠ gb303) ∧ (Below w.heap.size w w')) ?_ ?_
          rotate_left
          ·intro hJ3_4_11
           refine join_ (σ := Unit) 5 (zb 13 255) (fun s_ => [(23, .agg #[.bool t306, .string t307]), (24, .agg #[.bool t308, .string t309])]) (fun s_ w' => (w'.cell? ⟨gb301, 0, none⟩ = some (.bool a0_0) ∧ w'.cell? ⟨gb301, 1, none⟩ = some (.string a0_1) ∧ w'.cell? ⟨gb301, 2, none⟩ = some (.string a0_2) ∧ w'.cell? ⟨gb302, 0, none⟩ = some (.bool a1_0) ∧ w'.cell? ⟨gb302, 1, none⟩ = some (.string a1_1) ∧ w'.cell? ⟨gb302, 2, none⟩ = some (.string a1_2)) ∧ (w'.heap[gb301]? = some (.cells #[.bool a0_0, .string a0_1, .string a0_2] 27 (0, 0))) ∧ (w'.heap[gb302]? = some (.cells #[.bool a1_0, .string a1_1, .string a1_2] 27 (0, 0))) ∧ (w'.heap[gb303]? = some (.cells #[.bool false, .string (⟨#[]⟩ : ByteArray), .string (⟨#[]⟩ : ByteArray)] 27 (0, 0))) ∧ (Below w.heap.size w w')) ?_ ?_
           rotate_left
           ·intro hJ3_4
            refine join_ (σ := Nat) 5 (zb 13 2287) (fun s_ => [(23, .agg #[.bool t306, .string t307]), (5, .pointer (some ⟨s_, 0, none⟩))]) (fun s_ w' => (w'.cell? ⟨gb301, 0, none⟩ = some (.bool a0_0) ∧ w'.cell? ⟨gb301, 1, none⟩ = some (.string a0_1) ∧ w'.cell? ⟨gb301, 2, none⟩ = some (.string a0_2) ∧ w'.cell? ⟨gb302, 0, none⟩ = some (.bool a1_0) ∧ w'.cell? ⟨gb302, 1, none⟩ = some (.string a1_1) ∧ w'.cell? ⟨gb302, 2, none⟩ = some (.string a1_2)) ∧ (w'.heap[gb301]? = some (.cells #[.bool a0_0, .string a0_1, .string a0_2] 27 (0, 0))) ∧ (w'.heap[gb302]? = some (.cells #[.bool a1_0, .string a1_1, .string a1_2] 27 (0, 0))) ∧ (w'.heap[gb303]? = some (.cells #[.bool false, .string (⟨#[]⟩ : ByteArray), .string (⟨#[]⟩ : ByteArray)] 27 (0, 0))) ∧ (w'.heap[s_]? = some (.cells #[.bool false, .string (⟨#[]⟩ : ByteArray)] 24 (0, 0))) ∧ (w.heap.size ≤ s_) ∧ (w.heap.size ≤ s_) ∧ (gb301 ≠ s_) ∧ (s_ ≠ gb301) ∧ (gb302 ≠ s_) ∧ (s_ ≠ gb302) ∧ (gb303 ≠ s_) ∧ (s_ ≠ gb303) ∧ (Below w.heap.size w w')) ?_ ?_
            rotate_left
            ·intro hJ3_11
             refine join_ (σ := Unit) 6 (zb 13 239) (fun s_ => [(23, .agg #[.bool t306, .string t307])]) (fun s_ w' => (w'.cell? ⟨gb301, 0, none⟩ = some (.bool a0_0) ∧ w'.cell? ⟨gb301, 1, none⟩ = some (.string a0_1) ∧ w'.cell? ⟨gb301, 2, none⟩ = some (.string a0_2) ∧ w'.cell? ⟨gb302, 0, none⟩ = some (.bool a1_0) ∧ w'.cell? ⟨gb302, 1, none⟩ = some (.string a1_1) ∧ w'.cell? ⟨gb302, 2, none⟩ = some (.string a1_2)) ∧ (w'.heap[gb301]? = some (.cells #[.bool a0_0, .string a0_1, .string a0_2] 27 (0, 0))) ∧ (w'.heap[gb302]? = some (.cells #[.bool a1_0, .string a1_1, .string a1_2] 27 (0, 0))) ∧ (w'.heap[gb303]? = some (.cells #[.bool false, .string (⟨#[]⟩ : ByteArray), .string (⟨#[]⟩ : ByteArray)] 27 (0, 0))) ∧ (Below w.heap.size w w')) ?_ ?_
             rotate_left
             ·intro hJ3
              refine join_ (σ := Nat) 6 (zb 13 2279) (fun s_ => [(5, .pointer (some ⟨s_, 0, none⟩))]) (fun s_ w' => (w'.cell? ⟨gb301, 0, none⟩ = some (.bool a0_0) ∧ w'.cell? ⟨gb301, 1, none⟩ = some (.string a0_1) ∧ w'.cell? ⟨gb301, 2, none⟩ = some (.string a0_2) ∧ w'.cell? ⟨gb302, 0, none⟩ = some (.bool a1_0) ∧ w'.cell? ⟨gb302, 1, none⟩ = some (.string a1_1) ∧ w'.cell? ⟨gb302, 2, none⟩ = some (.string a1_2)) ∧ (w'.heap[gb301]? = some (.cells #[.bool a0_0, .string a0_1, .string a0_2] 27 (0, 0))) ∧ (w'.heap[gb302]? = some (.cells #[.bool a1_0, .string a1_1, .string a1_2] 27 (0, 0))) ∧ (w'.heap[gb303]? = some (.cells #[.bool false, .string (⟨#[]⟩ : ByteArray), .string (⟨#[]⟩ : ByteArray)] 27 (0, 0))) ∧ (w'.heap[s_]? = some (.cells #[.bool false, .string (⟨#[]⟩ : ByteArray)] 24 (0, 0))) ∧ (w.heap.size ≤ s_) ∧ (w.heap.size ≤ s_) ∧ (gb301 ≠ s_) ∧ (s_ ≠ gb301) ∧ (gb302 ≠ s_) ∧ (s_ ≠ gb302) ∧ (gb303 ≠ s_) ∧ (s_ ≠ gb303) ∧ (Below w.heap.size w w')) ?_ ?_
              rotate_left
              ·intro hJ11
               refine two_ (i := 3) (j := 11) (Ni := some 23) (Nj := some 5) (zb 13 239) (zb 13 2279) rfl rfl rfl rfl (two_of HT_.out (by kernel_rfl)) (by decide) (by decide) (fun K hK => ?_) (fun K hK => ?_)
               ·skip
                refine zJ Tryz.func56 (by kernel_rfl) (gussetref03_den.calls a1_0 a1_1 a1_2 t306 t307 _ A25.out) fun w35 hb => ?_
                obtain ⟨BK301, BK302, BK303⟩ := zB3 BK301 BK302 BK303 hb; replace HB := zS HB hb
                (try clear hb)
                refine hK.out _ _ ⟨zc BK301 0, zc BK301 1, zc BK301 2, zc BK302 0, zc BK302 1, zc BK302 2⟩ (fun hHeld => ?_)
                clear hK K
                refine zW (some 23) ?_
                exact zA (hJ3 () _ ⟨hHeld, (zK BK301).out, (zK BK302).out, (zK BK303).out, (zT HB)⟩)
               ·skip
                refine box_step ?hg (N := 5) ?hd (cs := #[.bool false, .string (⟨#[]⟩ : ByteArray)]) (t := 24) ?hr ?_; (case hd => rfl); (case hg => rfl); (case hr => first | (go_simp; done) | (go_simp; rfl))
                intro gb316 hg w35 hbox hb
                have BK316 := Aside0.mk (hbox); have GW316 := zG hg HB; have GE316 := zG hg HB; obtain ⟨NB301_316, NB316_301⟩ := zQ hg BK301; obtain ⟨NB302_316, NB316_302⟩ := zQ hg BK302; obtain ⟨NB303_316, NB316_303⟩ := zQ hg BK303; obtain ⟨BK301, BK302, BK303⟩ := zB3 BK301 BK302 BK303 hb; replace HB := zS HB hb; clear hb hbox hg
                refine hK.out _ _ ⟨zc BK301 0, zc BK301 1, zc BK301 2, zc BK302 0, zc BK302 1, zc BK302 2⟩ (fun hHeld => ?_)
                clear hK K
                refine zW (some 5) ?_
                exact zA (hJ11 (gb316) _ ⟨hHeld, (zK BK301).out, (zK BK302).out, (zK BK303).out, (zK BK316).out, GW316.out, GE316.out, NB301_316.out, NB316_301.out, NB302_316.out, NB316_302.out, NB303_316.out, NB316_303.out, (zT HB)⟩)
              ·skip
               rintro gb316 w36 ⟨hS_, h0_, h1_, h2_, h3_, h4_, h5_, h6_, h7_, h8_, h9_, h10_, h11_, h12_⟩
               replace BK301 := Aside0.mk h0_; replace BK302 := Aside0.mk h1_; replace BK303 := Aside0.mk h2_; have BK316 := Aside0.mk h3_; have GW316 := Aside0.mk h4_; have GE316 := Aside0.mk h5_; have NB301_316 := Aside0.mk h6_; have NB316_301 := Aside0.mk h7_; have NB302_316 := Aside0.mk h8_; have NB316_302 := Aside0.mk h9_; have NB303_316 := Aside0.mk h10_; have NB316_303 := Aside0.mk h11_; replace HB := Aside0.mk h12_; clear h0_ h1_ h2_ h3_ h4_ h5_ h6_ h7_ h8_ h9_ h10_ h11_ h12_
               have hHeld := hS_
               refine norm_ (a' := ?_) ?_ ?_
               rotate_left
               ·simp only [putAll, Act.put, List.setIfInBounds_toArray, List.set_cons_zero, List.set_cons_succ]
                rfl
               refine one_ (i := 3) (N := some 23) (zb 13 2287) rfl rfl (one_of HT_.out (by kernel_rfl)) (by decide) (fun K hK => ?_)
               refine zJ Tryz.func56 (by kernel_rfl) (gussetref03_den.calls a1_0 a1_1 a1_2 t306 t307 _ A25.out) fun w37 hb => ?_
               obtain ⟨BK301, BK302, BK303, BK316⟩ := zB4 BK301 BK302 BK303 BK316 hb; replace HB := zS HB hb
               (try clear hb)
               refine hK.out _ _ ⟨zc BK301 0, zc BK301 1, zc BK301 2, zc BK302 0, zc BK302 1, zc BK302 2⟩ (fun hHeld => ?_)
               clear hK K
               refine zW (some 23) ?_
               exact zA (hJ3_11 (gb316) _ ⟨hHeld, (zK BK301).out, (zK BK302).out, (zK BK303).out, (zK BK316).out, GW316.out, GE316.out, NB301_316.out, NB316_301.out, NB302_316.out, NB316_302.out, NB303_316.out, NB316_303.out, (zT HB)⟩)
             ·skip
              rintro _ w36 ⟨hS_, h0_, h1_, h2_, h3_⟩
              replace BK301 := Aside0.mk h0_; replace BK302 := Aside0.mk h1_; replace BK303 := Aside0.mk h2_; replace HB := Aside0.mk h3_; clear h0_ h1_ h2_ h3_
              have hHeld := hS_
              refine norm_ (a' := ?_) ?_ ?_
              rotate_left
              ·simp only [putAll, Act.put, List.setIfInBounds_toArray, List.set_cons_zero, List.set_cons_succ]
               rfl
              refine two_ (i := 4) (j := 11) (Ni := some 24) (Nj := some 5) (zb 13 255) (zb 13 2287) rfl rfl rfl rfl (two_of HT_.out (by kernel_rfl)) (by decide) (by decide) (fun K hK => ?_) (fun K hK => ?_)
              ·skip
               refine zJ Tryz.func24 (by kernel_rfl) (gussetref02_Times.calls a0_0 a0_1 t306 t307 t308 t309 _ A26.out) fun w37 hb => ?_
               obtain ⟨BK301, BK302, BK303⟩ := zB3 BK301 BK302 BK303 hb; replace HB := zS HB hb
               (try clear hb)
               refine hK.out _ _ ⟨zc BK301 0, zc BK301 1, zc BK301 2, zc BK302 0, zc BK302 1, zc BK302 2⟩ (fun hHeld => ?_)
               clear hK K
               refine zW (some 24) ?_
               exact zA (hJ3_4 () _ ⟨hHeld, (zK BK301).out, (zK BK302).out, (zK BK303).out, (zT HB)⟩)
              ·skip
               refine box_step ?hg (N := 5) ?hd (cs := #[.bool false, .string (⟨#[]⟩ : ByteArray)]) (t := 24) ?hr ?_; (case hd => rfl); (case hg => rfl); (case hr => first | (go_simp; done) | (go_simp; rfl))
               intro gb316 hg w37 hbox hb
               have BK316 := Aside0.mk (hbox); have GW316 := zG hg HB; have GE316 := zG hg HB; obtain ⟨NB301_316, NB316_301⟩ := zQ hg BK301; obtain ⟨NB302_316, NB316_302⟩ := zQ hg BK302; obtain ⟨NB303_316, NB316_303⟩ := zQ hg BK303; obtain ⟨BK301, BK302, BK303⟩ := zB3 BK301 BK302 BK303 hb; replace HB := zS HB hb; clear hb hbox hg
               refine hK.out _ _ ⟨zc BK301 0, zc BK301 1, zc BK301 2, zc BK302 0, zc BK302 1, zc BK302 2⟩ (fun hHeld => ?_)
               clear hK K
               refine zW (some 5) ?_
               exact zA (hJ3_11 (gb316) _ ⟨hHeld, (zK BK301).out, (zK BK302).out, (zK BK303).out, (zK BK316).out, GW316.out, GE316.out, NB301_316.out, NB316_301.out, NB302_316.out, NB316_302.out, NB303_316.out, NB316_303.out, (zT HB)⟩)
            ·skip
             rintro gb316 w37 ⟨hS_, h0_, h1_, h2_, h3_, h4_, h5_, h6_, h7_, h8_, h9_, h10_, h11_, h12_⟩
             replace BK301 := Aside0.mk h0_; replace BK302 := Aside0.mk h1_; replace BK303 := Aside0.mk h2_; have BK316 := Aside0.mk h3_; have GW316 := Aside0.mk h4_; have GE316 := Aside0.mk h5_; have NB301_316 := Aside0.mk h6_; have NB316_301 := Aside0.mk h7_; have NB302_316 := Aside0.mk h8_; have NB316_302 := Aside0.mk h9_; have NB303_316 := Aside0.mk h10_; have NB316_303 := Aside0.mk h11_; replace HB := Aside0.mk h12_; clear h0_ h1_ h2_ h3_ h4_ h5_ h6_ h7_ h8_ h9_ h10_ h11_ h12_
             have hHeld := hS_
             refine norm_ (a' := ?_) ?_ ?_
             rotate_left
             ·simp only [putAll, Act.put, List.setIfInBounds_toArray, List.set_cons_zero, List.set_cons_succ]
              rfl
             refine one_ (i := 4) (N := some 24) (zb 13 2303) rfl rfl (one_of HT_.out (by kernel_rfl)) (by decide) (fun K hK => ?_)
             refine zJ Tryz.func24 (by kernel_rfl) (gussetref02_Times.calls a0_0 a0_1 t306 t307 t308 t309 _ A26.out) fun w38 hb => ?_
             obtain ⟨BK301, BK302, BK303, BK316⟩ := zB4 BK301 BK302 BK303 BK316 hb; replace HB := zS HB hb
             (try clear hb)
             refine hK.out _ _ ⟨zc BK301 0, zc BK301 1, zc BK301 2, zc BK302 0, zc BK302 1, zc BK302 2⟩ (fun hHeld => ?_)
             clear hK K
             refine zW (some 24) ?_
             exact zA (hJ3_4_11 (gb316) _ ⟨hHeld, (zK BK301).out, (zK BK302).out, (zK BK303).out, (zK BK316).out, GW316.out, GE316.out, NB301_316.out, NB316_301.out, NB302_316.out, NB316_302.out, NB303_316.out, NB316_303.out, (zT HB)⟩)
           ·skip
            rintro _ w37 ⟨hS_, h0_, h1_, h2_, h3_⟩
            replace BK301 := Aside0.mk h0_; replace BK302 := Aside0.mk h1_; replace BK303 := Aside0.mk h2_; replace HB := Aside0.mk h3_; clear h0_ h1_ h2_ h3_
            have hHeld := hS_
            refine norm_ (a' := ?_) ?_ ?_
            rotate_left
            ·simp only [putAll, Act.put, List.setIfInBounds_toArray, List.set_cons_zero, List.set_cons_succ]
             rfl
            refine two_ (i := 8) (j := 11) (Ni := some 28) (Nj := some 5) (zb 13 511) (zb 13 2303) rfl rfl rfl rfl (two_of HT_.out (by kernel_rfl)) (by decide) (by decide) (fun K hK => ?_) (fun K hK => ?_)
            ·skip
             refine zJ Tryz.func56 (by kernel_rfl) (gussetref03_den.calls a0_0 a0_1 a0_2 t310 t311 _ A27.out) fun w38 hb => ?_
             obtain ⟨BK301, BK302, BK303⟩ := zB3 BK301 BK302 BK303 hb; replace HB := zS HB hb
             (try clear hb)
             refine hK.out _ _ ⟨zc BK301 0, zc BK301 1, zc BK301 2, zc BK302 0, zc BK302 1, zc BK302 2⟩ (fun hHeld => ?_)
             clear hK K
             refine zW (some 28) ?_
             exact zA (hJ3_4_8 () _ ⟨hHeld, (zK BK301).out, (zK BK302).out, (zK BK303).out, (zT HB)⟩)
            ·skip
             refine box_step ?hg (N := 5) ?hd (cs := #[.bool false, .string (⟨#[]⟩ : ByteArray)]) (t := 24) ?hr ?_; (case hd => rfl); (case hg => rfl); (case hr => first | (go_simp; done) | (go_simp; rfl))
             intro gb316 hg w38 hbox hb
             have BK316 := Aside0.mk (hbox); have GW316 := zG hg HB; have GE316 := zG hg HB; obtain ⟨NB301_316, NB316_301⟩ := zQ hg BK301; obtain ⟨NB302_316, NB316_302⟩ := zQ hg BK302; obtain ⟨NB303_316, NB316_303⟩ := zQ hg BK303; obtain ⟨BK301, BK302, BK303⟩ := zB3 BK301 BK302 BK303 hb; replace HB := zS HB hb; clear hb hbox hg
             refine hK.out _ _ ⟨zc BK301 0, zc BK301 1, zc BK301 2, zc BK302 0, zc BK302 1, zc BK302 2⟩ (fun hHeld => ?_)
             clear hK K
             refine zW (some 5) ?_
             exact zA (hJ3_4_11 (gb316) _ ⟨hHeld, (zK BK301).out, (zK BK302).out, (zK BK303).out, (zK BK316).out, GW316.out, GE316.out, NB301_316.out, NB316_301.out, NB302_316.out, NB316_302.out, NB303_316.out, NB316_303.out, (zT HB)⟩)
          ·skip
           rintro gb316 w38 ⟨hS_, h0_, h1_, h2_, h3_, h4_, h5_, h6_, h7_, h8_, h9_, h10_, h11_, h12_⟩
           replace BK301 := Aside0.mk h0_; replace BK302 := Aside0.mk h1_; replace BK303 := Aside0.mk h2_; have BK316 := Aside0.mk h3_; have GW316 := Aside0.mk h4_; have GE316 := Aside0.mk h5_; have NB301_316 := Aside0.mk h6_; have NB316_301 := Aside0.mk h7_; have NB302_316 := Aside0.mk h8_; have NB316_302 := Aside0.mk h9_; have NB303_316 := Aside0.mk h10_; have NB316_303 := Aside0.mk h11_; replace HB := Aside0.mk h12_; clear h0_ h1_ h2_ h3_ h4_ h5_ h6_ h7_ h8_ h9_ h10_ h11_ h12_
           have hHeld := hS_
           refine norm_ (a' := ?_) ?_ ?_
           rotate_left
           ·simp only [putAll, Act.put, List.setIfInBounds_toArray, List.set_cons_zero, List.set_cons_succ]
            rfl
           refine one_ (i := 8) (N := some 28) (zb 13 2559) rfl rfl (one_of HT_.out (by kernel_rfl)) (by decide) (fun K hK => ?_)
           refine zJ Tryz.func56 (by kernel_rfl) (gussetref03_den.calls a0_0 a0_1 a0_2 t310 t311 _ A27.out) fun w39 hb => ?_
           obtain ⟨BK301, BK302, BK303, BK316⟩ := zB4 BK301 BK302 BK303 BK316 hb; replace HB := zS HB hb
           (try clear hb)
           refine hK.out _ _ ⟨zc BK301 0, zc BK301 1, zc BK301 2, zc BK302 0, zc BK302 1, zc BK302 2⟩ (fun hHeld => ?_)
           clear hK K
           refine zW (some 28) ?_
           exact zA (hJ3_4_8_11 (gb316) _ ⟨hHeld, (zK BK301).out, (zK BK302).out, (zK BK303).out, (zK BK316).out, GW316.out, GE316.out, NB301_316.out, NB316_301.out, NB302_316.out, NB316_302.out, NB303_316.out, NB316_303.out, (zT HB)⟩)
         ·skip
          rintro _ w38 ⟨hS_, h0_, h1_, h2_, h3_⟩
          replace BK301 := Aside0.mk h0_; replace BK302 := Aside0.mk h1_; replace BK303 := Aside0.mk h2_; replace HB := Aside0.mk h3_; clear h0_ h1_ h2_ h3_
          have hHeld := hS_
          refine norm_ (a' := ?_) ?_ ?_
          rotate_left
          ·simp only [putAll, Act.put, List.setIfInBounds_toArray, List.set_cons_zero, List.set_cons_succ]
           rfl
          refine two_ (i := 9) (j := 11) (Ni := some 29) (Nj := some 5) (zb 13 1023) (zb 13 2559) rfl rfl rfl rfl (two_of HT_.out (by kernel_rfl)) (by decide) (by decide) (fun K hK => ?_) (fun K hK => ?_)
          ·skip
           refine zJ Tryz.func24 (by kernel_rfl) (gussetref02_Times.calls a1_0 a1_1 t310 t311 t312 t313 _ A28.out) fun w39 hb => ?_
           obtain ⟨BK301, BK302, BK303⟩ := zB3 BK301 BK302 BK303 hb; replace HB := zS HB hb
           (try clear hb)
           refine hK.out _ _ ⟨zc BK301 0, zc BK301 1, zc BK301 2, zc BK302 0, zc BK302 1, zc BK302 2⟩ (fun hHeld => ?_)
           clear hK K
           refine zW (some 29) ?_
           exact zA (hJ3_4_8_9 () _ ⟨hHeld, (zK BK301).out, (zK BK302).out, (zK BK303).out, (zT HB)⟩)
          ·skip
           refine box_step ?hg (N := 5) ?hd (cs := #[.bool false, .string (⟨#[]⟩ : ByteArray)]) (t := 24) ?hr ?_; (case hd => rfl); (case hg => rfl); (case hr => first | (go_simp; done) | (go_simp; rfl))
           intro gb316 hg w39 hbox hb
           have BK316 := Aside0.mk (hbox); have GW316 := zG hg HB; have GE316 := zG hg HB; obtain ⟨NB301_316, NB316_301⟩ := zQ hg BK301; obtain ⟨NB302_316, NB316_302⟩ := zQ hg BK302; obtain ⟨NB303_316, NB316_303⟩ := zQ hg BK303; obtain ⟨BK301, BK302, BK303⟩ := zB3 BK301 BK302 BK303 hb; replace HB := zS HB hb; clear hb hbox hg
           refine hK.out _ _ ⟨zc BK301 0, zc BK301 1, zc BK301 2, zc BK302 0, zc BK302 1, zc BK302 2⟩ (fun hHeld => ?_)
           clear hK K
           refine zW (some 5) ?_
           exact zA (hJ3_4_8_11 (gb316) _ ⟨hHeld, (zK BK301).out, (zK BK302).out, (zK BK303).out, (zK BK316).out, GW316.out, GE316.out, NB301_316.out, NB316_301.out, NB302_316.out, NB316_302.out, NB303_316.out, NB316_303.out, (zT HB)⟩)
        ·skip
         rintro gb316 w39 ⟨hS_, h0_, h1_, h2_, h3_, h4_, h5_, h6_, h7_, h8_, h9_, h10_, h11_, h12_⟩
         replace BK301 := Aside0.mk h0_; replace BK302 := Aside0.mk h1_; replace BK303 := Aside0.mk h2_; have BK316 := Aside0.mk h3_; have GW316 := Aside0.mk h4_; have GE316 := Aside0.mk h5_; have NB301_316 := Aside0.mk h6_; have NB316_301 := Aside0.mk h7_; have NB302_316 := Aside0.mk h8_; have NB316_302 := Aside0.mk h9_; have NB303_316 := Aside0.mk h10_; have NB316_303 := Aside0.mk h11_; replace HB := Aside0.mk h12_; clear h0_ h1_ h2_ h3_ h4_ h5_ h6_ h7_ h8_ h9_ h10_ h11_ h12_
         have hHeld := hS_
         refine norm_ (a' := ?_) ?_ ?_
         rotate_left
         ·simp only [putAll, Act.put, List.setIfInBounds_toArray, List.set_cons_zero, List.set_cons_succ]
          rfl
         refine one_ (i := 9) (N := some 29) (zb 13 3071) rfl rfl (one_of HT_.out (by kernel_rfl)) (by decide) (fun K hK => ?_)
         refine zJ Tryz.func24 (by kernel_rfl) (gussetref02_Times.calls a1_0 a1_1 t310 t311 t312 t313 _ A28.out) fun w40 hb => ?_
         obtain ⟨BK301, BK302, BK303, BK316⟩ := zB4 BK301 BK302 BK303 BK316 hb; replace HB := zS HB hb
         (try clear hb)
         refine hK.out _ _ ⟨zc BK301 0, zc BK301 1, zc BK301 2, zc BK302 0, zc BK302 1, zc BK302 2⟩ (fun hHeld => ?_)
         clear hK K
         refine zW (some 29) ?_
         exact zA (hJ3_4_8_9_11 (gb316) _ ⟨hHeld, (zK BK301).out, (zK BK302).out, (zK BK303).out, (zK BK316).out, GW316.out, GE316.out, NB301_316.out, NB316_301.out, NB302_316.out, NB316_302.out, NB303_316.out, NB316_303.out, (zT HB)⟩)
       ·skip
        rintro _ w39 ⟨hS_, h0_, h1_, h2_, h3_⟩
        replace BK301 := Aside0.mk h0_; replace BK302 := Aside0.mk h1_; replace BK303 := Aside0.mk h2_; replace HB := Aside0.mk h3_; clear h0_ h1_ h2_ h3_
        have hHeld := hS_
        refine norm_ (a' := ?_) ?_ ?_
        rotate_left
        ·simp only [putAll, Act.put, List.setIfInBounds_toArray, List.set_cons_zero, List.set_cons_succ]
         rfl
        refine two_ (i := 10) (j := 11) (Ni := some 30) (Nj := some 5) (zb 13 2047) (zb 13 3071) rfl rfl rfl rfl (two_of HT_.out (by kernel_rfl)) (by decide) (by decide) (fun K hK => ?_) (fun K hK => ?_)
        ·skip
         refine zJ Tryz.func65 (by kernel_rfl) (gussetref02_Sum.calls t308 t309 t312 t313 t314 t315 _ A29.out) fun w40 hb => ?_
         obtain ⟨BK301, BK302, BK303⟩ := zB3 BK301 BK302 BK303 hb; replace HB := zS HB hb
         (try clear hb)
         refine hK.out _ _ ⟨zc BK301 0, zc BK301 1, zc BK301 2, zc BK302 0, zc BK302 1, zc BK302 2⟩ (fun hHeld => ?_)
         clear hK K
         refine zW (some 30) ?_
         exact zA (hJ3_4_8_9_10 () _ ⟨hHeld, (zK BK301).out, (zK BK302).out, (zK BK303).out, (zT HB)⟩)
        ·skip
         refine box_step ?hg (N := 5) ?hd (cs := #[.bool false, .string (⟨#[]⟩ : ByteArray)]) (t := 24) ?hr ?_; (case hd => rfl); (case hg => rfl); (case hr => first | (go_simp; done) | (go_simp; rfl))
         intro gb316 hg w40 hbox hb
         have BK316 := Aside0.mk (hbox); have GW316 := zG hg HB; have GE316 := zG hg HB; obtain ⟨NB301_316, NB316_301⟩ := zQ hg BK301; obtain ⟨NB302_316, NB316_302⟩ := zQ hg BK302; obtain ⟨NB303_316, NB316_303⟩ := zQ hg BK303; obtain ⟨BK301, BK302, BK303⟩ := zB3 BK301 BK302 BK303 hb; replace HB := zS HB hb; clear hb hbox hg
         refine hK.out _ _ ⟨zc BK301 0, zc BK301 1, zc BK301 2, zc BK302 0, zc BK302 1, zc BK302 2⟩ (fun hHeld => ?_)
         clear hK K
         refine zW (some 5) ?_
         exact zA (hJ3_4_8_9_11 (gb316) _ ⟨hHeld, (zK BK301).out, (zK BK302).out, (zK BK303).out, (zK BK316).out, GW316.out, GE316.out, NB301_316.out, NB316_301.out, NB302_316.out, NB316_302.out, NB303_316.out, NB316_303.out, (zT HB)⟩)
      ·skip
       rintro gb316 w40 ⟨hS_, h0_, h1_, h2_, h3_, h4_, h5_, h6_, h7_, h8_, h9_, h10_, h11_, h12_⟩
       replace BK301 := Aside0.mk h0_; replace BK302 := Aside0.mk h1_; replace BK303 := Aside0.mk h2_; have BK316 := Aside0.mk h3_; have GW316 := Aside0.mk h4_; have GE316 := Aside0.mk h5_; have NB301_316 := Aside0.mk h6_; have NB316_301 := Aside0.mk h7_; have NB302_316 := Aside0.mk h8_; have NB316_302 := Aside0.mk h9_; have NB303_316 := Aside0.mk h10_; have NB316_303 := Aside0.mk h11_; replace HB := Aside0.mk h12_; clear h0_ h1_ h2_ h3_ h4_ h5_ h6_ h7_ h8_ h9_ h10_ h11_ h12_
       have hHeld := hS_
       refine norm_ (a' := ?_) ?_ ?_
       rotate_left
       ·simp only [putAll, Act.put, List.setIfInBounds_toArray, List.set_cons_zero, List.set_cons_succ]
        rfl
       refine one_ (i := 10) (N := some 30) (zb 13 4095) rfl rfl (one_of HT_.out (by kernel_rfl)) (by decide) (fun K hK => ?_)
       refine zJ Tryz.func65 (by kernel_rfl) (gussetref02_Sum.calls t308 t309 t312 t313 t314 t315 _ A29.out) fun w41 hb => ?_
       obtain ⟨BK301, BK302, BK303, BK316⟩ := zB4 BK301 BK302 BK303 BK316 hb; replace HB := zS HB hb
       (try clear hb)
       refine hK.out _ _ ⟨zc BK301 0, zc BK301 1, zc BK301 2, zc BK302 0, zc BK302 1, zc BK302 2⟩ (fun hHeld => ?_)
       clear hK K
       refine zW (some 30) ?_
       exact zA (hJ3_4_8_9_10_11 (gb316) _ ⟨hHeld, (zK BK301).out, (zK BK302).out, (zK BK303).out, (zK BK316).out, GW316.out, GE316.out, NB301_316.out, NB316_301.out, NB302_316.out, NB316_302.out, NB303_316.out, NB316_303.out, (zT HB)⟩)
     ·skip
      rintro _ w40 ⟨hS_, h0_, h1_, h2_, h3_⟩
      replace BK301 := Aside0.mk h0_; replace BK302 := Aside0.mk h1_; replace BK303 := Aside0.mk h2_; replace HB := Aside0.mk h3_; clear h0_ h1_ h2_ h3_
      have hHeld := hS_
      refine norm_ (a' := ?_) ?_ ?_
      rotate_left
      ·simp only [putAll, Act.put, List.setIfInBounds_toArray, List.set_cons_zero, List.set_cons_succ]
       rfl
      refine one_ (i := 11) (N := some 5) (zb 13 4095) rfl rfl (one_of HT_.out (by kernel_rfl)) (by decide) (fun K hK => ?_)
      refine box_step ?hg (N := 5) ?hd (cs := #[.bool false, .string (⟨#[]⟩ : ByteArray)]) (t := 24) ?hr ?_; (case hd => rfl); (case hg => rfl); (case hr => first | (go_simp; done) | (go_simp; rfl))
      intro gb316 hg w41 hbox hb
      have BK316 := Aside0.mk (hbox); have GW316 := zG hg HB; have GE316 := zG hg HB; obtain ⟨NB301_316, NB316_301⟩ := zQ hg BK301; obtain ⟨NB302_316, NB316_302⟩ := zQ hg BK302; obtain ⟨NB303_316, NB316_303⟩ := zQ hg BK303; obtain ⟨BK301, BK302, BK303⟩ := zB3 BK301 BK302 BK303 hb; replace HB := zS HB hb; clear hb hbox hg
      refine hK.out _ _ ⟨zc BK301 0, zc BK301 1, zc BK301 2, zc BK302 0, zc BK302 1, zc BK302 2⟩ (fun hHeld => ?_)
      clear hK K
      refine zW (some 5) ?_
      exact zA (hJ3_4_8_9_10_11 (gb316) _ ⟨hHeld, (zK BK301).out, (zK BK302).out, (zK BK303).out, (zK BK316).out, GW316.out, GE316.out, NB301_316.out, NB316_301.out, NB302_316.out, NB316_302.out, NB303_316.out, NB316_303.out, (zT HB)⟩)
    rintro gb316 w41 ⟨hS_, h0_, h1_, h2_, h3_, h4_, h5_, h6_, h7_, h8_, h9_, h10_, h11_, h12_⟩
    replace BK301 := Aside0.mk h0_; replace BK302 := Aside0.mk h1_; replace BK303 := Aside0.mk h2_; have BK316 := Aside0.mk h3_; have GW316 := Aside0.mk h4_; have GE316 := Aside0.mk h5_; have NB301_316 := Aside0.mk h6_; have NB316_301 := Aside0.mk h7_; have NB302_316 := Aside0.mk h8_; have NB316_302 := Aside0.mk h9_; have NB303_316 := Aside0.mk h10_; have NB316_303 := Aside0.mk h11_; replace HB := Aside0.mk h12_; clear h0_ h1_ h2_ h3_ h4_ h5_ h6_ h7_ h8_ h9_ h10_ h11_ h12_
    have hHeld := hS_
    refine norm_ (a' := ?_) ?_ ?_
    rotate_left
    ·simp only [putAll, Act.put, List.setIfInBounds_toArray, List.set_cons_zero, List.set_cons_succ]
     rfl
    refine one_ (i := 12) (N := none) (zb 13 8191) rfl rfl (one_of HT_.out (by kernel_rfl)) (by decide) (fun K hK => ?_)
    have hs42 : w41.cell? ⟨gb316, 0, none⟩ = some (.bool false) := zc BK316 0
    have hfs42 := blk_frozen BK316.out 0
    have hns42_0 := NB301_316.out
    have hns42_1 := NB302_316.out
    have hns42_2 := NB303_316.out
    have hms42_0 := NB316_301.out
    have hms42_1 := NB316_302.out
    have hms42_2 := NB316_303.out
    have hs43 : w41.cell? ⟨gb316, 1, none⟩ = some (.string (⟨#[]⟩ : ByteArray)) := zc BK316 1
    have hfs43 := blk_frozen BK316.out 1
    have hns43_0 := NB301_316.out
    have hns43_1 := NB302_316.out
    have hns43_2 := NB303_316.out
    have hms43_0 := NB316_301.out
    have hms43_1 := NB316_302.out
    have hms43_2 := NB316_303.out
    refine skip_ (w1 := ?_) (by rfl) rfl ?_ ?_
    rotate_left
    ·go_simp
     rfl
    refine hK.out _ _ ⟨((cell_far (p := ⟨gb316, _, none⟩) NB301_316.out _).trans (((cell_far (p := ⟨gb316, _, none⟩) NB301_316.out _).trans (hHeld.1)))), ((cell_far (p := ⟨gb316, _, none⟩) NB301_316.out _).trans (((cell_far (p := ⟨gb316, _, none⟩) NB301_316.out _).trans (hHeld.2.1)))), ((cell_far (p := ⟨gb316, _, none⟩) NB301_316.out _).trans (((cell_far (p := ⟨gb316, _, none⟩) NB301_316.out _).trans (hHeld.2.2.1)))), ((cell_far (p := ⟨gb316, _, none⟩) NB302_316.out _).trans (((cell_far (p := ⟨gb316, _, none⟩) NB302_316.out _).trans (hHeld.2.2.2.1)))), ((cell_far (p := ⟨gb316, _, none⟩) NB302_316.out _).trans (((cell_far (p := ⟨gb316, _, none⟩) NB302_316.out _).trans (hHeld.2.2.2.2.1)))), ((cell_far (p := ⟨gb316, _, none⟩) NB302_316.out _).trans (((cell_far (p := ⟨gb316, _, none⟩) NB302_316.out _).trans (hHeld.2.2.2.2.2))))⟩ (fun hHeld => ?_)
    clear hK K
    refine done_ (done_of HT_.out (by kernel_rfl)) ?_
    try go_wp2
    have n0_ : Aside0 (((w41.setCell ⟨gb316, 0, none⟩ (.bool t314)).setCell ⟨gb316, 1, none⟩ (.string t315)).heap[gb301]? = some (.cells #[.bool a0_0, .string a0_1, .string a0_2] 27 (0, 0))) := zK BK301; have n1_ : Aside0 (((w41.setCell ⟨gb316, 0, none⟩ (.bool t314)).setCell ⟨gb316, 1, none⟩ (.string t315)).heap[gb302]? = some (.cells #[.bool a1_0, .string a1_1, .string a1_2] 27 (0, 0))) := zK BK302; have n2_ : Aside0 (((w41.setCell ⟨gb316, 0, none⟩ (.bool t314)).setCell ⟨gb316, 1, none⟩ (.string t315)).heap[gb303]? = some (.cells #[.bool false, .string (⟨#[]⟩ : ByteArray), .string (⟨#[]⟩ : ByteArray)] 27 (0, 0))) := zK BK303; have n3_ : Aside0 (((w41.setCell ⟨gb316, 0, none⟩ (.bool t314)).setCell ⟨gb316, 1, none⟩ (.string t315)).heap[gb316]? = some (.cells #[.bool t314, .string t315] 24 (0, 0))) := ⟨by (with_reducible repeat (first | refine blk_drewN ?_ _ | refine blk_drew ?_ | refine blk_alloc ?_ _)); refine zP (cs := #[.bool t314, .string (⟨#[]⟩ : ByteArray)]) ?_ 1 _; (with_reducible repeat (first | refine blk_drewN ?_ _ | refine blk_drew ?_ | refine blk_alloc ?_ _)); refine zP (cs := #[.bool false, .string (⟨#[]⟩ : ByteArray)]) ?_ 0 _; (with_reducible repeat (first | refine blk_drewN ?_ _ | refine blk_drew ?_ | refine blk_alloc ?_ _)); exact BK316.out⟩; have n4_ : Aside0 (Below w.heap.size w ((w41.setCell ⟨gb316, 0, none⟩ (.bool t314)).setCell ⟨gb316, 1, none⟩ (.string t315))) := ⟨zT HB⟩
    (try clear BK301)
    (try clear BK302)
    (try clear BK303)
    (try clear BK316)
    (try clear HB)
    generalize ((w41.setCell ⟨gb316, 0, none⟩ (.bool t314)).setCell ⟨gb316, 1, none⟩ (.string t315)) = w44 at n0_ n1_ n2_ n3_ n4_ ⊢
    have BK301 := n0_; have BK302 := n1_
    have BK303 := n2_; have BK316 := n3_
    have HB := n4_; clear n0_ n1_ n2_ n3_ n4_
    replace BK301 := zD BK301; replace BK302 := zD BK302; replace BK303 := zD BK303; replace BK316 := zD BK316; replace HB := zF HB
    refine start_ (n := 8) (S := fun w' => w'.cell? ⟨gb316, 0, none⟩ = some (.bool t314) ∧ w'.cell? ⟨gb316, 1, none⟩ = some (.string t315) ∧ w'.cell? ⟨gb301, 0, none⟩ = some (.bool a0_0) ∧ w'.cell? ⟨gb301, 1, none⟩ = some (.string a0_1) ∧ w'.cell? ⟨gb301, 2, none⟩ = some (.string a0_2) ∧ w'.cell? ⟨gb302, 0, none⟩ = some (.bool a1_0) ∧ w'.cell? ⟨gb302, 1, none⟩ = some (.string a1_1) ∧ w'.cell? ⟨gb302, 2, none⟩ = some (.string a1_2)) (ds := []) (zb 8 0) (by kernel_rfl) rfl rfl ⟨zc BK316 0, zc BK316 1, zc BK301 0, zc BK301 1, zc BK301 2, zc BK302 0, zc BK302 1, zc BK302 2⟩ (fun hHeld => ?_); refine with_tabW gussetref03_Sum.tab4 gussetref03_Sum.bits4 (fun HT_ HW_ => ?_)
    generalize w44.drew = w45 at BK301 BK302 BK303 BK316 HB hHeld ⊢
    refine zV (i := 0) (N := some 31) (zb 8 1) (take_ofW HT_.out HW_.out (by kernel_rfl)) hHeld ?_
    refine zV (i := 1) (N := some 32) (zb 8 3) (take_ofW HT_.out HW_.out (by kernel_rfl)) hHeld ?_
    refine zV (i := 3) (N := some 34) (zb 8 11) (take_ofW HT_.out HW_.out (by kernel_rfl)) hHeld ?_
    refine one_ (i := 2) (N := some 33) (zb 8 15) rfl rfl (one_of HT_.out (by kernel_rfl)) (by decide) (fun K hK => ?_)
    refine zJ Tryz.func56 (by kernel_rfl) (gussetref03_den.calls a0_0 a0_1 a0_2 t317 t318 _ A30.out) fun w46 hb => ?_
    obtain ⟨BK301, BK302, BK303, BK316⟩ := zB4 BK301 BK302 BK303 BK316 hb; replace HB := zS HB hb
    (try clear hb)
    refine hK.out _ _ ⟨zc BK316 0, zc BK316 1, zc BK301 0, zc BK301 1, zc BK301 2, zc BK302 0, zc BK302 1, zc BK302 2⟩ (fun hHeld => ?_)
    clear hK K
    refine zW (some 33) ?_
    refine one_ (i := 4) (N := some 35) (zb 8 31) rfl rfl (one_of HT_.out (by kernel_rfl)) (by decide) (fun K hK => ?_)
    refine zJ Tryz.func56 (by kernel_rfl) (gussetref03_den.calls a1_0 a1_1 a1_2 t319 t320 _ A31.out) fun w47 hb => ?_
    obtain ⟨BK301, BK302, BK303, BK316⟩ := zB4 BK301 BK302 BK303 BK316 hb; replace HB := zS HB hb
    (try clear hb)
    refine hK.out _ _ ⟨zc BK316 0, zc BK316 1, zc BK301 0, zc BK301 1, zc BK301 2, zc BK302 0, zc BK302 1, zc BK302 2⟩ (fun hHeld => ?_)
    clear hK K
    refine zW (some 35) ?_
    refine one_ (i := 5) (N := some 36) (zb 8 63) rfl rfl (one_of HT_.out (by kernel_rfl)) (by decide) (fun K hK => ?_)
    refine zJ Tryz.func24 (by kernel_rfl) (gussetref02_Times.calls t317 t318 t319 t320 t321 t322 _ A32.out) fun w48 hb => ?_
    obtain ⟨BK301, BK302, BK303, BK316⟩ := zB4 BK301 BK302 BK303 BK316 hb; replace HB := zS HB hb
    (try clear hb)
    refine hK.out _ _ ⟨zc BK316 0, zc BK316 1, zc BK301 0, zc BK301 1, zc BK301 2, zc BK302 0, zc BK302 1, zc BK302 2⟩ (fun hHeld => ?_)
    clear hK K
    refine zW (some 36) ?_
    refine one_ (i := 6) (N := some 37) (zb 8 127) rfl rfl (one_of HT_.out (by kernel_rfl)) (by decide) (fun K hK => ?_)
    refine zJ Tryz.func16 (by kernel_rfl) (gussetref03_Lowest.calls t314 t315 t321 t322 t323 t324 t325 _ A33.out) fun w49 hb => ?_
    obtain ⟨BK301, BK302, BK303, BK316⟩ := zB4 BK301 BK302 BK303 BK316 hb; replace HB := zS HB hb
    (try clear hb)
    refine hK.out _ _ ⟨zc BK316 0, zc BK316 1, zc BK301 0, zc BK301 1, zc BK301 2, zc BK302 0, zc BK302 1, zc BK302 2⟩ (fun hHeld => ?_)
    clear hK K
    refine zW (some 37) ?_
    refine one_ (i := 7) (N := none) (zb 8 255) rfl rfl (one_of HT_.out (by kernel_rfl)) (by decide) (fun K hK => ?_)
    have hs50 : w49.cell? ⟨gb303, 0, none⟩ = some (.bool false) := zc BK303 0
    have hfs50 := blk_frozen BK303.out 0
    have hns50_0 := NB301_303.out
    have hns50_1 := NB302_303.out
    have hns50_3 := NB316_303.out
    have hms50_0 := NB303_301.out
    have hms50_1 := NB303_302.out
    have hms50_3 := NB303_316.out
    have hs51 : w49.cell? ⟨gb303, 1, none⟩ = some (.string (⟨#[]⟩ : ByteArray)) := zc BK303 1
    have hfs51 := blk_frozen BK303.out 1
    have hns51_0 := NB301_303.out
    have hns51_1 := NB302_303.out
    have hns51_3 := NB316_303.out
    have hms51_0 := NB303_301.out
    have hms51_1 := NB303_302.out
    have hms51_3 := NB303_316.out
    have hs52 : w49.cell? ⟨gb303, 2, none⟩ = some (.string (⟨#[]⟩ : ByteArray)) := zc BK303 2
    have hfs52 := blk_frozen BK303.out 2
    have hns52_0 := NB301_303.out
    have hns52_1 := NB302_303.out
    have hns52_3 := NB316_303.out
    have hms52_0 := NB303_301.out
    have hms52_1 := NB303_302.out
    have hms52_3 := NB303_316.out
    refine skip_ (w1 := ?_) (by rfl) rfl ?_ ?_
    rotate_left
    ·go_simp
     rfl
    refine hK.out _ _ ⟨((cell_far (p := ⟨gb303, _, none⟩) NB316_303.out _).trans (((cell_far (p := ⟨gb303, _, none⟩) NB316_303.out _).trans (((cell_far (p := ⟨gb303, _, none⟩) NB316_303.out _).trans (hHeld.1)))))), ((cell_far (p := ⟨gb303, _, none⟩) NB316_303.out _).trans (((cell_far (p := ⟨gb303, _, none⟩) NB316_303.out _).trans (((cell_far (p := ⟨gb303, _, none⟩) NB316_303.out _).trans (hHeld.2.1)))))), ((cell_far (p := ⟨gb303, _, none⟩) NB301_303.out _).trans (((cell_far (p := ⟨gb303, _, none⟩) NB301_303.out _).trans (((cell_far (p := ⟨gb303, _, none⟩) NB301_303.out _).trans (hHeld.2.2.1)))))), ((cell_far (p := ⟨gb303, _, none⟩) NB301_303.out _).trans (((cell_far (p := ⟨gb303, _, none⟩) NB301_303.out _).trans (((cell_far (p := ⟨gb303, _, none⟩) NB301_303.out _).trans (hHeld.2.2.2.1)))))), ((cell_far (p := ⟨gb303, _, none⟩) NB301_303.out _).trans (((cell_far (p := ⟨gb303, _, none⟩) NB301_303.out _).trans (((cell_far (p := ⟨gb303, _, none⟩) NB301_303.out _).trans (hHeld.2.2.2.2.1)))))), ((cell_far (p := ⟨gb303, _, none⟩) NB302_303.out _).trans (((cell_far (p := ⟨gb303, _, none⟩) NB302_303.out _).trans (((cell_far (p := ⟨gb303, _, none⟩) NB302_303.out _).trans (hHeld.2.2.2.2.2.1)))))), ((cell_far (p := ⟨gb303, _, none⟩) NB302_303.out _).trans (((cell_far (p := ⟨gb303, _, none⟩) NB302_303.out _).trans (((cell_far (p := ⟨gb303, _, none⟩) NB302_303.out _).trans (hHeld.2.2.2.2.2.2.1)))))), ((cell_far (p := ⟨gb303, _, none⟩) NB302_303.out _).trans (((cell_far (p := ⟨gb303, _, none⟩) NB302_303.out _).trans (((cell_far (p := ⟨gb303, _, none⟩) NB302_303.out _).trans (hHeld.2.2.2.2.2.2.2))))))⟩ (fun hHeld => ?_)
    clear hK K
    refine done_ (done_of HT_.out (by kernel_rfl)) ?_
    try go_wp2
    refine bodyPost_ret (results_cell_row rfl _ _ gb303 27 #[.bool t323, .string t324, .string t325] (0, 0) _ rfl (by (with_reducible repeat (first | refine blk_drewN ?_ _ | refine blk_drew ?_ | refine blk_alloc ?_ _)); refine zP (cs := #[.bool t323, .string t324, .string (⟨#[]⟩ : ByteArray)]) ?_ 2 _; (with_reducible repeat (first | refine blk_drewN ?_ _ | refine blk_drew ?_ | refine blk_alloc ?_ _)); refine zP (cs := #[.bool t323, .string (⟨#[]⟩ : ByteArray), .string (⟨#[]⟩ : ByteArray)]) ?_ 1 _; (with_reducible repeat (first | refine blk_drewN ?_ _ | refine blk_drew ?_ | refine blk_alloc ?_ _)); refine zP (cs := #[.bool false, .string (⟨#[]⟩ : ByteArray), .string (⟨#[]⟩ : ByteArray)]) ?_ 0 _; (with_reducible repeat (first | refine blk_drewN ?_ _ | refine blk_drew ?_ | refine blk_alloc ?_ _)); exact BK303.out) Tryz.underlying27 rfl (by kernel_rfl)) rfl ?_
    exact ⟨zH, zT HB⟩


/-! ### gussetref02_Negate: function 50 -/
open Go.Proofs.YtoijlbcbbblbfaaGreatDoor Go.Proofs.YtoijlbcbbblbfaaGreatDoor.Num in
def gussetref02_Negate.f (a0_0 : Bool) (a0_1 : ByteArray) : Option (Bool × ByteArray) := some ((!a0_0 && decide (0 < a0_1.size)), a0_1)
open Go.Proofs.YtoijlbcbbblbfaaGreatDoor Go.Proofs.YtoijlbcbbblbfaaGreatDoor.Num in
theorem gussetref02_Negate.calls (a0_0 : Bool) (a0_1 : ByteArray) (r1 : Bool) (r2 : ByteArray) (w : World) (h : gussetref02_Negate.f a0_0 a0_1 = some (r1, r2)) :
  Calls Tryz.prog 50 #[.agg #[.bool a0_0, .string a0_1]] w fun e w' => e = .returned (.agg #[.bool r1, .string r2]) ∧ Below w.heap.size w w' := by
 unfold gussetref02_Negate.f at h
 simp only [Option.some.injEq, Prod.mk.injEq] at h
 obtain ⟨rfl, rfl⟩ := h
 exact negate_r _ _ w



/-! ### gussetref03_Negate: function 71 -/
def gussetref03_Negate.f (a0_0 : Bool) (a0_1 : ByteArray) (a0_2 : ByteArray) : Option (Bool × ByteArray × ByteArray) := (gussetref02_Negate.f a0_0 a0_1).bind fun bt328 => (some (bt328.1, bt328.2, a0_2))
set_option maxHeartbeats 8000000 in
set_option maxRecDepth 100000 in
theorem gussetref03_Negate.calls (a0_0 : Bool) (a0_1 : ByteArray) (a0_2 : ByteArray) (r1 : Bool) (r2 : ByteArray) (r3 : ByteArray) (w : World) (h : gussetref03_Negate.f a0_0 a0_1 a0_2 = some (r1, r2, r3)) :
  Calls Tryz.prog 71 #[.agg #[.bool a0_0, .string a0_1, .string a0_2]] w fun e w' => e = .returned (.agg #[.bool r1, .string r2, .string r3]) ∧ Below w.heap.size w w' := by
 have hu27 := Tryz.underlying27
 have hu24 := Tryz.underlying24; have hf0 := zf240; have hf1 := zf241; have hf2 := zf270; have hf3 := zf271
 have HB := Aside0.mk (Below.refl w.heap.size w)
 unfold gussetref03_Negate.f at h; have H := h; clear h
 obtain ⟨⟨t328, t329⟩, A2, H⟩ := zo H; try dsimp only at H
 simp only [Option.some.injEq, Prod.mk.injEq] at H
 obtain ⟨rfl, rfl, rfl⟩ := H
 go_enter Tryz.func71, Tryz.ntmps71
 try go_wp2_with (first | ((with_reducible refine gate_dst (N := 1) rfl ?_); refine zY 1 #[.bool a0_0, .string a0_1, .string a0_2] 27 ?_; intro gb326 hg w3 hbox hb; have BK326 := Aside0.mk (hbox); have GW326 := zG hg HB; have GE326 := zG hg HB; replace HB := zS HB hb; clear hb hbox hg) | ((with_reducible refine gate_dst (N := 2) rfl ?_); refine zY 2 #[.bool false, .string (⟨#[]⟩ : ByteArray), .string (⟨#[]⟩ : ByteArray)] 27 ?_; intro gb327 hg w4 hbox hb; have BK327 := Aside0.mk (hbox); have GW327 := zG hg HB; have GE327 := zG hg HB; obtain ⟨NB326_327, NB327_326⟩ := zQ hg BK326; replace BK326 := zB BK326 hb; replace HB := zS HB hb; clear hb hbox hg))
 replace BK326 := zD BK326; replace BK327 := zD BK327; replace HB := zF HB
 refine start_ (n := 7) (S := fun w' => w'.cell? ⟨gb326, 0, none⟩ = some (.bool a0_0) ∧ w'.cell? ⟨gb326, 1, none⟩ = some (.string a0_1) ∧ w'.cell? ⟨gb326, 2, none⟩ = some (.string a0_2)) (ds := []) (zb 7 0) (by kernel_rfl) rfl rfl ⟨zc BK326 0, zc BK326 1, zc BK326 2⟩ (fun hHeld => ?_)
 generalize w4.drew = w5 at BK326 BK327 HB hHeld ⊢
 refine pure_ (i := 0) (N := some 3) (v := ?_) (a' := ?_) (zb 7 1) rfl rfl (by kernel_rfl) (fun _ _ _ h => h) (Or.inl ⟨by rfl, ?_⟩) ?_ ?_
 rotate_left
 ·intro w'
  go_simp
  with_reducible rfl
 rotate_left
 ·simp only [Act.put, List.setIfInBounds_toArray, List.set_cons_zero, List.set_cons_succ, i64_w, i32_w]
  rfl
 refine pure_ (i := 3) (N := some 6) (v := ?_) (a' := ?_) (zb 7 9) rfl rfl (by kernel_rfl) (fun _ _ _ h => h) (Or.inl ⟨by rfl, ?_⟩) ?_ ?_
 rotate_left
 ·intro w'
  go_simp
  with_reducible rfl
 rotate_left
 ·simp only [Act.put, List.setIfInBounds_toArray, List.set_cons_zero, List.set_cons_succ, i64_w, i32_w]
  rfl
 refine take_ (i := 1) (N := some 4) (v := ?_) (a' := ?_) (zb 7 11) rfl rfl (by kernel_rfl) (fun _ _ _ h => h) (Or.inl ⟨by rfl, ?_⟩) hHeld ?_ ?_
 rotate_left
 ·rintro w' ⟨s0, s1, s2⟩
  go_simp
  with_reducible rfl
 rotate_left
 ·simp only [Act.put, List.setIfInBounds_toArray, List.set_cons_zero, List.set_cons_succ, i64_w, i32_w]
  rfl
 refine take_ (i := 4) (N := some 7) (v := ?_) (a' := ?_) (zb 7 27) rfl rfl (by kernel_rfl) (fun _ _ _ h => h) (Or.inl ⟨by rfl, ?_⟩) hHeld ?_ ?_
 rotate_left
 ·rintro w' ⟨s0, s1, s2⟩
  go_simp
  with_reducible rfl
 rotate_left
 ·simp only [Act.put, List.setIfInBounds_toArray, List.set_cons_zero, List.set_cons_succ, i64_w, i32_w]
  rfl
 refine one_ (i := 2) (N := some 5) (zb 7 31) rfl rfl (by kernel_rfl) (by decide) (fun K hK => ?_)
 refine zJ Tryz.func50 (by kernel_rfl) (gussetref02_Negate.calls a0_0 a0_1 t328 t329 _ A2.out) fun w6 hb => ?_
 obtain ⟨BK326, BK327⟩ := zB2 BK326 BK327 hb; replace HB := zS HB hb
 (try clear hb)
 refine hK.out _ _ ⟨zc BK326 0, zc BK326 1, zc BK326 2⟩ (fun hHeld => ?_)
 clear hK K
 refine zW (some 5) ?_
 refine pure_ (i := 5) (N := some 8) (v := ?_) (a' := ?_) (zb 7 63) rfl rfl (by kernel_rfl) (fun _ _ _ h => h) (Or.inl ⟨by rfl, ?_⟩) ?_ ?_
 rotate_left
 ·intro w'
  go_simp
  with_reducible rfl
 rotate_left
 ·simp only [Act.put, List.setIfInBounds_toArray, List.set_cons_zero, List.set_cons_succ, i64_w, i32_w]
  rfl
 refine one_ (i := 6) (N := none) (zb 7 127) rfl rfl (by kernel_rfl) (by decide) (fun K hK => ?_)
 have hs7 : w6.cell? ⟨gb327, 0, none⟩ = some (.bool false) := zc BK327 0
 have hfs7 := blk_frozen BK327.out 0
 have hns7_0 := NB326_327.out
 have hms7_0 := NB327_326.out
 have hs8 : w6.cell? ⟨gb327, 1, none⟩ = some (.string (⟨#[]⟩ : ByteArray)) := zc BK327 1
 have hfs8 := blk_frozen BK327.out 1
 have hns8_0 := NB326_327.out
 have hms8_0 := NB327_326.out
 have hs9 : w6.cell? ⟨gb327, 2, none⟩ = some (.string (⟨#[]⟩ : ByteArray)) := zc BK327 2
 have hfs9 := blk_frozen BK327.out 2
 have hns9_0 := NB326_327.out
 have hms9_0 := NB327_326.out
 refine skip_ (w1 := ?_) (by rfl) rfl ?_ ?_
 rotate_left
 ·go_simp
  rfl
 refine hK.out _ _ ⟨((cell_far (p := ⟨gb327, _, none⟩) NB326_327.out _).trans (((cell_far (p := ⟨gb327, _, none⟩) NB326_327.out _).trans (((cell_far (p := ⟨gb327, _, none⟩) NB326_327.out _).trans (hHeld.1)))))), ((cell_far (p := ⟨gb327, _, none⟩) NB326_327.out _).trans (((cell_far (p := ⟨gb327, _, none⟩) NB326_327.out _).trans (((cell_far (p := ⟨gb327, _, none⟩) NB326_327.out _).trans (hHeld.2.1)))))), ((cell_far (p := ⟨gb327, _, none⟩) NB326_327.out _).trans (((cell_far (p := ⟨gb327, _, none⟩) NB326_327.out _).trans (((cell_far (p := ⟨gb327, _, none⟩) NB326_327.out _).trans (hHeld.2.2))))))⟩ (fun hHeld => ?_)
 clear hK K
 refine done_ (by kernel_rfl) ?_
 try go_wp2
 refine bodyPost_ret (results_cell_row rfl _ _ gb327 27 #[.bool t328, .string t329, .string a0_2] (0, 0) _ rfl (by (with_reducible repeat (first | refine blk_drewN ?_ _ | refine blk_drew ?_ | refine blk_alloc ?_ _)); refine zP (cs := #[.bool t328, .string t329, .string (⟨#[]⟩ : ByteArray)]) ?_ 2 _; (with_reducible repeat (first | refine blk_drewN ?_ _ | refine blk_drew ?_ | refine blk_alloc ?_ _)); refine zP (cs := #[.bool t328, .string (⟨#[]⟩ : ByteArray), .string (⟨#[]⟩ : ByteArray)]) ?_ 1 _; (with_reducible repeat (first | refine blk_drewN ?_ _ | refine blk_drew ?_ | refine blk_alloc ?_ _)); refine zP (cs := #[.bool false, .string (⟨#[]⟩ : ByteArray), .string (⟨#[]⟩ : ByteArray)]) ?_ 0 _; (with_reducible repeat (first | refine blk_drewN ?_ _ | refine blk_drew ?_ | refine blk_alloc ?_ _)); exact BK327.out) Tryz.underlying27 rfl (by kernel_rfl)) rfl ?_
 exact ⟨zH, zT HB⟩


/-! ### gussetref03_Less: function 25 -/
def gussetref03_Less.f (k : Nat) (a0_0 : Bool) (a0_1 : ByteArray) (a0_2 : ByteArray) (a1_0 : Bool) (a1_1 : ByteArray) (a1_2 : ByteArray) : Option (Bool × ByteArray × ByteArray) := (gussetref03_Negate.f a1_0 a1_1 a1_2).bind fun bt333 => ((gussetref03_Sum.f k a0_0 a0_1 a0_2 bt333.1 bt333.2.1 bt333.2.2).bind fun bt336 => (some (bt336.1, bt336.2.1, bt336.2.2)))
set_option maxHeartbeats 8000000 in
set_option maxRecDepth 100000 in
theorem gussetref03_Less.calls (k : Nat) (a0_0 : Bool) (a0_1 : ByteArray) (a0_2 : ByteArray) (a1_0 : Bool) (a1_1 : ByteArray) (a1_2 : ByteArray) (r1 : Bool) (r2 : ByteArray) (r3 : ByteArray) (w : World) (h : gussetref03_Less.f k a0_0 a0_1 a0_2 a1_0 a1_1 a1_2 = some (r1, r2, r3)) :
  Calls Tryz.prog 25 #[.agg #[.bool a0_0, .string a0_1, .string a0_2], .agg #[.bool a1_0, .string a1_1, .string a1_2]] w fun e w' => e = .returned (.agg #[.bool r1, .string r2, .string r3]) ∧ Below w.heap.size w w' := by
 have hu27 := Tryz.underlying27
 have HB := Aside0.mk (Below.refl w.heap.size w)
 unfold gussetref03_Less.f at h; have H := h; clear h
 obtain ⟨⟨t333, t334, t335⟩, A3, H⟩ := zo H; try dsimp only at H
 obtain ⟨⟨t336, t337, t338⟩, A4, H⟩ := zo H; try dsimp only at H
 simp only [Option.some.injEq, Prod.mk.injEq] at H
 obtain ⟨rfl, rfl, rfl⟩ := H
 go_enter Tryz.func25, Tryz.ntmps25
 try go_wp2_with (first | ((with_reducible refine gate_dst (N := 2) rfl ?_); refine zY 2 #[.bool a0_0, .string a0_1, .string a0_2] 27 ?_; intro gb330 hg w5 hbox hb; have BK330 := Aside0.mk (hbox); have GW330 := zG hg HB; have GE330 := zG hg HB; replace HB := zS HB hb; clear hb hbox hg) | ((with_reducible refine gate_dst (N := 3) rfl ?_); refine zY 3 #[.bool a1_0, .string a1_1, .string a1_2] 27 ?_; intro gb331 hg w6 hbox hb; have BK331 := Aside0.mk (hbox); have GW331 := zG hg HB; have GE331 := zG hg HB; obtain ⟨NB330_331, NB331_330⟩ := zQ hg BK330; replace BK330 := zB BK330 hb; replace HB := zS HB hb; clear hb hbox hg) | ((with_reducible refine gate_dst (N := 4) rfl ?_); refine zY 4 #[.bool false, .string (⟨#[]⟩ : ByteArray), .string (⟨#[]⟩ : ByteArray)] 27 ?_; intro gb332 hg w7 hbox hb; have BK332 := Aside0.mk (hbox); have GW332 := zG hg HB; have GE332 := zG hg HB; obtain ⟨NB330_332, NB332_330⟩ := zQ hg BK330; obtain ⟨NB331_332, NB332_331⟩ := zQ hg BK331; obtain ⟨BK330, BK331⟩ := zB2 BK330 BK331 hb; replace HB := zS HB hb; clear hb hbox hg))
 replace BK330 := zD BK330; replace BK331 := zD BK331; replace BK332 := zD BK332; replace HB := zF HB
 refine start_ (n := 5) (S := fun w' => w'.cell? ⟨gb330, 0, none⟩ = some (.bool a0_0) ∧ w'.cell? ⟨gb330, 1, none⟩ = some (.string a0_1) ∧ w'.cell? ⟨gb330, 2, none⟩ = some (.string a0_2) ∧ w'.cell? ⟨gb331, 0, none⟩ = some (.bool a1_0) ∧ w'.cell? ⟨gb331, 1, none⟩ = some (.string a1_1) ∧ w'.cell? ⟨gb331, 2, none⟩ = some (.string a1_2)) (ds := []) (zb 5 0) (by kernel_rfl) rfl rfl ⟨zc BK330 0, zc BK330 1, zc BK330 2, zc BK331 0, zc BK331 1, zc BK331 2⟩ (fun hHeld => ?_)
 generalize w7.drew = w8 at BK330 BK331 BK332 HB hHeld ⊢
 refine take_ (i := 0) (N := some 5) (v := ?_) (a' := ?_) (zb 5 1) rfl rfl (by kernel_rfl) (fun _ _ _ h => h) (Or.inl ⟨by rfl, ?_⟩) hHeld ?_ ?_
 rotate_left
 ·rintro w' ⟨s0, s1, s2, s3, s4, s5⟩
  go_simp
  with_reducible rfl
 rotate_left
 ·simp only [Act.put, List.setIfInBounds_toArray, List.set_cons_zero, List.set_cons_succ, i64_w, i32_w]
  rfl
 refine take_ (i := 1) (N := some 6) (v := ?_) (a' := ?_) (zb 5 3) rfl rfl (by kernel_rfl) (fun _ _ _ h => h) (Or.inl ⟨by rfl, ?_⟩) hHeld ?_ ?_
 rotate_left
 ·rintro w' ⟨s0, s1, s2, s3, s4, s5⟩
  go_simp
  with_reducible rfl
 rotate_left
 ·simp only [Act.put, List.setIfInBounds_toArray, List.set_cons_zero, List.set_cons_succ, i64_w, i32_w]
  rfl
 refine one_ (i := 2) (N := some 7) (zb 5 7) rfl rfl (by kernel_rfl) (by decide) (fun K hK => ?_)
 refine zJ Tryz.func71 (by kernel_rfl) (gussetref03_Negate.calls a1_0 a1_1 a1_2 t333 t334 t335 _ A3.out) fun w9 hb => ?_
 obtain ⟨BK330, BK331, BK332⟩ := zB3 BK330 BK331 BK332 hb; replace HB := zS HB hb
 (try clear hb)
 refine hK.out _ _ ⟨zc BK330 0, zc BK330 1, zc BK330 2, zc BK331 0, zc BK331 1, zc BK331 2⟩ (fun hHeld => ?_)
 clear hK K
 refine zW (some 7) ?_
 refine one_ (i := 3) (N := some 8) (zb 5 15) rfl rfl (by kernel_rfl) (by decide) (fun K hK => ?_)
 refine zJ Tryz.func38 (by kernel_rfl) (gussetref03_Sum.calls k a0_0 a0_1 a0_2 t333 t334 t335 t336 t337 t338 _ A4.out) fun w10 hb => ?_
 obtain ⟨BK330, BK331, BK332⟩ := zB3 BK330 BK331 BK332 hb; replace HB := zS HB hb
 (try clear hb)
 refine hK.out _ _ ⟨zc BK330 0, zc BK330 1, zc BK330 2, zc BK331 0, zc BK331 1, zc BK331 2⟩ (fun hHeld => ?_)
 clear hK K
 refine zW (some 8) ?_
 refine one_ (i := 4) (N := none) (zb 5 31) rfl rfl (by kernel_rfl) (by decide) (fun K hK => ?_)
 have hs11 : w10.cell? ⟨gb332, 0, none⟩ = some (.bool false) := zc BK332 0
 have hfs11 := blk_frozen BK332.out 0
 have hns11_0 := NB330_332.out
 have hns11_1 := NB331_332.out
 have hms11_0 := NB332_330.out
 have hms11_1 := NB332_331.out
 have hs12 : w10.cell? ⟨gb332, 1, none⟩ = some (.string (⟨#[]⟩ : ByteArray)) := zc BK332 1
 have hfs12 := blk_frozen BK332.out 1
 have hns12_0 := NB330_332.out
 have hns12_1 := NB331_332.out
 have hms12_0 := NB332_330.out
 have hms12_1 := NB332_331.out
 have hs13 : w10.cell? ⟨gb332, 2, none⟩ = some (.string (⟨#[]⟩ : ByteArray)) := zc BK332 2
 have hfs13 := blk_frozen BK332.out 2
 have hns13_0 := NB330_332.out
 have hns13_1 := NB331_332.out
 have hms13_0 := NB332_330.out
 have hms13_1 := NB332_331.out
 refine skip_ (w1 := ?_) (by rfl) rfl ?_ ?_
 rotate_left
 ·go_simp
  rfl
 refine hK.out _ _ ⟨((cell_far (p := ⟨gb332, _, none⟩) NB330_332.out _).trans (((cell_far (p := ⟨gb332, _, none⟩) NB330_332.out _).trans (((cell_far (p := ⟨gb332, _, none⟩) NB330_332.out _).trans (hHeld.1)))))), ((cell_far (p := ⟨gb332, _, none⟩) NB330_332.out _).trans (((cell_far (p := ⟨gb332, _, none⟩) NB330_332.out _).trans (((cell_far (p := ⟨gb332, _, none⟩) NB330_332.out _).trans (hHeld.2.1)))))), ((cell_far (p := ⟨gb332, _, none⟩) NB330_332.out _).trans (((cell_far (p := ⟨gb332, _, none⟩) NB330_332.out _).trans (((cell_far (p := ⟨gb332, _, none⟩) NB330_332.out _).trans (hHeld.2.2.1)))))), ((cell_far (p := ⟨gb332, _, none⟩) NB331_332.out _).trans (((cell_far (p := ⟨gb332, _, none⟩) NB331_332.out _).trans (((cell_far (p := ⟨gb332, _, none⟩) NB331_332.out _).trans (hHeld.2.2.2.1)))))), ((cell_far (p := ⟨gb332, _, none⟩) NB331_332.out _).trans (((cell_far (p := ⟨gb332, _, none⟩) NB331_332.out _).trans (((cell_far (p := ⟨gb332, _, none⟩) NB331_332.out _).trans (hHeld.2.2.2.2.1)))))), ((cell_far (p := ⟨gb332, _, none⟩) NB331_332.out _).trans (((cell_far (p := ⟨gb332, _, none⟩) NB331_332.out _).trans (((cell_far (p := ⟨gb332, _, none⟩) NB331_332.out _).trans (hHeld.2.2.2.2.2))))))⟩ (fun hHeld => ?_)
 clear hK K
 refine done_ (by kernel_rfl) ?_
 try go_wp2
 refine bodyPost_ret (results_cell_row rfl _ _ gb332 27 #[.bool t336, .string t337, .string t338] (0, 0) _ rfl (by (with_reducible repeat (first | refine blk_drewN ?_ _ | refine blk_drew ?_ | refine blk_alloc ?_ _)); refine zP (cs := #[.bool t336, .string t337, .string (⟨#[]⟩ : ByteArray)]) ?_ 2 _; (with_reducible repeat (first | refine blk_drewN ?_ _ | refine blk_drew ?_ | refine blk_alloc ?_ _)); refine zP (cs := #[.bool t336, .string (⟨#[]⟩ : ByteArray), .string (⟨#[]⟩ : ByteArray)]) ?_ 1 _; (with_reducible repeat (first | refine blk_drewN ?_ _ | refine blk_drew ?_ | refine blk_alloc ?_ _)); refine zP (cs := #[.bool false, .string (⟨#[]⟩ : ByteArray), .string (⟨#[]⟩ : ByteArray)]) ?_ 0 _; (with_reducible repeat (first | refine blk_drewN ?_ _ | refine blk_drew ?_ | refine blk_alloc ?_ _)); exact BK332.out) Tryz.underlying27 rfl (by kernel_rfl)) rfl ?_
 exact ⟨zH, zT HB⟩


/-! ### gussetref02_Order: function 64 -/
open Go.Proofs.YtoijlbcbbblbfaaGreatDoor Go.Proofs.YtoijlbcbbblbfaaGreatDoor.Num in
def gussetref02_Order.f (a0_0 : Bool) (a0_1 : ByteArray) (a1_0 : Bool) (a1_1 : ByteArray) : Option (Int) := if a0_1.size ≤ 4000 ∧ a1_1.size ≤ 4000 ∧ chk a0_0 a0_1 = 0 ∧ chk a1_0 a1_1 = 0 then some (cmpI (ival a0_0 a0_1) (ival a1_0 a1_1)) else none
open Go.Proofs.YtoijlbcbbblbfaaGreatDoor Go.Proofs.YtoijlbcbbblbfaaGreatDoor.Num in
theorem gussetref02_Order.calls (a0_0 : Bool) (a0_1 : ByteArray) (a1_0 : Bool) (a1_1 : ByteArray) (r : Int) (w : World) (h : gussetref02_Order.f a0_0 a0_1 a1_0 a1_1 = some r) :
  Calls Tryz.prog 64 #[.agg #[.bool a0_0, .string a0_1], .agg #[.bool a1_0, .string a1_1]] w fun e w' => e = .returned (.int .i64 r) ∧ Below w.heap.size w w' := by
 unfold gussetref02_Order.f at h
 split at h
 ·rename_i hc
  obtain rfl := Option.some.inj h
  exact order_r _ _ _ _ hc.1 hc.2.1 (chk_ok.1 hc.2.2.1) (chk_ok.1 hc.2.2.2) w
 ·exact absurd h (by simp)



/-! ### gussetref03_Order: function 26 -/
def gussetref03_Order.f (a0_0 : Bool) (a0_1 : ByteArray) (a0_2 : ByteArray) (a1_0 : Bool) (a1_1 : ByteArray) (a1_2 : ByteArray) : Option (Int) := if a0_2.toList = a1_2.toList then ((gussetref02_Order.f a0_0 a0_1 a1_0 a1_1).bind fun t341 => (some t341)) else ((gussetref03_den.f a1_0 a1_1 a1_2).bind fun bt342 => ((gussetref02_Times.f a0_0 a0_1 bt342.1 bt342.2).bind fun bt344 => ((gussetref03_den.f a0_0 a0_1 a0_2).bind fun bt346 => ((gussetref02_Times.f a1_0 a1_1 bt346.1 bt346.2).bind fun bt348 => ((gussetref02_Order.f bt344.1 bt344.2 bt348.1 bt348.2).bind fun t350 => (some t350))))))
def gussetref03_Order.T3 : Bool × List (List Nat × List Nat) := (true, [([], []), ([0], [0]), ([], []), ([2], [2]), ([1, 3, 3], [1, 3]), ([], []), ([5], [5]), ([], []), ([7, 4], [7]), ([6, 8, 8], [6, 8]), ([4, 9, 9], [4, 9]), ([10, 10, 0, 1, 2, 3, 4, 5, 6, 7, 8, 9, 10], [10])])
def gussetref03_Order.B3 : List Nat := [0, 1, 0, 4, 15, 0, 32, 0, 159, 511, 1023, 2047]
theorem gussetref03_Order.tab3 : rtab .any (opsOf Tryz.f26 3) = gussetref03_Order.T3 := by kernel_rfl
theorem gussetref03_Order.bits3 : waitsOk gussetref03_Order.T3.2 gussetref03_Order.B3 = true := by kernel_rfl
set_option maxHeartbeats 8000000 in
set_option maxRecDepth 100000 in
theorem gussetref03_Order.calls (a0_0 : Bool) (a0_1 : ByteArray) (a0_2 : ByteArray) (a1_0 : Bool) (a1_1 : ByteArray) (a1_2 : ByteArray) (r : Int) (w : World) (h : gussetref03_Order.f a0_0 a0_1 a0_2 a1_0 a1_1 a1_2 = some r) :
  Calls Tryz.prog 26 #[.agg #[.bool a0_0, .string a0_1, .string a0_2], .agg #[.bool a1_0, .string a1_1, .string a1_2]] w fun e w' => e = .returned (.int .i64 r) ∧ Below w.heap.size w w' := by
 have hu27 := Tryz.underlying27
 have hu24 := Tryz.underlying24; have hf0 := zf240; have hf1 := zf241; have hf2 := zf270; have hf3 := zf271
 have HB := Aside0.mk (Below.refl w.heap.size w)
 unfold gussetref03_Order.f at h; have H := h; clear h
 by_cases c3 : a0_2.toList = a1_2.toList
 ·rw [if_pos c3] at H
  have c3b0 := beq_iff_eq.mpr c3
  have c3b1 := bne_eq_false_iff_eq.mpr c3
  clear c3
  obtain ⟨t341, A4, H⟩ := zo H
  obtain rfl := Option.some.inj H
  go_enter Tryz.func26, Tryz.ntmps26
  go_wp2_with (first | ((with_reducible refine gate_dst (N := 2) rfl ?_); refine zY 2 #[.bool a0_0, .string a0_1, .string a0_2] 27 ?_; intro gb339 hg w5 hbox hb; have BK339 := Aside0.mk (hbox); have GW339 := zG hg HB; have GE339 := zG hg HB; replace HB := zS HB hb; clear hb hbox hg) | ((with_reducible refine gate_dst (N := 3) rfl ?_); refine zY 3 #[.bool a1_0, .string a1_1, .string a1_2] 27 ?_; intro gb340 hg w6 hbox hb; have BK340 := Aside0.mk (hbox); have GW340 := zG hg HB; have GE340 := zG hg HB; obtain ⟨NB339_340, NB340_339⟩ := zQ hg BK339; replace BK339 := zB BK339 hb; replace HB := zS HB hb; clear hb hbox hg; have hnb7 := NB339_340.out; have hnc7 := NB340_339.out; obtain ⟨hcz8_0, hcz8_1, hcz8_2, hfz8_0, hfz8_1, hfz8_2⟩ := z3 BK339; obtain ⟨hcz9_0, hcz9_1, hcz9_2, hfz9_0, hfz9_1, hfz9_2⟩ := z3 BK340) | ((with_reducible refine gate_callee (f := 64) rfl ?_); refine zO Tryz.func64 (by kernel_rfl) (gussetref02_Order.calls a0_0 a0_1 a1_0 a1_1 t341 _ A4.out) fun w10 hb => ?_; obtain ⟨BK339, BK340⟩ := zB2 BK339 BK340 hb; replace HB := zS HB hb; (try clear hb)))
  go_ret
  exact ⟨zH, zT HB⟩
 ·rw [if_neg c3] at H
  have c3b0 := beq_eq_false_iff_ne.mpr c3
  have c3b1 := bne_iff_ne.mpr c3
  obtain ⟨⟨t342, t343⟩, A11, H⟩ := zo H; try dsimp only at H
  obtain ⟨⟨t344, t345⟩, A12, H⟩ := zo H; try dsimp only at H
  obtain ⟨⟨t346, t347⟩, A13, H⟩ := zo H; try dsimp only at H
  obtain ⟨⟨t348, t349⟩, A14, H⟩ := zo H; try dsimp only at H
  obtain ⟨t350, A15, H⟩ := zo H
  obtain rfl := Option.some.inj H
  go_enter Tryz.func26, Tryz.ntmps26
  try go_wp2_with (first | ((with_reducible refine gate_dst (N := 2) rfl ?_); refine zY 2 #[.bool a0_0, .string a0_1, .string a0_2] 27 ?_; intro gb339 hg w16 hbox hb; have BK339 := Aside0.mk (hbox); have GW339 := zG hg HB; have GE339 := zG hg HB; replace HB := zS HB hb; clear hb hbox hg) | ((with_reducible refine gate_dst (N := 3) rfl ?_); refine zY 3 #[.bool a1_0, .string a1_1, .string a1_2] 27 ?_; intro gb340 hg w17 hbox hb; have BK340 := Aside0.mk (hbox); have GW340 := zG hg HB; have GE340 := zG hg HB; obtain ⟨NB339_340, NB340_339⟩ := zQ hg BK339; replace BK339 := zB BK339 hb; replace HB := zS HB hb; clear hb hbox hg; have hnb18 := NB339_340.out; have hnc18 := NB340_339.out; obtain ⟨hcz19_0, hcz19_1, hcz19_2, hfz19_0, hfz19_1, hfz19_2⟩ := z3 BK339; obtain ⟨hcz20_0, hcz20_1, hcz20_2, hfz20_0, hfz20_1, hfz20_2⟩ := z3 BK340))
  replace BK339 := zD BK339; replace BK340 := zD BK340; replace HB := zF HB
  refine start_ (n := 12) (S := fun w' => w'.cell? ⟨gb339, 0, none⟩ = some (.bool a0_0) ∧ w'.cell? ⟨gb339, 1, none⟩ = some (.string a0_1) ∧ w'.cell? ⟨gb339, 2, none⟩ = some (.string a0_2) ∧ w'.cell? ⟨gb340, 0, none⟩ = some (.bool a1_0) ∧ w'.cell? ⟨gb340, 1, none⟩ = some (.string a1_1) ∧ w'.cell? ⟨gb340, 2, none⟩ = some (.string a1_2)) (ds := []) (zb 12 0) (by kernel_rfl) rfl rfl ⟨zc BK339 0, zc BK339 1, zc BK339 2, zc BK340 0, zc BK340 1, zc BK340 2⟩ (fun hHeld => ?_); refine with_tabW gussetref03_Order.tab3 gussetref03_Order.bits3 (fun HT_ HW_ => ?_)
  generalize w17.drew = w21 at BK339 BK340 HB hHeld ⊢
  refine zU (i := 0) (N := some 15) (zb 12 1) (any_of HT_.out (by kernel_rfl)) ?_
  refine zU (i := 5) (N := some 20) (zb 12 33) (any_of HT_.out (by kernel_rfl)) ?_
  refine zV (i := 1) (N := some 16) (zb 12 35) (take_ofW HT_.out HW_.out (by kernel_rfl)) hHeld ?_
  refine zV (i := 2) (N := some 17) (zb 12 39) (take_ofW HT_.out HW_.out (by kernel_rfl)) hHeld ?_
  refine zV (i := 6) (N := some 21) (zb 12 103) (take_ofW HT_.out HW_.out (by kernel_rfl)) hHeld ?_
  refine zV (i := 7) (N := some 22) (zb 12 231) (take_ofW HT_.out HW_.out (by kernel_rfl)) hHeld ?_
  refine one_ (i := 3) (N := some 18) (zb 12 239) rfl rfl (one_of HT_.out (by kernel_rfl)) (by decide) (fun K hK => ?_)
  refine zJ Tryz.func56 (by kernel_rfl) (gussetref03_den.calls a1_0 a1_1 a1_2 t342 t343 _ A11.out) fun w22 hb => ?_
  obtain ⟨BK339, BK340⟩ := zB2 BK339 BK340 hb; replace HB := zS HB hb
  (try clear hb)
  refine hK.out _ _ ⟨zc BK339 0, zc BK339 1, zc BK339 2, zc BK340 0, zc BK340 1, zc BK340 2⟩ (fun hHeld => ?_)
  clear hK K
  refine zW (some 18) ?_
  refine one_ (i := 4) (N := some 19) (zb 12 255) rfl rfl (one_of HT_.out (by kernel_rfl)) (by decide) (fun K hK => ?_)
  refine zJ Tryz.func24 (by kernel_rfl) (gussetref02_Times.calls a0_0 a0_1 t342 t343 t344 t345 _ A12.out) fun w23 hb => ?_
  obtain ⟨BK339, BK340⟩ := zB2 BK339 BK340 hb; replace HB := zS HB hb
  (try clear hb)
  refine hK.out _ _ ⟨zc BK339 0, zc BK339 1, zc BK339 2, zc BK340 0, zc BK340 1, zc BK340 2⟩ (fun hHeld => ?_)
  clear hK K
  refine zW (some 19) ?_
  refine one_ (i := 8) (N := some 23) (zb 12 511) rfl rfl (one_of HT_.out (by kernel_rfl)) (by decide) (fun K hK => ?_)
  refine zJ Tryz.func56 (by kernel_rfl) (gussetref03_den.calls a0_0 a0_1 a0_2 t346 t347 _ A13.out) fun w24 hb => ?_
  obtain ⟨BK339, BK340⟩ := zB2 BK339 BK340 hb; replace HB := zS HB hb
  (try clear hb)
  refine hK.out _ _ ⟨zc BK339 0, zc BK339 1, zc BK339 2, zc BK340 0, zc BK340 1, zc BK340 2⟩ (fun hHeld => ?_)
  clear hK K
  refine zW (some 23) ?_
  refine one_ (i := 9) (N := some 24) (zb 12 1023) rfl rfl (one_of HT_.out (by kernel_rfl)) (by decide) (fun K hK => ?_)
  refine zJ Tryz.func24 (by kernel_rfl) (gussetref02_Times.calls a1_0 a1_1 t346 t347 t348 t349 _ A14.out) fun w25 hb => ?_
  obtain ⟨BK339, BK340⟩ := zB2 BK339 BK340 hb; replace HB := zS HB hb
  (try clear hb)
  refine hK.out _ _ ⟨zc BK339 0, zc BK339 1, zc BK339 2, zc BK340 0, zc BK340 1, zc BK340 2⟩ (fun hHeld => ?_)
  clear hK K
  refine zW (some 24) ?_
  refine one_ (i := 10) (N := some 25) (zb 12 2047) rfl rfl (one_of HT_.out (by kernel_rfl)) (by decide) (fun K hK => ?_)
  refine zJ Tryz.func64 (by kernel_rfl) (gussetref02_Order.calls t344 t345 t348 t349 t350 _ A15.out) fun w26 hb => ?_
  obtain ⟨BK339, BK340⟩ := zB2 BK339 BK340 hb; replace HB := zS HB hb
  (try clear hb)
  refine hK.out _ _ ⟨zc BK339 0, zc BK339 1, zc BK339 2, zc BK340 0, zc BK340 1, zc BK340 2⟩ (fun hHeld => ?_)
  clear hK K
  refine zW (some 25) ?_
  refine zU (i := 11) (N := some 4) (zb 12 4095) (any_of HT_.out (by kernel_rfl)) ?_
  refine done_ (done_of HT_.out (by kernel_rfl)) ?_
  try go_wp2
  go_ret
  exact ⟨zH, zT HB⟩

end Go.Proofs.YtoijlbcbbblbfaaGreatDoorH.R
