import Derived.Test.YtoijlbcbbblbfaaGreatDoorZzG0x0
import Derived.Test.YtoijlbcbbblbfaaGreatDoorZzG0x1
import Derived.Test.YtoijlbcbbblbfaaGreatDoorZzG8x0
import Derived.Test.YtoijlbcbbblbfaaGreatDoorZzG8x1
-- printed by hp.py, sq3
namespace Go.Proofs.YtoijlbcbbblbfaaGreatDoorH.R
open Go.RowKit Go.Proofs.YtoijlbcbbblbfaaGreatDoorH.Z Go.Proofs.YtoijlbcbbblbfaaGreatDoorW.PrintWords Go.Proofs.YtoijlbcbbblbfaaGreatDoorW.PrintLast Go.Proofs.YtoijlbcbbblbfaaGreatDoorW.PrintMore
attribute [local go_sem] max2_int min2_int max_two min_two max_three min_three max_four min_four   -- for this text's walks alone
set_option linter.unusedVariables false
set_option linter.unusedSimpArgs false

/-! ### gussetlaw03_RatChecks: function 10 -/
def gussetlaw03_RatChecks.j0 : Nat → Bool → Bool → ByteArray → ByteArray → Bool → ByteArray → ByteArray → Option (Bool)
 | 0, _, _, _, _, _, _, _ => none
 | k + 1, x30, x657000, x657001, x657002, x658000, x658001, x658002 => if x30 = true then ((gussetlaw03_live.f k).bind fun t660 => (some t660)) else ((gussetref03_Both.f k x657000 x657001 x657002 x658000 x658001 x658002).bind fun t661 => ((rat_Cmp.f k x657000 x657001 x657002 x658000 x658001 x658002).bind fun bt662 => ((rat_Add.f k x657000 x657001 x657002 x658000 x658001 x658002).bind fun bt664 => ((rat_Sub.f k x657000 x657001 x657002 x658000 x658001 x658002).bind fun bt669 => ((rat_Mul.f k x657000 x657001 x657002 x658000 x658001 x658002).bind fun bt674 => ((rat_Div.f k x657000 x657001 x657002 x658000 x658001 x658002).bind fun bt679 => ((rat_Sign.f k x657000 x657001 x657002).bind fun bt684 => ((rat_Print.f k x657000 x657001 x657002).bind fun bt686 => ((rat_Decimal.f k x657000 x657001 x657002 3).bind fun bt688 => ((gussetref03_Check.f k x657000 x657001 x657002).bind fun t690 => ((rat_Check.f k x657000 x657001 x657002).bind fun t691 => (if t691 = t690 then (if bt662.2 = t661 then (if bt664.2.2.2 = t661 then (if bt669.2.2.2 = t661 then (if bt674.2.2.2 = t661 then (if bt679.2.2.2 = t661 then (if bt684.2 = t690 then (if bt686.2 = t690 then (if bt688.2 = t690 then ((gussetlaw03_live.f k).bind fun t692 => (some t692)) else (none)) else (none)) else (none)) else (if t661 = 0 then (if bt679.2.2.2 = 3 then (if bt684.2 = t690 then (if bt686.2 = t690 then (if bt688.2 = t690 then ((gussetlaw03_live.f k).bind fun t693 => (some t693)) else (none)) else (none)) else (none)) else (none)) else (none))) else (none)) else (none)) else (none)) else (none)) else (none)))))))))))))
def gussetlaw03_RatChecks.f (k : Nat) (a0_0 : Bool) (a0_1 : ByteArray) (a0_2 : ByteArray) (a1_0 : Bool) (a1_1 : ByteArray) (a1_2 : ByteArray) : Option (Bool) := (gussetlaw03_small.f a0_0 a0_1 a0_2).bind fun t658 => (if t658 = true then ((gussetlaw03_small.f a1_0 a1_1 a1_2).bind fun t659 => (gussetlaw03_RatChecks.j0 k (!t659) a0_0 a0_1 a0_2 a1_0 a1_1 a1_2)) else (gussetlaw03_RatChecks.j0 k true a0_0 a0_1 a0_2 a1_0 a1_1 a1_2))
set_option maxHeartbeats 8000000 in
set_option maxRecDepth 100000 in
theorem gussetlaw03_RatChecks.calls (k : Nat) (a0_0 : Bool) (a0_1 : ByteArray) (a0_2 : ByteArray) (a1_0 : Bool) (a1_1 : ByteArray) (a1_2 : ByteArray) (r : Bool) (w : World) (h : gussetlaw03_RatChecks.f k a0_0 a0_1 a0_2 a1_0 a1_1 a1_2 = some r) :
  Calls Tryz.prog 10 #[.agg #[.bool a0_0, .string a0_1, .string a0_2], .agg #[.bool a1_0, .string a1_1, .string a1_2]] w fun e w' => e = .returned (.bool r) ∧ Below w.heap.size w w' := by
 have hu27 := Tryz.underlying27
 have HB := Aside0.mk (Below.refl w.heap.size w)
 unfold gussetlaw03_RatChecks.f at h; have H := h; clear h
 have HC3 := Aside0.mk H
 clear H
 go_enter Tryz.func10, Tryz.ntmps10
 go_upto_region 1 with (first | ((with_reducible refine gate_dst (N := 2) rfl ?_); refine zY 2 #[.bool a0_0, .string a0_1, .string a0_2] 27 ?_; intro gb656 hg w4 hbox hb; have BK656 := Aside0.mk (hbox); have GW656 := zG hg HB; have GE656 := zG hg HB; replace HB := zS HB hb; clear hb hbox hg) | ((with_reducible refine gate_dst (N := 3) rfl ?_); refine zY 3 #[.bool a1_0, .string a1_1, .string a1_2] 27 ?_; intro gb657 hg w5 hbox hb; have BK657 := Aside0.mk (hbox); have GW657 := zG hg HB; have GE657 := zG hg HB; obtain ⟨NB656_657, NB657_656⟩ := zQ hg BK656; replace BK656 := zB BK656 hb; replace HB := zS HB hb; clear hb hbox hg))
 (try simp only [Act.put, List.setIfInBounds_toArray, List.set_cons_zero, List.set_cons_succ])
 go_cut [30] (fun v30 wc => ∃ (kq : Nat) (x30_2 : Bool), v30 = .bool x30_2 ∧ Aside0 (gussetlaw03_RatChecks.j0 kq x30_2 a0_0 a0_1 a0_2 a1_0 a1_1 a1_2 = some r) ∧ Aside0 (kq ≤ k) ∧ Aside0 (wc.heap[gb656]? = some (.cells #[.bool a0_0, .string a0_1, .string a0_2] 27 (0, 0))) ∧ Aside0 (wc.heap[gb657]? = some (.cells #[.bool a1_0, .string a1_1, .string a1_2] 27 (0, 0))) ∧ Aside0 (Below w.heap.size w wc))
 case first =>
  have H := HC3.out
  clear HC3
  obtain ⟨t658, A6, H⟩ := zo H
  by_cases c7 : t658 = true
  ·subst c7
   rw [if_pos rfl] at H
   obtain ⟨t659, A8, H⟩ := zo H
   have H' := Aside0.mk H
   clear H; have hnb9 := NB656_657.out; have hnc9 := NB657_656.out; obtain ⟨hcz10_0, hcz10_1, hcz10_2, hfz10_0, hfz10_1, hfz10_2⟩ := z3 BK656
   go_wp2_with (first | ((with_reducible refine gate_callee (f := 33) rfl ?_); refine zO Tryz.func33 (by kernel_rfl) (gussetlaw03_small.calls a0_0 a0_1 a0_2 true _ A6.out) fun w11 hb => ?_; obtain ⟨BK656, BK657⟩ := zB2 BK656 BK657 hb; replace HB := zS HB hb; (try clear hb); obtain ⟨hcz12_0, hcz12_1, hcz12_2, hfz12_0, hfz12_1, hfz12_2⟩ := z3 BK657) | (go_at_call 33; (with_reducible refine (gussetlaw03_small.calls a1_0 a1_1 a1_2 t659 _ A8.out).mono ?_); rintro e w13 ⟨rfl, hb⟩; obtain ⟨BK656, BK657⟩ := zB2 BK656 BK657 hb; replace HB := zS HB hb; (try clear hb)))
   go_meet
   case rel => exact ⟨_, (!t659), zR, H', zL, zK BK656, zK BK657, ⟨zT HB⟩⟩
  ·replace c7 := Bool.eq_false_iff.mpr c7
   subst c7
   rw [if_neg zn] at H
   have H' := Aside0.mk H
   clear H; have hnb14 := NB656_657.out; have hnc14 := NB657_656.out; obtain ⟨hcz15_0, hcz15_1, hcz15_2, hfz15_0, hfz15_1, hfz15_2⟩ := z3 BK656
   go_wp2_with (first | ((with_reducible refine gate_callee (f := 33) rfl ?_); refine zO Tryz.func33 (by kernel_rfl) (gussetlaw03_small.calls a0_0 a0_1 a0_2 false _ A6.out) fun w16 hb => ?_; obtain ⟨BK656, BK657⟩ := zB2 BK656 BK657 hb; replace HB := zS HB hb; (try clear hb)))
   go_meet
   case rel => exact ⟨_, (true), zR, H', zL, zK BK656, zK BK657, ⟨zT HB⟩⟩
 case rest =>
  clear HC3
  try clear c1; try clear p2; try clear c3; try clear c7; try clear c9; try clear c10; try clear c14; try clear hcz10_0; try clear hcz10_1; try clear hcz10_2; try clear hcz12_0; try clear hcz12_1; try clear hcz12_2; try clear hcz15_0; try clear hcz15_1; try clear hcz15_2; try clear hfz10_0; try clear hfz10_1; try clear hfz10_2; try clear hfz12_0; try clear hfz12_1; try clear hfz12_2; try clear hfz15_0; try clear hfz15_1; try clear hfz15_2
  obtain ⟨kq, x30_2, rfl, HA, HJ2, BK656, BK657, HB⟩ := hcut
  cases kq with
  | zero => exact absurd HA.out (by simp [gussetlaw03_RatChecks.j0])
  | succ kj2 =>
   have H := HA.out
   clear HA
   simp only [gussetlaw03_RatChecks.j0] at H
   by_cases c17 : x30_2 = true
   ·subst c17
    rw [if_pos rfl] at H
    obtain ⟨t660, A18, H⟩ := zo H
    obtain rfl := Option.some.inj H
    go_wp2_with (first | ((with_reducible refine gate_callee (f := 13) rfl ?_); refine zO Tryz.func13 (by kernel_rfl) (gussetlaw03_live.calls kj2  t660 _ A18.out) fun w19 hb => ?_; obtain ⟨BK656, BK657⟩ := zB2 BK656 BK657 hb; replace HB := zS HB hb; (try clear hb)))
    go_ret
    exact ⟨zH, zT HB⟩
   ·replace c17 := Bool.eq_false_iff.mpr c17
    subst c17
    rw [if_neg zn] at H
    obtain ⟨t661, A20, H⟩ := zo H
    obtain ⟨⟨t662, t663⟩, A21, H⟩ := zo H; try dsimp only at H
    obtain ⟨⟨t664, t665, t666, t667⟩, A22, H⟩ := zo H; try dsimp only at H
    obtain ⟨⟨t669, t670, t671, t672⟩, A23, H⟩ := zo H; try dsimp only at H
    obtain ⟨⟨t674, t675, t676, t677⟩, A24, H⟩ := zo H; try dsimp only at H
    obtain ⟨⟨t679, t680, t681, t682⟩, A25, H⟩ := zo H; try dsimp only at H
    obtain ⟨⟨t684, t685⟩, A26, H⟩ := zo H; try dsimp only at H
    obtain ⟨⟨t686, t687⟩, A27, H⟩ := zo H; try dsimp only at H
    obtain ⟨⟨t688, t689⟩, A28, H⟩ := zo H; try dsimp only at H
    obtain ⟨t690, A29, H⟩ := zo H
    obtain ⟨t691, A30, H⟩ := zo H
    by_cases c31 : t691 = t690
    ·rw [if_pos c31] at H
     have c31b0 := beq_iff_eq.mpr c31
     have c31b1 := bne_eq_false_iff_eq.mpr c31
     clear c31
     by_cases c32 : t663 = t661
     ·rw [if_pos c32] at H
      have c32b0 := beq_iff_eq.mpr c32
      have c32b1 := bne_eq_false_iff_eq.mpr c32
      clear c32
      by_cases c33 : t667 = t661
      ·rw [if_pos c33] at H
       have c33b0 := beq_iff_eq.mpr c33
       have c33b1 := bne_eq_false_iff_eq.mpr c33
       clear c33
       by_cases c34 : t672 = t661
       ·rw [if_pos c34] at H
        have c34b0 := beq_iff_eq.mpr c34
        have c34b1 := bne_eq_false_iff_eq.mpr c34
        clear c34
        by_cases c35 : t677 = t661
        ·rw [if_pos c35] at H
         have c35b0 := beq_iff_eq.mpr c35
         have c35b1 := bne_eq_false_iff_eq.mpr c35
         clear c35
         by_cases c36 : t682 = t661
         ·rw [if_pos c36] at H
          have c36b0 := beq_iff_eq.mpr c36
          have c36b1 := bne_eq_false_iff_eq.mpr c36
          clear c36
          by_cases c37 : t685 = t690
          ·rw [if_pos c37] at H
           have c37b0 := beq_iff_eq.mpr c37
           have c37b1 := bne_eq_false_iff_eq.mpr c37
           clear c37
           by_cases c38 : t687 = t690
           ·rw [if_pos c38] at H
            have c38b0 := beq_iff_eq.mpr c38
            have c38b1 := bne_eq_false_iff_eq.mpr c38
            clear c38
            by_cases c39 : t689 = t690
            ·rw [if_pos c39] at H
             have c39b0 := beq_iff_eq.mpr c39
             have c39b1 := bne_eq_false_iff_eq.mpr c39
             clear c39
             obtain ⟨t692, A40, H⟩ := zo H
             obtain rfl := Option.some.inj H
             have hnb41 := NB656_657.out; have hnc41 := NB657_656.out; obtain ⟨hcz42_0, hcz42_1, hcz42_2, hfz42_0, hfz42_1, hfz42_2⟩ := z3 BK656; obtain ⟨hcz43_0, hcz43_1, hcz43_2, hfz43_0, hfz43_1, hfz43_2⟩ := z3 BK657
             go_wp2_with (first | ((with_reducible refine gate_callee (f := 39) rfl ?_); refine zO Tryz.func39 (by kernel_rfl) (gussetref03_Both.calls kj2 a0_0 a0_1 a0_2 a1_0 a1_1 a1_2 t661 _ A20.out) fun w44 hb => ?_; obtain ⟨BK656, BK657⟩ := zB2 BK656 BK657 hb; replace HB := zS HB hb; (try clear hb); obtain ⟨hcz45_0, hcz45_1, hcz45_2, hfz45_0, hfz45_1, hfz45_2⟩ := z3 BK656; obtain ⟨hcz46_0, hcz46_1, hcz46_2, hfz46_0, hfz46_1, hfz46_2⟩ := z3 BK657) | ((with_reducible refine gate_callee (f := 35) rfl ?_); refine zO Tryz.func35 (by kernel_rfl) (rat_Cmp.calls kj2 a0_0 a0_1 a0_2 a1_0 a1_1 a1_2 t662 t663 _ A21.out) fun w47 hb => ?_; obtain ⟨BK656, BK657⟩ := zB2 BK656 BK657 hb; replace HB := zS HB hb; (try clear hb); obtain ⟨hcz48_0, hcz48_1, hcz48_2, hfz48_0, hfz48_1, hfz48_2⟩ := z3 BK656; obtain ⟨hcz49_0, hcz49_1, hcz49_2, hfz49_0, hfz49_1, hfz49_2⟩ := z3 BK657) | ((with_reducible refine gate_callee (f := 34) rfl ?_); refine zO Tryz.func34 (by kernel_rfl) (rat_Add.calls kj2 a0_0 a0_1 a0_2 a1_0 a1_1 a1_2 t664 t665 t666 t667 _ A22.out) fun w50 hb => ?_; obtain ⟨BK656, BK657⟩ := zB2 BK656 BK657 hb; replace HB := zS HB hb; (try clear hb)) | ((with_reducible refine gate_dst (N := 8) rfl ?_); refine zY 8 #[.bool false, .string (⟨#[]⟩ : ByteArray), .string (⟨#[]⟩ : ByteArray)] 27 ?_; intro gb668 hg w51 hbox hb; have BK668 := Aside0.mk (hbox); have GW668 := zG hg HB; have GE668 := zG hg HB; obtain ⟨NB656_668, NB668_656⟩ := zQ hg BK656; obtain ⟨NB657_668, NB668_657⟩ := zQ hg BK657; obtain ⟨BK656, BK657⟩ := zB2 BK656 BK657 hb; replace HB := zS HB hb; clear hb hbox hg; have hnb52 := NB668_656.out; have hnc52 := NB656_668.out; have hnb53 := NB668_657.out; have hnc53 := NB657_668.out; obtain ⟨hcz54_0, hcz54_1, hcz54_2, hfz54_0, hfz54_1, hfz54_2⟩ := z3 BK668; obtain ⟨hcz55_0, hcz55_1, hcz55_2, hfz55_0, hfz55_1, hfz55_2⟩ := z3 BK656; obtain ⟨hcz56_0, hcz56_1, hcz56_2, hfz56_0, hfz56_1, hfz56_2⟩ := z3 BK657) | ((with_reducible refine gate_callee (f := 36) rfl ?_); refine zO Tryz.func36 (by kernel_rfl) (rat_Sub.calls kj2 a0_0 a0_1 a0_2 a1_0 a1_1 a1_2 t669 t670 t671 t672 _ A23.out) fun w57 hb => ?_; obtain ⟨BK656, BK657⟩ := zB2 BK656 BK657 hb; replace BK668 := Aside0.mk (blk_below (g := gb668) (o := .cells #[.bool t664, .string t665, .string t666] 27 (0, 0)) (by (with_reducible repeat (first | refine blk_drewN ?_ _ | refine blk_drew ?_ | refine blk_alloc ?_ _)); refine zP (cs := #[.bool t664, .string t665, .string (⟨#[]⟩ : ByteArray)]) ?_ 2 _; (with_reducible repeat (first | refine blk_drewN ?_ _ | refine blk_drew ?_ | refine blk_alloc ?_ _)); refine zP (cs := #[.bool t664, .string (⟨#[]⟩ : ByteArray), .string (⟨#[]⟩ : ByteArray)]) ?_ 1 _; (with_reducible repeat (first | refine blk_drewN ?_ _ | refine blk_drew ?_ | refine blk_alloc ?_ _)); refine zP (cs := #[.bool false, .string (⟨#[]⟩ : ByteArray), .string (⟨#[]⟩ : ByteArray)]) ?_ 0 _; (with_reducible repeat (first | refine blk_drewN ?_ _ | refine blk_drew ?_ | refine blk_alloc ?_ _)); exact BK668.out) hb); replace HB := zS HB hb; (try clear hb)) | ((with_reducible refine gate_dst (N := 10) rfl ?_); refine zY 10 #[.bool false, .string (⟨#[]⟩ : ByteArray), .string (⟨#[]⟩ : ByteArray)] 27 ?_; intro gb673 hg w58 hbox hb; have BK673 := Aside0.mk (hbox); have GW673 := zG hg HB; have GE673 := zG hg HB; obtain ⟨NB656_673, NB673_656⟩ := zQ hg BK656; obtain ⟨NB657_673, NB673_657⟩ := zQ hg BK657; obtain ⟨NB668_673, NB673_668⟩ := zQ hg BK668; obtain ⟨BK656, BK657, BK668⟩ := zB3 BK656 BK657 BK668 hb; replace HB := zS HB hb; clear hb hbox hg; have hnb59 := NB673_656.out; have hnc59 := NB656_673.out; have hnb60 := NB673_657.out; have hnc60 := NB657_673.out; have hnb61 := NB673_668.out; have hnc61 := NB668_673.out; obtain ⟨hcz62_0, hcz62_1, hcz62_2, hfz62_0, hfz62_1, hfz62_2⟩ := z3 BK673; obtain ⟨hcz63_0, hcz63_1, hcz63_2, hfz63_0, hfz63_1, hfz63_2⟩ := z3 BK656; obtain ⟨hcz64_0, hcz64_1, hcz64_2, hfz64_0, hfz64_1, hfz64_2⟩ := z3 BK657) | ((with_reducible refine gate_callee (f := 28) rfl ?_); refine zO Tryz.func28 (by kernel_rfl) (rat_Mul.calls kj2 a0_0 a0_1 a0_2 a1_0 a1_1 a1_2 t674 t675 t676 t677 _ A24.out) fun w65 hb => ?_; obtain ⟨BK656, BK657, BK668⟩ := zB3 BK656 BK657 BK668 hb; replace BK673 := Aside0.mk (blk_below (g := gb673) (o := .cells #[.bool t669, .string t670, .string t671] 27 (0, 0)) (by (with_reducible repeat (first | refine blk_drewN ?_ _ | refine blk_drew ?_ | refine blk_alloc ?_ _)); refine zP (cs := #[.bool t669, .string t670, .string (⟨#[]⟩ : ByteArray)]) ?_ 2 _; (with_reducible repeat (first | refine blk_drewN ?_ _ | refine blk_drew ?_ | refine blk_alloc ?_ _)); refine zP (cs := #[.bool t669, .string (⟨#[]⟩ : ByteArray), .string (⟨#[]⟩ : ByteArray)]) ?_ 1 _; (with_reducible repeat (first | refine blk_drewN ?_ _ | refine blk_drew ?_ | refine blk_alloc ?_ _)); refine zP (cs := #[.bool false, .string (⟨#[]⟩ : ByteArray), .string (⟨#[]⟩ : ByteArray)]) ?_ 0 _; (with_reducible repeat (first | refine blk_drewN ?_ _ | refine blk_drew ?_ | refine blk_alloc ?_ _)); exact BK673.out) hb); replace HB := zS HB hb; (try clear hb)) | ((with_reducible refine gate_dst (N := 12) rfl ?_); refine zY 12 #[.bool false, .string (⟨#[]⟩ : ByteArray), .string (⟨#[]⟩ : ByteArray)] 27 ?_; intro gb678 hg w66 hbox hb; have BK678 := Aside0.mk (hbox); have GW678 := zG hg HB; have GE678 := zG hg HB; obtain ⟨NB656_678, NB678_656⟩ := zQ hg BK656; obtain ⟨NB657_678, NB678_657⟩ := zQ hg BK657; obtain ⟨NB668_678, NB678_668⟩ := zQ hg BK668; obtain ⟨NB673_678, NB678_673⟩ := zQ hg BK673; obtain ⟨BK656, BK657, BK668, BK673⟩ := zB4 BK656 BK657 BK668 BK673 hb; replace HB := zS HB hb; clear hb hbox hg; have hnb67 := NB678_656.out; have hnc67 := NB656_678.out; have hnb68 := NB678_657.out; have hnc68 := NB657_678.out; have hnb69 := NB678_668.out; have hnc69 := NB668_678.out; have hnb70 := NB678_673.out; have hnc70 := NB673_678.out; obtain ⟨hcz71_0, hcz71_1, hcz71_2, hfz71_0, hfz71_1, hfz71_2⟩ := z3 BK678; obtain ⟨hcz72_0, hcz72_1, hcz72_2, hfz72_0, hfz72_1, hfz72_2⟩ := z3 BK656; obtain ⟨hcz73_0, hcz73_1, hcz73_2, hfz73_0, hfz73_1, hfz73_2⟩ := z3 BK657) | ((with_reducible refine gate_callee (f := 29) rfl ?_); refine zO Tryz.func29 (by kernel_rfl) (rat_Div.calls kj2 a0_0 a0_1 a0_2 a1_0 a1_1 a1_2 t679 t680 t681 t682 _ A25.out) fun w74 hb => ?_; obtain ⟨BK656, BK657, BK668, BK673⟩ := zB4 BK656 BK657 BK668 BK673 hb; replace BK678 := Aside0.mk (blk_below (g := gb678) (o := .cells #[.bool t674, .string t675, .string t676] 27 (0, 0)) (by (with_reducible repeat (first | refine blk_drewN ?_ _ | refine blk_drew ?_ | refine blk_alloc ?_ _)); refine zP (cs := #[.bool t674, .string t675, .string (⟨#[]⟩ : ByteArray)]) ?_ 2 _; (with_reducible repeat (first | refine blk_drewN ?_ _ | refine blk_drew ?_ | refine blk_alloc ?_ _)); refine zP (cs := #[.bool t674, .string (⟨#[]⟩ : ByteArray), .string (⟨#[]⟩ : ByteArray)]) ?_ 1 _; (with_reducible repeat (first | refine blk_drewN ?_ _ | refine blk_drew ?_ | refine blk_alloc ?_ _)); refine zP (cs := #[.bool false, .string (⟨#[]⟩ : ByteArray), .string (⟨#[]⟩ : ByteArray)]) ?_ 0 _; (with_reducible repeat (first | refine blk_drewN ?_ _ | refine blk_drew ?_ | refine blk_alloc ?_ _)); exact BK678.out) hb); replace HB := zS HB hb; (try clear hb)) | ((with_reducible refine gate_dst (N := 14) rfl ?_); refine zY 14 #[.bool false, .string (⟨#[]⟩ : ByteArray), .string (⟨#[]⟩ : ByteArray)] 27 ?_; intro gb683 hg w75 hbox hb; have BK683 := Aside0.mk (hbox); have GW683 := zG hg HB; have GE683 := zG hg HB; obtain ⟨NB656_683, NB683_656⟩ := zQ hg BK656; obtain ⟨NB657_683, NB683_657⟩ := zQ hg BK657; obtain ⟨NB668_683, NB683_668⟩ := zQ hg BK668; obtain ⟨NB673_683, NB683_673⟩ := zQ hg BK673; obtain ⟨NB678_683, NB683_678⟩ := zQ hg BK678; obtain ⟨BK656, BK657, BK668, BK673, BK678⟩ := zB5 BK656 BK657 BK668 BK673 BK678 hb; replace HB := zS HB hb; clear hb hbox hg; have hnb76 := NB683_656.out; have hnc76 := NB656_683.out; have hnb77 := NB683_657.out; have hnc77 := NB657_683.out; have hnb78 := NB683_668.out; have hnc78 := NB668_683.out; have hnb79 := NB683_673.out; have hnc79 := NB673_683.out; have hnb80 := NB683_678.out; have hnc80 := NB678_683.out; obtain ⟨hcz81_0, hcz81_1, hcz81_2, hfz81_0, hfz81_1, hfz81_2⟩ := z3 BK683; obtain ⟨hcz82_0, hcz82_1, hcz82_2, hfz82_0, hfz82_1, hfz82_2⟩ := z3 BK656) | ((with_reducible refine gate_callee (f := 37) rfl ?_); refine zO Tryz.func37 (by kernel_rfl) (rat_Sign.calls kj2 a0_0 a0_1 a0_2 t684 t685 _ A26.out) fun w83 hb => ?_; obtain ⟨BK656, BK657, BK668, BK673, BK678⟩ := zB5 BK656 BK657 BK668 BK673 BK678 hb; replace BK683 := Aside0.mk (blk_below (g := gb683) (o := .cells #[.bool t679, .string t680, .string t681] 27 (0, 0)) (by (with_reducible repeat (first | refine blk_drewN ?_ _ | refine blk_drew ?_ | refine blk_alloc ?_ _)); refine zP (cs := #[.bool t679, .string t680, .string (⟨#[]⟩ : ByteArray)]) ?_ 2 _; (with_reducible repeat (first | refine blk_drewN ?_ _ | refine blk_drew ?_ | refine blk_alloc ?_ _)); refine zP (cs := #[.bool t679, .string (⟨#[]⟩ : ByteArray), .string (⟨#[]⟩ : ByteArray)]) ?_ 1 _; (with_reducible repeat (first | refine blk_drewN ?_ _ | refine blk_drew ?_ | refine blk_alloc ?_ _)); refine zP (cs := #[.bool false, .string (⟨#[]⟩ : ByteArray), .string (⟨#[]⟩ : ByteArray)]) ?_ 0 _; (with_reducible repeat (first | refine blk_drewN ?_ _ | refine blk_drew ?_ | refine blk_alloc ?_ _)); exact BK683.out) hb); replace HB := zS HB hb; (try clear hb); obtain ⟨hcz84_0, hcz84_1, hcz84_2, hfz84_0, hfz84_1, hfz84_2⟩ := z3 BK656) | ((with_reducible refine gate_callee (f := 40) rfl ?_); refine zO Tryz.func40 (by kernel_rfl) (rat_Print.calls kj2 a0_0 a0_1 a0_2 t686 t687 _ A27.out) fun w85 hb => ?_; obtain ⟨BK656, BK657, BK668, BK673, BK678, BK683⟩ := zB6 BK656 BK657 BK668 BK673 BK678 BK683 hb; replace HB := zS HB hb; (try clear hb); obtain ⟨hcz86_0, hcz86_1, hcz86_2, hfz86_0, hfz86_1, hfz86_2⟩ := z3 BK656) | ((with_reducible refine gate_callee (f := 20) rfl ?_); refine zO Tryz.func20 (by kernel_rfl) (rat_Decimal.calls kj2 a0_0 a0_1 a0_2 3 t688 t689 _ A28.out) fun w87 hb => ?_; obtain ⟨BK656, BK657, BK668, BK673, BK678, BK683⟩ := zB6 BK656 BK657 BK668 BK673 BK678 BK683 hb; replace HB := zS HB hb; (try clear hb); obtain ⟨hcz88_0, hcz88_1, hcz88_2, hfz88_0, hfz88_1, hfz88_2⟩ := z3 BK656) | ((with_reducible refine gate_callee (f := 19) rfl ?_); refine zO Tryz.func19 (by kernel_rfl) (gussetref03_Check.calls kj2 a0_0 a0_1 a0_2 t690 _ A29.out) fun w89 hb => ?_; obtain ⟨BK656, BK657, BK668, BK673, BK678, BK683⟩ := zB6 BK656 BK657 BK668 BK673 BK678 BK683 hb; replace HB := zS HB hb; (try clear hb); obtain ⟨hcz90_0, hcz90_1, hcz90_2, hfz90_0, hfz90_1, hfz90_2⟩ := z3 BK656) | ((with_reducible refine gate_callee (f := 41) rfl ?_); refine zO Tryz.func41 (by kernel_rfl) (rat_Check.calls kj2 a0_0 a0_1 a0_2 t691 _ A30.out) fun w91 hb => ?_; obtain ⟨BK656, BK657, BK668, BK673, BK678, BK683⟩ := zB6 BK656 BK657 BK668 BK673 BK678 BK683 hb; replace HB := zS HB hb; (try clear hb)) | (go_at_call 13; (with_reducible refine (gussetlaw03_live.calls kj2  t692 _ A40.out).mono ?_); rintro e w92 ⟨rfl, hb⟩; obtain ⟨BK656, BK657, BK668, BK673, BK678, BK683⟩ := zB6 BK656 BK657 BK668 BK673 BK678 BK683 hb; replace HB := zS HB hb; (try clear hb)))
             go_ret
             exact ⟨zH, zT HB⟩
            ·rw [if_neg c39] at H
             exact absurd H (by simp)
           ·rw [if_neg c38] at H
            exact absurd H (by simp)
          ·rw [if_neg c37] at H
           exact absurd H (by simp)
         ·rw [if_neg c36] at H
          have c36b0 := beq_eq_false_iff_ne.mpr c36
          have c36b1 := bne_iff_ne.mpr c36
          by_cases c93 : t661 = 0
          ·rw [if_pos c93] at H
           have c93b0 := beq_iff_eq.mpr c93
           have c93b1 := bne_eq_false_iff_eq.mpr c93
           clear c93
           by_cases c94 : t682 = 3
           ·rw [if_pos c94] at H
            have c94b0 := beq_iff_eq.mpr c94
            have c94b1 := bne_eq_false_iff_eq.mpr c94
            clear c94
            by_cases c95 : t685 = t690
            ·rw [if_pos c95] at H
             have c95b0 := beq_iff_eq.mpr c95
             have c95b1 := bne_eq_false_iff_eq.mpr c95
             clear c95
             by_cases c96 : t687 = t690
             ·rw [if_pos c96] at H
              have c96b0 := beq_iff_eq.mpr c96
              have c96b1 := bne_eq_false_iff_eq.mpr c96
              clear c96
              by_cases c97 : t689 = t690
              ·rw [if_pos c97] at H
               have c97b0 := beq_iff_eq.mpr c97
               have c97b1 := bne_eq_false_iff_eq.mpr c97
               clear c97
               obtain ⟨t693, A98, H⟩ := zo H
               obtain rfl := Option.some.inj H
               have hnb99 := NB656_657.out; have hnc99 := NB657_656.out; obtain ⟨hcz100_0, hcz100_1, hcz100_2, hfz100_0, hfz100_1, hfz100_2⟩ := z3 BK656; obtain ⟨hcz101_0, hcz101_1, hcz101_2, hfz101_0, hfz101_1, hfz101_2⟩ := z3 BK657
               go_wp2_with (first | ((with_reducible refine gate_callee (f := 39) rfl ?_); refine zO Tryz.func39 (by kernel_rfl) (gussetref03_Both.calls kj2 a0_0 a0_1 a0_2 a1_0 a1_1 a1_2 t661 _ A20.out) fun w102 hb => ?_; obtain ⟨BK656, BK657⟩ := zB2 BK656 BK657 hb; replace HB := zS HB hb; (try clear hb); obtain ⟨hcz103_0, hcz103_1, hcz103_2, hfz103_0, hfz103_1, hfz103_2⟩ := z3 BK656; obtain ⟨hcz104_0, hcz104_1, hcz104_2, hfz104_0, hfz104_1, hfz104_2⟩ := z3 BK657) | ((with_reducible refine gate_callee (f := 35) rfl ?_); refine zO Tryz.func35 (by kernel_rfl) (rat_Cmp.calls kj2 a0_0 a0_1 a0_2 a1_0 a1_1 a1_2 t662 t663 _ A21.out) fun w105 hb => ?_; obtain ⟨BK656, BK657⟩ := zB2 BK656 BK657 hb; replace HB := zS HB hb; (try clear hb); obtain ⟨hcz106_0, hcz106_1, hcz106_2, hfz106_0, hfz106_1, hfz106_2⟩ := z3 BK656; obtain ⟨hcz107_0, hcz107_1, hcz107_2, hfz107_0, hfz107_1, hfz107_2⟩ := z3 BK657) | ((with_reducible refine gate_callee (f := 34) rfl ?_); refine zO Tryz.func34 (by kernel_rfl) (rat_Add.calls kj2 a0_0 a0_1 a0_2 a1_0 a1_1 a1_2 t664 t665 t666 t667 _ A22.out) fun w108 hb => ?_; obtain ⟨BK656, BK657⟩ := zB2 BK656 BK657 hb; replace HB := zS HB hb; (try clear hb)) | ((with_reducible refine gate_dst (N := 8) rfl ?_); refine zY 8 #[.bool false, .string (⟨#[]⟩ : ByteArray), .string (⟨#[]⟩ : ByteArray)] 27 ?_; intro gb668 hg w109 hbox hb; have BK668 := Aside0.mk (hbox); have GW668 := zG hg HB; have GE668 := zG hg HB; obtain ⟨NB656_668, NB668_656⟩ := zQ hg BK656; obtain ⟨NB657_668, NB668_657⟩ := zQ hg BK657; obtain ⟨BK656, BK657⟩ := zB2 BK656 BK657 hb; replace HB := zS HB hb; clear hb hbox hg; have hnb110 := NB668_656.out; have hnc110 := NB656_668.out; have hnb111 := NB668_657.out; have hnc111 := NB657_668.out; obtain ⟨hcz112_0, hcz112_1, hcz112_2, hfz112_0, hfz112_1, hfz112_2⟩ := z3 BK668; obtain ⟨hcz113_0, hcz113_1, hcz113_2, hfz113_0, hfz113_1, hfz113_2⟩ := z3 BK656; obtain ⟨hcz114_0, hcz114_1, hcz114_2, hfz114_0, hfz114_1, hfz114_2⟩ := z3 BK657) | ((with_reducible refine gate_callee (f := 36) rfl ?_); refine zO Tryz.func36 (by kernel_rfl) (rat_Sub.calls kj2 a0_0 a0_1 a0_2 a1_0 a1_1 a1_2 t669 t670 t671 t672 _ A23.out) fun w115 hb => ?_; obtain ⟨BK656, BK657⟩ := zB2 BK656 BK657 hb; replace BK668 := Aside0.mk (blk_below (g := gb668) (o := .cells #[.bool t664, .string t665, .string t666] 27 (0, 0)) (by (with_reducible repeat (first | refine blk_drewN ?_ _ | refine blk_drew ?_ | refine blk_alloc ?_ _)); refine zP (cs := #[.bool t664, .string t665, .string (⟨#[]⟩ : ByteArray)]) ?_ 2 _; (with_reducible repeat (first | refine blk_drewN ?_ _ | refine blk_drew ?_ | refine blk_alloc ?_ _)); refine zP (cs := #[.bool t664, .string (⟨#[]⟩ : ByteArray), .string (⟨#[]⟩ : ByteArray)]) ?_ 1 _; (with_reducible repeat (first | refine blk_drewN ?_ _ | refine blk_drew ?_ | refine blk_alloc ?_ _)); refine zP (cs := #[.bool false, .string (⟨#[]⟩ : ByteArray), .string (⟨#[]⟩ : ByteArray)]) ?_ 0 _; (with_reducible repeat (first | refine blk_drewN ?_ _ | refine blk_drew ?_ | refine blk_alloc ?_ _)); exact BK668.out) hb); replace HB := zS HB hb; (try clear hb)) | ((with_reducible refine gate_dst (N := 10) rfl ?_); refine zY 10 #[.bool false, .string (⟨#[]⟩ : ByteArray), .string (⟨#[]⟩ : ByteArray)] 27 ?_; intro gb673 hg w116 hbox hb; have BK673 := Aside0.mk (hbox); have GW673 := zG hg HB; have GE673 := zG hg HB; obtain ⟨NB656_673, NB673_656⟩ := zQ hg BK656; obtain ⟨NB657_673, NB673_657⟩ := zQ hg BK657; obtain ⟨NB668_673, NB673_668⟩ := zQ hg BK668; obtain ⟨BK656, BK657, BK668⟩ := zB3 BK656 BK657 BK668 hb; replace HB := zS HB hb; clear hb hbox hg; have hnb117 := NB673_656.out; have hnc117 := NB656_673.out; have hnb118 := NB673_657.out; have hnc118 := NB657_673.out; have hnb119 := NB673_668.out; have hnc119 := NB668_673.out; obtain ⟨hcz120_0, hcz120_1, hcz120_2, hfz120_0, hfz120_1, hfz120_2⟩ := z3 BK673; obtain ⟨hcz121_0, hcz121_1, hcz121_2, hfz121_0, hfz121_1, hfz121_2⟩ := z3 BK656; obtain ⟨hcz122_0, hcz122_1, hcz122_2, hfz122_0, hfz122_1, hfz122_2⟩ := z3 BK657) | ((with_reducible refine gate_callee (f := 28) rfl ?_); refine zO Tryz.func28 (by kernel_rfl) (rat_Mul.calls kj2 a0_0 a0_1 a0_2 a1_0 a1_1 a1_2 t674 t675 t676 t677 _ A24.out) fun w123 hb => ?_; obtain ⟨BK656, BK657, BK668⟩ := zB3 BK656 BK657 BK668 hb; replace BK673 := Aside0.mk (blk_below (g := gb673) (o := .cells #[.bool t669, .string t670, .string t671] 27 (0, 0)) (by (with_reducible repeat (first | refine blk_drewN ?_ _ | refine blk_drew ?_ | refine blk_alloc ?_ _)); refine zP (cs := #[.bool t669, .string t670, .string (⟨#[]⟩ : ByteArray)]) ?_ 2 _; (with_reducible repeat (first | refine blk_drewN ?_ _ | refine blk_drew ?_ | refine blk_alloc ?_ _)); refine zP (cs := #[.bool t669, .string (⟨#[]⟩ : ByteArray), .string (⟨#[]⟩ : ByteArray)]) ?_ 1 _; (with_reducible repeat (first | refine blk_drewN ?_ _ | refine blk_drew ?_ | refine blk_alloc ?_ _)); refine zP (cs := #[.bool false, .string (⟨#[]⟩ : ByteArray), .string (⟨#[]⟩ : ByteArray)]) ?_ 0 _; (with_reducible repeat (first | refine blk_drewN ?_ _ | refine blk_drew ?_ | refine blk_alloc ?_ _)); exact BK673.out) hb); replace HB := zS HB hb; (try clear hb)) | ((with_reducible refine gate_dst (N := 12) rfl ?_); refine zY 12 #[.bool false, .string (⟨#[]⟩ : ByteArray), .string (⟨#[]⟩ : ByteArray)] 27 ?_; intro gb678 hg w124 hbox hb; have BK678 := Aside0.mk (hbox); have GW678 := zG hg HB; have GE678 := zG hg HB; obtain ⟨NB656_678, NB678_656⟩ := zQ hg BK656; obtain ⟨NB657_678, NB678_657⟩ := zQ hg BK657; obtain ⟨NB668_678, NB678_668⟩ := zQ hg BK668; obtain ⟨NB673_678, NB678_673⟩ := zQ hg BK673; obtain ⟨BK656, BK657, BK668, BK673⟩ := zB4 BK656 BK657 BK668 BK673 hb; replace HB := zS HB hb; clear hb hbox hg; have hnb125 := NB678_656.out; have hnc125 := NB656_678.out; have hnb126 := NB678_657.out; have hnc126 := NB657_678.out; have hnb127 := NB678_668.out; have hnc127 := NB668_678.out; have hnb128 := NB678_673.out; have hnc128 := NB673_678.out; obtain ⟨hcz129_0, hcz129_1, hcz129_2, hfz129_0, hfz129_1, hfz129_2⟩ := z3 BK678; obtain ⟨hcz130_0, hcz130_1, hcz130_2, hfz130_0, hfz130_1, hfz130_2⟩ := z3 BK656; obtain ⟨hcz131_0, hcz131_1, hcz131_2, hfz131_0, hfz131_1, hfz131_2⟩ := z3 BK657) | ((with_reducible refine gate_callee (f := 29) rfl ?_); refine zO Tryz.func29 (by kernel_rfl) (rat_Div.calls kj2 a0_0 a0_1 a0_2 a1_0 a1_1 a1_2 t679 t680 t681 t682 _ A25.out) fun w132 hb => ?_; obtain ⟨BK656, BK657, BK668, BK673⟩ := zB4 BK656 BK657 BK668 BK673 hb; replace BK678 := Aside0.mk (blk_below (g := gb678) (o := .cells #[.bool t674, .string t675, .string t676] 27 (0, 0)) (by (with_reducible repeat (first | refine blk_drewN ?_ _ | refine blk_drew ?_ | refine blk_alloc ?_ _)); refine zP (cs := #[.bool t674, .string t675, .string (⟨#[]⟩ : ByteArray)]) ?_ 2 _; (with_reducible repeat (first | refine blk_drewN ?_ _ | refine blk_drew ?_ | refine blk_alloc ?_ _)); refine zP (cs := #[.bool t674, .string (⟨#[]⟩ : ByteArray), .string (⟨#[]⟩ : ByteArray)]) ?_ 1 _; (with_reducible repeat (first | refine blk_drewN ?_ _ | refine blk_drew ?_ | refine blk_alloc ?_ _)); refine zP (cs := #[.bool false, .string (⟨#[]⟩ : ByteArray), .string (⟨#[]⟩ : ByteArray)]) ?_ 0 _; (with_reducible repeat (first | refine blk_drewN ?_ _ | refine blk_drew ?_ | refine blk_alloc ?_ _)); exact BK678.out) hb); replace HB := zS HB hb; (try clear hb)) | ((with_reducible refine gate_dst (N := 14) rfl ?_); refine zY 14 #[.bool false, .string (⟨#[]⟩ : ByteArray), .string (⟨#[]⟩ : ByteArray)] 27 ?_; intro gb683 hg w133 hbox hb; have BK683 := Aside0.mk (hbox); have GW683 := zG hg HB; have GE683 := zG hg HB; obtain ⟨NB656_683, NB683_656⟩ := zQ hg BK656; obtain ⟨NB657_683, NB683_657⟩ := zQ hg BK657; obtain ⟨NB668_683, NB683_668⟩ := zQ hg BK668; obtain ⟨NB673_683, NB683_673⟩ := zQ hg BK673; obtain ⟨NB678_683, NB683_678⟩ := zQ hg BK678; obtain ⟨BK656, BK657, BK668, BK673, BK678⟩ := zB5 BK656 BK657 BK668 BK673 BK678 hb; replace HB := zS HB hb; clear hb hbox hg; have hnb134 := NB683_656.out; have hnc134 := NB656_683.out; have hnb135 := NB683_657.out; have hnc135 := NB657_683.out; have hnb136 := NB683_668.out; have hnc136 := NB668_683.out; have hnb137 := NB683_673.out; have hnc137 := NB673_683.out; have hnb138 := NB683_678.out; have hnc138 := NB678_683.out; obtain ⟨hcz139_0, hcz139_1, hcz139_2, hfz139_0, hfz139_1, hfz139_2⟩ := z3 BK683; obtain ⟨hcz140_0, hcz140_1, hcz140_2, hfz140_0, hfz140_1, hfz140_2⟩ := z3 BK656) | ((with_reducible refine gate_callee (f := 37) rfl ?_); refine zO Tryz.func37 (by kernel_rfl) (rat_Sign.calls kj2 a0_0 a0_1 a0_2 t684 t685 _ A26.out) fun w141 hb => ?_; obtain ⟨BK656, BK657, BK668, BK673, BK678⟩ := zB5 BK656 BK657 BK668 BK673 BK678 hb; replace BK683 := Aside0.mk (blk_below (g := gb683) (o := .cells #[.bool t679, .string t680, .string t681] 27 (0, 0)) (by (with_reducible repeat (first | refine blk_drewN ?_ _ | refine blk_drew ?_ | refine blk_alloc ?_ _)); refine zP (cs := #[.bool t679, .string t680, .string (⟨#[]⟩ : ByteArray)]) ?_ 2 _; (with_reducible repeat (first | refine blk_drewN ?_ _ | refine blk_drew ?_ | refine blk_alloc ?_ _)); refine zP (cs := #[.bool t679, .string (⟨#[]⟩ : ByteArray), .string (⟨#[]⟩ : ByteArray)]) ?_ 1 _; (with_reducible repeat (first | refine blk_drewN ?_ _ | refine blk_drew ?_ | refine blk_alloc ?_ _)); refine zP (cs := #[.bool false, .string (⟨#[]⟩ : ByteArray), .string (⟨#[]⟩ : ByteArray)]) ?_ 0 _; (with_reducible repeat (first | refine blk_drewN ?_ _ | refine blk_drew ?_ | refine blk_alloc ?_ _)); exact BK683.out) hb); replace HB := zS HB hb; (try clear hb); obtain ⟨hcz142_0, hcz142_1, hcz142_2, hfz142_0, hfz142_1, hfz142_2⟩ := z3 BK656) | ((with_reducible refine gate_callee (f := 40) rfl ?_); refine zO Tryz.func40 (by kernel_rfl) (rat_Print.calls kj2 a0_0 a0_1 a0_2 t686 t687 _ A27.out) fun w143 hb => ?_; obtain ⟨BK656, BK657, BK668, BK673, BK678, BK683⟩ := zB6 BK656 BK657 BK668 BK673 BK678 BK683 hb; replace HB := zS HB hb; (try clear hb); obtain ⟨hcz144_0, hcz144_1, hcz144_2, hfz144_0, hfz144_1, hfz144_2⟩ := z3 BK656) | ((with_reducible refine gate_callee (f := 20) rfl ?_); refine zO Tryz.func20 (by kernel_rfl) (rat_Decimal.calls kj2 a0_0 a0_1 a0_2 3 t688 t689 _ A28.out) fun w145 hb => ?_; obtain ⟨BK656, BK657, BK668, BK673, BK678, BK683⟩ := zB6 BK656 BK657 BK668 BK673 BK678 BK683 hb; replace HB := zS HB hb; (try clear hb); obtain ⟨hcz146_0, hcz146_1, hcz146_2, hfz146_0, hfz146_1, hfz146_2⟩ := z3 BK656) | ((with_reducible refine gate_callee (f := 19) rfl ?_); refine zO Tryz.func19 (by kernel_rfl) (gussetref03_Check.calls kj2 a0_0 a0_1 a0_2 t690 _ A29.out) fun w147 hb => ?_; obtain ⟨BK656, BK657, BK668, BK673, BK678, BK683⟩ := zB6 BK656 BK657 BK668 BK673 BK678 BK683 hb; replace HB := zS HB hb; (try clear hb); obtain ⟨hcz148_0, hcz148_1, hcz148_2, hfz148_0, hfz148_1, hfz148_2⟩ := z3 BK656) | ((with_reducible refine gate_callee (f := 41) rfl ?_); refine zO Tryz.func41 (by kernel_rfl) (rat_Check.calls kj2 a0_0 a0_1 a0_2 t691 _ A30.out) fun w149 hb => ?_; obtain ⟨BK656, BK657, BK668, BK673, BK678, BK683⟩ := zB6 BK656 BK657 BK668 BK673 BK678 BK683 hb; replace HB := zS HB hb; (try clear hb)) | (go_at_call 13; (with_reducible refine (gussetlaw03_live.calls kj2  t693 _ A98.out).mono ?_); rintro e w150 ⟨rfl, hb⟩; obtain ⟨BK656, BK657, BK668, BK673, BK678, BK683⟩ := zB6 BK656 BK657 BK668 BK673 BK678 BK683 hb; replace HB := zS HB hb; (try clear hb)))
               go_ret
               exact ⟨zH, zT HB⟩
              ·rw [if_neg c97] at H
               exact absurd H (by simp)
             ·rw [if_neg c96] at H
              exact absurd H (by simp)
            ·rw [if_neg c95] at H
             exact absurd H (by simp)
           ·rw [if_neg c94] at H
            exact absurd H (by simp)
          ·rw [if_neg c93] at H
           exact absurd H (by simp)
        ·rw [if_neg c35] at H
         exact absurd H (by simp)
       ·rw [if_neg c34] at H
        exact absurd H (by simp)
      ·rw [if_neg c33] at H
       exact absurd H (by simp)
     ·rw [if_neg c32] at H
      exact absurd H (by simp)
    ·rw [if_neg c31] at H
     exact absurd H (by simp)

end Go.Proofs.YtoijlbcbbblbfaaGreatDoorH.R
