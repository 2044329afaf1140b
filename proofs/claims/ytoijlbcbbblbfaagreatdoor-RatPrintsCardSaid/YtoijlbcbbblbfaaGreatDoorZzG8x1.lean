import Derived.Test.YtoijlbcbbblbfaaGreatDoorZzG0x0
import Derived.Test.YtoijlbcbbblbfaaGreatDoorZzG8x0
import Derived.Test.YtoijlbcbbblbfaaGreatDoorZzRf
import Derived.Test.YtoijlbcbbblbfaaGreatDoorZzG0x1
-- printed by hp.py, sq3
namespace Go.Proofs.YtoijlbcbbblbfaaGreatDoorH.R
open Go.RowKit Go.Proofs.YtoijlbcbbblbfaaGreatDoorH.Z Go.Proofs.YtoijlbcbbblbfaaGreatDoorW.PrintWords Go.Proofs.YtoijlbcbbblbfaaGreatDoorW.PrintLast Go.Proofs.YtoijlbcbbblbfaaGreatDoorW.PrintMore
attribute [local go_sem] max2_int min2_int max_two min_two max_three min_three max_four min_four   -- for this text's walks alone
set_option linter.unusedVariables false
set_option linter.unusedSimpArgs false

/-! ### gussetlaw03_fine: function 27 -/
def gussetlaw03_fine.f (k : Nat) (a0_0 : Bool) (a0_1 : ByteArray) (a0_2 : ByteArray) (a1_0 : Bool) (a1_1 : ByteArray) (a1_2 : ByteArray) : Option (Bool) := (gussetlaw03_small.f a0_0 a0_1 a0_2).bind fun t394 => (if t394 = true then ((gussetlaw03_small.f a1_0 a1_1 a1_2).bind fun t395 => (if t395 = true then ((gussetref03_Both.f k a0_0 a0_1 a0_2 a1_0 a1_1 a1_2).bind fun t396 => (some (t396 == 0))) else (some false))) else (some false))
set_option maxHeartbeats 8000000 in
set_option maxRecDepth 100000 in
theorem gussetlaw03_fine.calls (k : Nat) (a0_0 : Bool) (a0_1 : ByteArray) (a0_2 : ByteArray) (a1_0 : Bool) (a1_1 : ByteArray) (a1_2 : ByteArray) (r : Bool) (w : World) (h : gussetlaw03_fine.f k a0_0 a0_1 a0_2 a1_0 a1_1 a1_2 = some r) :
  Calls Tryz.prog 27 #[.agg #[.bool a0_0, .string a0_1, .string a0_2], .agg #[.bool a1_0, .string a1_1, .string a1_2]] w fun e w' => e = .returned (.bool r) ∧ Below w.heap.size w w' := by
 have hu27 := Tryz.underlying27
 have HB := Aside0.mk (Below.refl w.heap.size w)
 unfold gussetlaw03_fine.f at h; have H := h; clear h
 obtain ⟨t394, A3, H⟩ := zo H
 by_cases c4 : t394 = true
 ·subst c4
  rw [if_pos rfl] at H
  obtain ⟨t395, A5, H⟩ := zo H
  by_cases c6 : t395 = true
  ·subst c6
   rw [if_pos rfl] at H
   obtain ⟨t396, A7, H⟩ := zo H
   obtain rfl := Option.some.inj H
   go_enter Tryz.func27, Tryz.ntmps27
   go_wp2_with (first | ((with_reducible refine gate_dst (N := 2) rfl ?_); refine zY 2 #[.bool a0_0, .string a0_1, .string a0_2] 27 ?_; intro gb392 hg w8 hbox hb; have BK392 := Aside0.mk (hbox); have GW392 := zG hg HB; have GE392 := zG hg HB; replace HB := zS HB hb; clear hb hbox hg) | ((with_reducible refine gate_dst (N := 3) rfl ?_); refine zY 3 #[.bool a1_0, .string a1_1, .string a1_2] 27 ?_; intro gb393 hg w9 hbox hb; have BK393 := Aside0.mk (hbox); have GW393 := zG hg HB; have GE393 := zG hg HB; obtain ⟨NB392_393, NB393_392⟩ := zQ hg BK392; replace BK392 := zB BK392 hb; replace HB := zS HB hb; clear hb hbox hg; have hnb10 := NB392_393.out; have hnc10 := NB393_392.out; obtain ⟨hcz11_0, hcz11_1, hcz11_2, hfz11_0, hfz11_1, hfz11_2⟩ := z3 BK392) | ((with_reducible refine gate_callee (f := 33) rfl ?_); refine zO Tryz.func33 (by kernel_rfl) (gussetlaw03_small.calls a0_0 a0_1 a0_2 true _ A3.out) fun w12 hb => ?_; obtain ⟨BK392, BK393⟩ := zB2 BK392 BK393 hb; replace HB := zS HB hb; (try clear hb); obtain ⟨hcz13_0, hcz13_1, hcz13_2, hfz13_0, hfz13_1, hfz13_2⟩ := z3 BK393) | (go_at_call 33; (with_reducible refine (gussetlaw03_small.calls a1_0 a1_1 a1_2 true _ A5.out).mono ?_); rintro e w14 ⟨rfl, hb⟩; obtain ⟨BK392, BK393⟩ := zB2 BK392 BK393 hb; replace HB := zS HB hb; (try clear hb); obtain ⟨hcz15_0, hcz15_1, hcz15_2, hfz15_0, hfz15_1, hfz15_2⟩ := z3 BK392; obtain ⟨hcz16_0, hcz16_1, hcz16_2, hfz16_0, hfz16_1, hfz16_2⟩ := z3 BK393) | (go_at_call 39; (with_reducible refine (gussetref03_Both.calls k a0_0 a0_1 a0_2 a1_0 a1_1 a1_2 t396 _ A7.out).mono ?_); rintro e w17 ⟨rfl, hb⟩; obtain ⟨BK392, BK393⟩ := zB2 BK392 BK393 hb; replace HB := zS HB hb; (try clear hb)))
   go_ret
   exact ⟨zH, zT HB⟩
  ·replace c6 := Bool.eq_false_iff.mpr c6
   subst c6
   rw [if_neg zn] at H
   obtain rfl := Option.some.inj H
   go_enter Tryz.func27, Tryz.ntmps27
   go_wp2_with (first | ((with_reducible refine gate_dst (N := 2) rfl ?_); refine zY 2 #[.bool a0_0, .string a0_1, .string a0_2] 27 ?_; intro gb392 hg w18 hbox hb; have BK392 := Aside0.mk (hbox); have GW392 := zG hg HB; have GE392 := zG hg HB; replace HB := zS HB hb; clear hb hbox hg) | ((with_reducible refine gate_dst (N := 3) rfl ?_); refine zY 3 #[.bool a1_0, .string a1_1, .string a1_2] 27 ?_; intro gb393 hg w19 hbox hb; have BK393 := Aside0.mk (hbox); have GW393 := zG hg HB; have GE393 := zG hg HB; obtain ⟨NB392_393, NB393_392⟩ := zQ hg BK392; replace BK392 := zB BK392 hb; replace HB := zS HB hb; clear hb hbox hg; have hnb20 := NB392_393.out; have hnc20 := NB393_392.out; obtain ⟨hcz21_0, hcz21_1, hcz21_2, hfz21_0, hfz21_1, hfz21_2⟩ := z3 BK392) | ((with_reducible refine gate_callee (f := 33) rfl ?_); refine zO Tryz.func33 (by kernel_rfl) (gussetlaw03_small.calls a0_0 a0_1 a0_2 true _ A3.out) fun w22 hb => ?_; obtain ⟨BK392, BK393⟩ := zB2 BK392 BK393 hb; replace HB := zS HB hb; (try clear hb); obtain ⟨hcz23_0, hcz23_1, hcz23_2, hfz23_0, hfz23_1, hfz23_2⟩ := z3 BK393) | (go_at_call 33; (with_reducible refine (gussetlaw03_small.calls a1_0 a1_1 a1_2 false _ A5.out).mono ?_); rintro e w24 ⟨rfl, hb⟩; obtain ⟨BK392, BK393⟩ := zB2 BK392 BK393 hb; replace HB := zS HB hb; (try clear hb)))
   go_ret
   exact ⟨zH, zT HB⟩
 ·replace c4 := Bool.eq_false_iff.mpr c4
  subst c4
  rw [if_neg zn] at H
  obtain rfl := Option.some.inj H
  go_enter Tryz.func27, Tryz.ntmps27
  go_wp2_with (first | ((with_reducible refine gate_dst (N := 2) rfl ?_); refine zY 2 #[.bool a0_0, .string a0_1, .string a0_2] 27 ?_; intro gb392 hg w25 hbox hb; have BK392 := Aside0.mk (hbox); have GW392 := zG hg HB; have GE392 := zG hg HB; replace HB := zS HB hb; clear hb hbox hg) | ((with_reducible refine gate_dst (N := 3) rfl ?_); refine zY 3 #[.bool a1_0, .string a1_1, .string a1_2] 27 ?_; intro gb393 hg w26 hbox hb; have BK393 := Aside0.mk (hbox); have GW393 := zG hg HB; have GE393 := zG hg HB; obtain ⟨NB392_393, NB393_392⟩ := zQ hg BK392; replace BK392 := zB BK392 hb; replace HB := zS HB hb; clear hb hbox hg; have hnb27 := NB392_393.out; have hnc27 := NB393_392.out; obtain ⟨hcz28_0, hcz28_1, hcz28_2, hfz28_0, hfz28_1, hfz28_2⟩ := z3 BK392) | ((with_reducible refine gate_callee (f := 33) rfl ?_); refine zO Tryz.func33 (by kernel_rfl) (gussetlaw03_small.calls a0_0 a0_1 a0_2 false _ A3.out) fun w29 hb => ?_; obtain ⟨BK392, BK393⟩ := zB2 BK392 BK393 hb; replace HB := zS HB hb; (try clear hb)))
  go_ret
  exact ⟨zH, zT HB⟩


/-! ### gussetref02_Text: function 66 -/
open Go.Proofs.YtoijlbcbbblbfaaGreatDoor Go.Proofs.YtoijlbcbbblbfaaGreatDoor.Num in
def gussetref02_Text.f (a0_0 : Bool) (a0_1 : ByteArray) : Option (ByteArray) := if a0_1.size ≤ 1000 ∧ chk a0_0 a0_1 = 0 then some ((⟨(textL a0_0 (nv a0_1).toNat).toArray⟩ : ByteArray)) else none
open Go.Proofs.YtoijlbcbbblbfaaGreatDoor Go.Proofs.YtoijlbcbbblbfaaGreatDoor.Num in
theorem gussetref02_Text.calls (a0_0 : Bool) (a0_1 : ByteArray) (r : ByteArray) (w : World) (h : gussetref02_Text.f a0_0 a0_1 = some r) :
  Calls Tryz.prog 66 #[.agg #[.bool a0_0, .string a0_1]] w fun e w' => e = .returned (.string r) ∧ Below w.heap.size w w' := by
 unfold gussetref02_Text.f at h
 split at h
 ·rename_i hc
  obtain rfl := Option.some.inj h
  exact text_r _ _ hc.1 (chk_ok.1 hc.2) w
 ·exact absurd h (by simp)



/-! ### gussetref03_Text: function 44 -/
def gussetref03_Text.f (a0_0 : Bool) (a0_1 : ByteArray) (a0_2 : ByteArray) : Option (ByteArray) := (gussetref02_Text.f a0_0 a0_1).bind fun t698 => (if a0_2.toList = ([1] : List UInt8) then (some t698) else (if t698.size + 1 ≤ 9223372036854775807 then ((gussetref03_den.f a0_0 a0_1 a0_2).bind fun bt699 => ((gussetref02_Text.f bt699.1 bt699.2).bind fun t701 => (if (t698 ++ (⟨#[47]⟩ : ByteArray)).size + t701.size ≤ 9223372036854775807 then (some ((t698 ++ (⟨#[47]⟩ : ByteArray)) ++ t701)) else (none)))) else (none)))
set_option maxHeartbeats 8000000 in
set_option maxRecDepth 100000 in
theorem gussetref03_Text.calls (a0_0 : Bool) (a0_1 : ByteArray) (a0_2 : ByteArray) (r : ByteArray) (w : World) (h : gussetref03_Text.f a0_0 a0_1 a0_2 = some r) :
  Calls Tryz.prog 44 #[.agg #[.bool a0_0, .string a0_1, .string a0_2]] w fun e w' => e = .returned (.string r) ∧ Below w.heap.size w w' := by
 have hu27 := Tryz.underlying27
 have hu24 := Tryz.underlying24; have hf0 := zf240; have hf1 := zf241; have hf2 := zf270; have hf3 := zf271
 have HB := Aside0.mk (Below.refl w.heap.size w)
 unfold gussetref03_Text.f at h; have H := h; clear h
 obtain ⟨t698, A2, H⟩ := zo H
 by_cases c3 : a0_2.toList = ([1] : List UInt8)
 ·rw [if_pos c3] at H
  have c3b0 := beq_iff_eq.mpr c3
  have c3b1 := bne_eq_false_iff_eq.mpr c3
  clear c3
  obtain rfl := Option.some.inj H
  go_enter Tryz.func44, Tryz.ntmps44
  go_wp2_with (first | ((with_reducible refine gate_dst (N := 1) rfl ?_); refine zY 1 #[.bool a0_0, .string a0_1, .string a0_2] 27 ?_; intro gb697 hg w4 hbox hb; have BK697 := Aside0.mk (hbox); have GW697 := zG hg HB; have GE697 := zG hg HB; replace HB := zS HB hb; clear hb hbox hg; obtain ⟨hcz5_0, hcz5_1, hcz5_2, hfz5_0, hfz5_1, hfz5_2⟩ := z3 BK697) | ((with_reducible refine gate_callee (f := 66) rfl ?_); refine zO Tryz.func66 (by kernel_rfl) (gussetref02_Text.calls a0_0 a0_1 t698 _ A2.out) fun w6 hb => ?_; replace BK697 := zB BK697 hb; replace HB := zS HB hb; (try clear hb); obtain ⟨hcz7_0, hcz7_1, hcz7_2, hfz7_0, hfz7_1, hfz7_2⟩ := z3 BK697))
  go_ret
  exact ⟨zH, zT HB⟩
 ·rw [if_neg c3] at H
  have c3b0 := beq_eq_false_iff_ne.mpr c3
  have c3b1 := bne_iff_ne.mpr c3
  by_cases c8 : t698.size + 1 ≤ 9223372036854775807
  ·rw [if_pos c8] at H
   have c8b0 := eq_true c8
   have c8b1 := decide_eq_true c8
   try have c8b2 : (9223372036854775807 < t698.size + 1) = False := eq_false (Nat.not_lt.2 c8)
   obtain ⟨⟨t699, t700⟩, A9, H⟩ := zo H; try dsimp only at H
   obtain ⟨t701, A10, H⟩ := zo H
   by_cases c11 : (t698 ++ (⟨#[47]⟩ : ByteArray)).size + t701.size ≤ 9223372036854775807
   ·rw [if_pos c11] at H
    have c11b0 := eq_true c11
    have c11b1 := decide_eq_true c11
    try have c11b2 : (9223372036854775807 < (t698 ++ (⟨#[47]⟩ : ByteArray)).size + t701.size) = False := eq_false (Nat.not_lt.2 c11)
    try have c11b3 : (9223372036854775807 < t698.size + 1 + t701.size) = False := eq_false (by have h := c11; rw [ByteArray.size_append, show (⟨#[47]⟩ : ByteArray).size = 1 from rfl] at h; omega)
    obtain rfl := Option.some.inj H
    go_enter Tryz.func44, Tryz.ntmps44
    go_wp2_with (first | ((with_reducible refine gate_dst (N := 1) rfl ?_); refine zY 1 #[.bool a0_0, .string a0_1, .string a0_2] 27 ?_; intro gb697 hg w12 hbox hb; have BK697 := Aside0.mk (hbox); have GW697 := zG hg HB; have GE697 := zG hg HB; replace HB := zS HB hb; clear hb hbox hg; obtain ⟨hcz13_0, hcz13_1, hcz13_2, hfz13_0, hfz13_1, hfz13_2⟩ := z3 BK697) | ((with_reducible refine gate_callee (f := 66) rfl ?_); refine zO Tryz.func66 (by kernel_rfl) (gussetref02_Text.calls a0_0 a0_1 t698 _ A2.out) fun w14 hb => ?_; replace BK697 := zB BK697 hb; replace HB := zS HB hb; (try clear hb); obtain ⟨hcz15_0, hcz15_1, hcz15_2, hfz15_0, hfz15_1, hfz15_2⟩ := z3 BK697) | ((with_reducible refine gate_callee (f := 56) rfl ?_); refine zO Tryz.func56 (by kernel_rfl) (gussetref03_den.calls a0_0 a0_1 a0_2 t699 t700 _ A9.out) fun w16 hb => ?_; replace BK697 := zB BK697 hb; replace HB := zS HB hb; (try clear hb)) | ((with_reducible refine gate_callee (f := 66) rfl ?_); refine zO Tryz.func66 (by kernel_rfl) (gussetref02_Text.calls t699 t700 t701 _ A10.out) fun w17 hb => ?_; replace BK697 := zB BK697 hb; replace HB := zS HB hb; (try clear hb)))
    go_ret
    exact ⟨zH, zT HB⟩
   ·rw [if_neg c11] at H
    exact absurd H (by simp)
  ·rw [if_neg c8] at H
   exact absurd H (by simp)


attribute [local go_sem high] eqA27
/-! ### gussetlaw03_RatPrints: function 12 -/
def gussetlaw03_RatPrints.j0 : Nat → Bool → Bool → ByteArray → ByteArray → Option (Bool)
 | 0, _, _, _, _ => none
 | k + 1, x22, x719000, x719001, x719002 => if x22 = true then ((gussetlaw03_live.f k).bind fun t720 => (some t720)) else ((rat_Print.f k x719000 x719001 x719002).bind fun bt721 => ((rat_Parse.f k bt721.1).bind fun bt723 => (if bt721.2 = 0 then ((gussetref03_Text.f x719000 x719001 x719002).bind fun t728 => (if bt721.1.toList = t728.toList then (if bt723.2.2.2 = 0 then (if ((x719000 == bt723.1 && (x719001.toList == bt723.2.1.toList)) && (x719002.toList == bt723.2.2.1.toList)) = true then ((gussetlaw03_live.f k).bind fun t729 => (some t729)) else (none)) else (none)) else (none))) else (none))))
def gussetlaw03_RatPrints.f (k : Nat) (a0_0 : Bool) (a0_1 : ByteArray) (a0_2 : ByteArray) : Option (Bool) := if (a0_1.size : Int) > 24 then (gussetlaw03_RatPrints.j0 k true a0_0 a0_1 a0_2) else (if (a0_2.size : Int) > 24 then (gussetlaw03_RatPrints.j0 k true a0_0 a0_1 a0_2) else ((gussetref03_Check.f k a0_0 a0_1 a0_2).bind fun t719 => (gussetlaw03_RatPrints.j0 k (t719 != 0) a0_0 a0_1 a0_2)))
set_option maxHeartbeats 8000000 in
set_option maxRecDepth 100000 in
theorem gussetlaw03_RatPrints.calls (k : Nat) (a0_0 : Bool) (a0_1 : ByteArray) (a0_2 : ByteArray) (r : Bool) (w : World) (h : gussetlaw03_RatPrints.f k a0_0 a0_1 a0_2 = some r) :
  Calls Tryz.prog 12 #[.agg #[.bool a0_0, .string a0_1, .string a0_2]] w fun e w' => e = .returned (.bool r) ∧ Below w.heap.size w w' := by
 have hu27 := Tryz.underlying27
 have HB := Aside0.mk (Below.refl w.heap.size w)
 unfold gussetlaw03_RatPrints.f at h; have H := h; clear h
 have HC2 := Aside0.mk H
 clear H
 go_enter Tryz.func12, Tryz.ntmps12
 go_upto_region 1 with (first | ((with_reducible refine gate_dst (N := 1) rfl ?_); (try (refine gate_guard (by rfl) ?_; dsimp only)); refine zY 1 #[.bool a0_0, .string a0_1, .string a0_2] 27 ?_; intro gb718 hg w3 hbox hb; have BK718 := Aside0.mk (hbox); have GW718 := zG hg HB; have GE718 := zG hg HB; replace HB := zS HB hb; clear hb hbox hg))
 (try simp only [Act.put, List.setIfInBounds_toArray, List.set_cons_zero, List.set_cons_succ])
 go_cut [22] (fun v22 wc => ∃ (kq : Nat) (x22_1 : Bool), v22 = .bool x22_1 ∧ Aside0 (gussetlaw03_RatPrints.j0 kq x22_1 a0_0 a0_1 a0_2 = some r) ∧ Aside0 (kq ≤ k) ∧ Aside0 (wc.heap[gb718]? = some (.cells #[.bool a0_0, .string a0_1, .string a0_2] 27 (0, 0))) ∧ Aside0 (Below w.heap.size w wc))
 case first =>
  have H := HC2.out
  clear HC2
  by_cases c4 : (a0_1.size : Int) > 24
  ·rw [if_pos c4] at H
   have c4b0 := decide_eq_true c4
   have c4b1 : decide (24 < a0_1.size) = true := decide_eq_true (by omega)
   clear c4
   (first | rw [c4b0] | (simp only [i64_w, i32_w]; rw [c4b0]) | skip)
   have H' := Aside0.mk H
   clear H; obtain ⟨hcz5_0, hcz5_1, hcz5_2, hfz5_0, hfz5_1, hfz5_2⟩ := z3 BK718
   go_wp2
   go_meet
   case rel => exact ⟨_, (true), zR, H', zL, zK BK718, ⟨zT HB⟩⟩
  ·rw [if_neg c4] at H
   have c4b0 := decide_eq_false c4
   have c4b1 : decide (24 < a0_1.size) = false := decide_eq_false (by omega)
   clear c4
   (first | rw [c4b0] | (simp only [i64_w, i32_w]; rw [c4b0]) | skip)
   by_cases c6 : (a0_2.size : Int) > 24
   ·rw [if_pos c6] at H
    have c6b0 := decide_eq_true c6
    have c6b1 : decide (24 < a0_2.size) = true := decide_eq_true (by omega)
    clear c6
    have H' := Aside0.mk H
    clear H; obtain ⟨hcz7_0, hcz7_1, hcz7_2, hfz7_0, hfz7_1, hfz7_2⟩ := z3 BK718
    go_wp2
    go_meet
    case rel => exact ⟨_, (true), zR, H', zL, zK BK718, ⟨zT HB⟩⟩
   ·rw [if_neg c6] at H
    have c6b0 := decide_eq_false c6
    have c6b1 : decide (24 < a0_2.size) = false := decide_eq_false (by omega)
    clear c6
    obtain ⟨t719, A8, H⟩ := zo H
    have H' := Aside0.mk H
    clear H; obtain ⟨hcz9_0, hcz9_1, hcz9_2, hfz9_0, hfz9_1, hfz9_2⟩ := z3 BK718
    go_wp2_with (first | (go_at_call 19; (with_reducible refine (gussetref03_Check.calls k a0_0 a0_1 a0_2 t719 _ A8.out).mono ?_); rintro e w10 ⟨rfl, hb⟩; replace BK718 := zB BK718 hb; replace HB := zS HB hb; (try clear hb)))
    go_meet
    case rel => exact ⟨_, ((t719 != 0)), zR, H', zL, zK BK718, ⟨zT HB⟩⟩
 case rest =>
  clear HC2
  try clear c1; try clear p2; try clear c4; try clear c4b0; try clear c4b1; try clear c6; try clear c6b0; try clear c6b1; try clear hcz5_0; try clear hcz5_1; try clear hcz5_2; try clear hcz7_0; try clear hcz7_1; try clear hcz7_2; try clear hcz9_0; try clear hcz9_1; try clear hcz9_2; try clear hfz5_0; try clear hfz5_1; try clear hfz5_2; try clear hfz7_0; try clear hfz7_1; try clear hfz7_2; try clear hfz9_0; try clear hfz9_1; try clear hfz9_2
  obtain ⟨kq, x22_1, rfl, HA, HJ1, BK718, HB⟩ := hcut
  cases kq with
  | zero => exact absurd HA.out (by simp [gussetlaw03_RatPrints.j0])
  | succ kj1 =>
   have H := HA.out
   clear HA
   simp only [gussetlaw03_RatPrints.j0] at H
   by_cases c11 : x22_1 = true
   ·subst c11
    rw [if_pos rfl] at H
    obtain ⟨t720, A12, H⟩ := zo H
    obtain rfl := Option.some.inj H
    go_wp2_with (first | ((with_reducible refine gate_callee (f := 13) rfl ?_); refine zO Tryz.func13 (by kernel_rfl) (gussetlaw03_live.calls kj1  t720 _ A12.out) fun w13 hb => ?_; replace BK718 := zB BK718 hb; replace HB := zS HB hb; (try clear hb)))
    go_ret
    exact ⟨zH, zT HB⟩
   ·replace c11 := Bool.eq_false_iff.mpr c11
    subst c11
    rw [if_neg zn] at H
    obtain ⟨⟨t721, t722⟩, A14, H⟩ := zo H; try dsimp only at H
    obtain ⟨⟨t723, t724, t725, t726⟩, A15, H⟩ := zo H; try dsimp only at H
    by_cases c16 : t722 = 0
    ·rw [if_pos c16] at H
     have c16b0 := beq_iff_eq.mpr c16
     have c16b1 := bne_eq_false_iff_eq.mpr c16
     clear c16
     obtain ⟨t728, A17, H⟩ := zo H
     by_cases c18 : t721.toList = t728.toList
     ·rw [if_pos c18] at H
      have c18b0 := beq_iff_eq.mpr c18
      have c18b1 := bne_eq_false_iff_eq.mpr c18
      clear c18
      by_cases c19 : t726 = 0
      ·rw [if_pos c19] at H
       have c19b0 := beq_iff_eq.mpr c19
       have c19b1 := bne_eq_false_iff_eq.mpr c19
       clear c19
       by_cases c20 : ((a0_0 == t723 && (a0_1.toList == t724.toList)) && (a0_2.toList == t725.toList)) = true
       ·rw [if_pos c20] at H
        have c20b0 : ((a0_0 == t723 && (a0_1.toList == t724.toList)) && (a0_2.toList == t725.toList)) = true := c20
        clear c20
        obtain ⟨t729, A21, H⟩ := zo H
        obtain rfl := Option.some.inj H
        obtain ⟨hcz22_0, hcz22_1, hcz22_2, hfz22_0, hfz22_1, hfz22_2⟩ := z3 BK718
        go_wp2_with (first | ((with_reducible refine gate_callee (f := 40) rfl ?_); refine zO Tryz.func40 (by kernel_rfl) (rat_Print.calls kj1 a0_0 a0_1 a0_2 t721 t722 _ A14.out) fun w23 hb => ?_; replace BK718 := zB BK718 hb; replace HB := zS HB hb; (try clear hb)) | ((with_reducible refine gate_callee (f := 42) rfl ?_); refine zO Tryz.func42 (by kernel_rfl) (rat_Parse.calls kj1 t721 t723 t724 t725 t726 _ A15.out) fun w24 hb => ?_; replace BK718 := zB BK718 hb; replace HB := zS HB hb; (try clear hb)) | ((with_reducible refine gate_dst (N := 5) rfl ?_); (try (refine gate_guard (by rfl) ?_; dsimp only)); refine zY 5 #[.bool false, .string (⟨#[]⟩ : ByteArray), .string (⟨#[]⟩ : ByteArray)] 27 ?_; intro gb727 hg w25 hbox hb; have BK727 := Aside0.mk (hbox); have GW727 := zG hg HB; have GE727 := zG hg HB; obtain ⟨NB718_727, NB727_718⟩ := zQ hg BK718; replace BK718 := zB BK718 hb; replace HB := zS HB hb; clear hb hbox hg; have hnb26 := NB727_718.out; have hnc26 := NB718_727.out; obtain ⟨hcz27_0, hcz27_1, hcz27_2, hfz27_0, hfz27_1, hfz27_2⟩ := z3 BK727; obtain ⟨hcz28_0, hcz28_1, hcz28_2, hfz28_0, hfz28_1, hfz28_2⟩ := z3 BK718) | (go_at_call 44; (with_reducible refine (gussetref03_Text.calls a0_0 a0_1 a0_2 t728 _ A17.out).mono ?_); rintro e w29 ⟨rfl, hb⟩; replace BK718 := zB BK718 hb; replace BK727 := Aside0.mk (blk_below (g := gb727) (o := .cells #[.bool t723, .string t724, .string t725] 27 (0, 0)) (by (with_reducible repeat (first | refine blk_drewN ?_ _ | refine blk_drew ?_ | refine blk_alloc ?_ _)); refine zP (cs := #[.bool t723, .string t724, .string (⟨#[]⟩ : ByteArray)]) ?_ 2 _; (with_reducible repeat (first | refine blk_drewN ?_ _ | refine blk_drew ?_ | refine blk_alloc ?_ _)); refine zP (cs := #[.bool t723, .string (⟨#[]⟩ : ByteArray), .string (⟨#[]⟩ : ByteArray)]) ?_ 1 _; (with_reducible repeat (first | refine blk_drewN ?_ _ | refine blk_drew ?_ | refine blk_alloc ?_ _)); refine zP (cs := #[.bool false, .string (⟨#[]⟩ : ByteArray), .string (⟨#[]⟩ : ByteArray)]) ?_ 0 _; (with_reducible repeat (first | refine blk_drewN ?_ _ | refine blk_drew ?_ | refine blk_alloc ?_ _)); exact BK727.out) hb); replace HB := zS HB hb; (try clear hb); obtain ⟨hcz30_0, hcz30_1, hcz30_2, hfz30_0, hfz30_1, hfz30_2⟩ := z3 BK718; obtain ⟨hcz31_0, hcz31_1, hcz31_2, hfz31_0, hfz31_1, hfz31_2⟩ := z3 BK727) | (go_at_call 13; (with_reducible refine (gussetlaw03_live.calls kj1  t729 _ A21.out).mono ?_); rintro e w32 ⟨rfl, hb⟩; obtain ⟨BK718, BK727⟩ := zB2 BK718 BK727 hb; replace HB := zS HB hb; (try clear hb)))
        go_ret
        exact ⟨zH, zT HB⟩
       ·rw [if_neg c20] at H
        exact absurd H (by simp)
      ·rw [if_neg c19] at H
       exact absurd H (by simp)
     ·rw [if_neg c18] at H
      exact absurd H (by simp)
    ·rw [if_neg c16] at H
     exact absurd H (by simp)

end Go.Proofs.YtoijlbcbbblbfaaGreatDoorH.R
