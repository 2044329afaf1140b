import Derived.Test.YtoijlbcbbblbfaaGreatDoorZzG0x0
import Derived.Test.YtoijlbcbbblbfaaGreatDoorZzG0x1
import Derived.Test.YtoijlbcbbblbfaaGreatDoorZzG8x0
import Derived.Test.YtoijlbcbbblbfaaGreatDoorZzG8x1
-- printed by hp.py, sq3
namespace Go.Proofs.YtoijlbcbbblbfaaGreatDoorH.R
open Go.RowKit Go.Proofs.YtoijlbcbbblbfaaGreatDoorH.Z Go.Proofs.YtoijlbcbbblbfaaGreatDoorW.PrintWords Go.Proofs.YtoijlbcbbblbfaaGreatDoorW.PrintLast Go.Proofs.YtoijlbcbbblbfaaGreatDoorW.PrintMore
attribute [local go_sem] max2_int min2_int max_two min_two max_three min_three max_four min_four   -- for this text's walks alone
set_option linter.unusedVariables false
set_option linter.unusedSimpArgs false

/-! ### gussetlaw03_RatNear: function 5 -/
mutual
def gussetlaw03_RatNear.j0 : Nat → Int → Bool → Bool → ByteArray → ByteArray → Option (Bool)
 | 0, _, _, _, _, _ => none
 | k + 1, x1, x39, x352000, x352001, x352002 => if x39 = true then ((gussetlaw03_live.f k).bind fun t353 => (some t353)) else ((rat_Decimal.f k x352000 x352001 x352002 x1).bind fun bt354 => (if bt354.2 = 0 then (gussetlaw03_RatNear.j1 k x1 bt354.1 (bt354.1.toList == ([] : List UInt8)) x352000 x352001 x352002) else (gussetlaw03_RatNear.j1 k x1 bt354.1 true x352000 x352001 x352002)))
def gussetlaw03_RatNear.j1 : Nat → Int → ByteArray → Bool → Bool → ByteArray → ByteArray → Option (Bool)
 | 0, _, _, _, _, _, _ => none
 | k + 1, x1, x5, x52, x352000, x352001, x352002 => if x52 = true then (none) else (gussetlaw03_RatNear.l0 k x1 x5 (⟨#[]⟩ : ByteArray) 0 x352000 x352001 x352002)
def gussetlaw03_RatNear.l0 : Nat → Int → ByteArray → ByteArray → Int → Bool → ByteArray → ByteArray → Option (Bool)
 | 0, _, _, _, _, _, _, _ => none
 | k + 1, x1, x5, x7, x8, x352000, x352001, x352002 => if x8 < (x5.size : Int) then (if 0 ≤ x8 then (if (bt x5 x8) = 46 then (gussetlaw03_RatNear.j3 k x1 x5 x7 x8 false x352000 x352001 x352002) else (if x7.toList = ([] : List UInt8) then (if ((bt x5 x8) = 48) then (gussetlaw03_RatNear.j3 k x1 x5 x7 x8 false x352000 x352001 x352002) else (gussetlaw03_RatNear.j3 k x1 x5 x7 x8 ((bt x5 x8) != 45) x352000 x352001 x352002)) else (gussetlaw03_RatNear.j3 k x1 x5 x7 x8 ((bt x5 x8) != 45) x352000 x352001 x352002))) else (none)) else (if x7.toList = ([] : List UInt8) then (gussetlaw03_RatNear.j4 k x1 (⟨#[48]⟩ : ByteArray) x352000 x352001 x352002) else (if 0 < (x5.size : Int) then (if (bt x5 0) = 45 then (if 1 + x7.size ≤ 9223372036854775807 then (gussetlaw03_RatNear.j4 k x1 ((⟨#[45]⟩ : ByteArray) ++ x7) x352000 x352001 x352002) else (none)) else (gussetlaw03_RatNear.j4 k x1 x7 x352000 x352001 x352002)) else (none)))
def gussetlaw03_RatNear.j3 : Nat → Int → ByteArray → ByteArray → Int → Bool → Bool → ByteArray → ByteArray → Option (Bool)
 | 0, _, _, _, _, _, _, _, _ => none
 | k + 1, x1, x5, x7, x8, x79, x352000, x352001, x352002 => if x79 = true then (if 0 ≤ x8 then (if x8 ≤ (wrap64 (x8 + 1)) then (if (wrap64 (x8 + 1)) ≤ (x5.size : Int) then (if x7.size + (x5.extract (x8 : Int).toNat ((wrap64 (x8 + 1)) : Int).toNat).size ≤ 9223372036854775807 then (gussetlaw03_RatNear.l0 k x1 x5 (x7 ++ (x5.extract (x8 : Int).toNat ((wrap64 (x8 + 1)) : Int).toNat)) (wrap64 (x8 + 1)) x352000 x352001 x352002) else (none)) else (none)) else (none)) else (none)) else (gussetlaw03_RatNear.l0 k x1 x5 x7 (wrap64 (x8 + 1)) x352000 x352001 x352002)
def gussetlaw03_RatNear.j4 : Nat → Int → ByteArray → Bool → ByteArray → ByteArray → Option (Bool)
 | 0, _, _, _, _, _ => none
 | k + 1, x1, x7, x352000, x352001, x352002 => (gussetref02_Parse.f x7).bind fun bt356 => ((gussetref02_Of.f 1).bind fun bt360 => (gussetlaw03_RatNear.l1 k x1 bt356.2.2 0 x352000 x352001 x352002 bt356.1 bt356.2.1 bt360.1 bt360.2))
def gussetlaw03_RatNear.l1 : Nat → Int → Int → Int → Bool → ByteArray → ByteArray → Bool → ByteArray → Bool → ByteArray → Option (Bool)
 | 0, _, _, _, _, _, _, _, _, _, _ => none
 | k + 1, x1, x10, x12, x352000, x352001, x352002, x360000, x360001, x363000, x363001 => if x12 < x1 then ((gussetref02_Of.f 10).bind fun bt363 => ((gussetref02_Times.f x363000 x363001 bt363.1 bt363.2).bind fun bt365 => (gussetlaw03_RatNear.l1 k x1 x10 (wrap64 (x12 + 1)) x352000 x352001 x352002 x360000 x360001 bt365.1 bt365.2))) else (if x10 = 0 then ((gussetref03_Lowest.f x360000 x360001 x363000 x363001).bind fun bt367 => ((gussetref03_Less.f k bt367.1 bt367.2.1 bt367.2.2 x352000 x352001 x352002).bind fun bt371 => ((gussetref02_Of.f 1).bind fun bt375 => ((gussetref02_Of.f 2).bind fun bt377 => ((gussetref02_Times.f x363000 x363001 bt377.1 bt377.2).bind fun bt379 => ((gussetref03_Lowest.f bt375.1 bt375.2 bt379.1 bt379.2).bind fun bt381 => ((gussetref03_Order.f false bt371.2.1 bt371.2.2 bt381.1 bt381.2.1 bt381.2.2).bind fun t385 => (if t385 ≤ 0 then ((gussetlaw03_live.f k).bind fun t386 => (some t386)) else (none))))))))) else (none))
end
def gussetlaw03_RatNear.f (k : Nat) (a0_0 : Bool) (a0_1 : ByteArray) (a0_2 : ByteArray) (a1 : Int) : Option (Bool) := if (a0_1.size : Int) > 16 then (gussetlaw03_RatNear.j0 k a1 true a0_0 a0_1 a0_2) else (if (a0_2.size : Int) > 24 then (gussetlaw03_RatNear.j0 k a1 true a0_0 a0_1 a0_2) else ((gussetref03_Check.f k a0_0 a0_1 a0_2).bind fun t352 => (if t352 = 0 then (if a1 < 0 then (gussetlaw03_RatNear.j0 k a1 true a0_0 a0_1 a0_2) else (gussetlaw03_RatNear.j0 k a1 (decide (a1 > 15)) a0_0 a0_1 a0_2)) else (gussetlaw03_RatNear.j0 k a1 true a0_0 a0_1 a0_2))))
set_option maxHeartbeats 8000000 in
set_option maxRecDepth 100000 in
theorem gussetlaw03_RatNear.calls (k : Nat) (a0_0 : Bool) (a0_1 : ByteArray) (a0_2 : ByteArray) (a1 : Int) (r : Bool) (w : World) (h : gussetlaw03_RatNear.f k a0_0 a0_1 a0_2 a1 = some r) :
  Calls Tryz.prog 5 #[.agg #[.bool a0_0, .string a0_1, .string a0_2], .int .i64 a1] w fun e w' => e = .returned (.bool r) ∧ Below w.heap.size w w' := by
 have hu27 := Tryz.underlying27
 have hu24 := Tryz.underlying24; have hf0 := zf240; have hf1 := zf241; have hf2 := zf270; have hf3 := zf271
 have HB := Aside0.mk (Below.refl w.heap.size w)
 unfold gussetlaw03_RatNear.f at h; have H := h; clear h
 have HC3 := Aside0.mk H
 clear H
 go_enter Tryz.func5, Tryz.ntmps5
 go_upto_region 1 with (first | ((with_reducible refine gate_dst (N := 2) rfl ?_); (try (refine gate_guard (by rfl) ?_; dsimp only)); refine zY 2 #[.bool a0_0, .string a0_1, .string a0_2] 27 ?_; intro gb351 hg w4 hbox hb; have BK351 := Aside0.mk (hbox); have GW351 := zG hg HB; have GE351 := zG hg HB; replace HB := zS HB hb; clear hb hbox hg))
 (try simp only [Act.put, List.setIfInBounds_toArray, List.set_cons_zero, List.set_cons_succ])
 go_cut [39] (fun v39 wc => ∃ (kq : Nat) (x39_2 : Bool), v39 = .bool x39_2 ∧ Aside0 (gussetlaw03_RatNear.j0 kq a1 x39_2 a0_0 a0_1 a0_2 = some r) ∧ Aside0 (kq ≤ k) ∧ Aside0 (wc.heap[gb351]? = some (.cells #[.bool a0_0, .string a0_1, .string a0_2] 27 (0, 0))) ∧ Aside0 (Below w.heap.size w wc))
 case first =>
  have H := HC3.out
  clear HC3
  by_cases c5 : (a0_1.size : Int) > 16
  ·rw [if_pos c5] at H
   have c5b0 := decide_eq_true c5
   have c5b1 : decide (16 < a0_1.size) = true := decide_eq_true (by omega)
   clear c5
   (first | rw [c5b0] | (simp only [i64_w, i32_w]; rw [c5b0]) | skip)
   have H' := Aside0.mk H
   clear H; obtain ⟨hcz6_0, hcz6_1, hcz6_2, hfz6_0, hfz6_1, hfz6_2⟩ := z3 BK351
   go_wp2
   go_meet
   case rel => exact ⟨_, (true), zR, H', zL, zK BK351, ⟨zT HB⟩⟩
  ·rw [if_neg c5] at H
   have c5b0 := decide_eq_false c5
   have c5b1 : decide (16 < a0_1.size) = false := decide_eq_false (by omega)
   clear c5
   (first | rw [c5b0] | (simp only [i64_w, i32_w]; rw [c5b0]) | skip)
   by_cases c7 : (a0_2.size : Int) > 24
   ·rw [if_pos c7] at H
    have c7b0 := decide_eq_true c7
    have c7b1 : decide (24 < a0_2.size) = true := decide_eq_true (by omega)
    clear c7
    have H' := Aside0.mk H
    clear H; obtain ⟨hcz8_0, hcz8_1, hcz8_2, hfz8_0, hfz8_1, hfz8_2⟩ := z3 BK351
    go_wp2
    go_meet
    case rel => exact ⟨_, (true), zR, H', zL, zK BK351, ⟨zT HB⟩⟩
   ·rw [if_neg c7] at H
    have c7b0 := decide_eq_false c7
    have c7b1 : decide (24 < a0_2.size) = false := decide_eq_false (by omega)
    clear c7
    obtain ⟨t352, A9, H⟩ := zo H
    by_cases c10 : t352 = 0
    ·rw [if_pos c10] at H
     have c10b0 := beq_iff_eq.mpr c10
     have c10b1 := bne_eq_false_iff_eq.mpr c10
     clear c10
     by_cases c11 : a1 < 0
     ·rw [if_pos c11] at H
      have c11b0 := decide_eq_true c11
      clear c11
      have H' := Aside0.mk H
      clear H; obtain ⟨hcz12_0, hcz12_1, hcz12_2, hfz12_0, hfz12_1, hfz12_2⟩ := z3 BK351
      go_wp2_with (first | (go_at_call 19; (with_reducible refine (gussetref03_Check.calls k a0_0 a0_1 a0_2 t352 _ A9.out).mono ?_); rintro e w13 ⟨rfl, hb⟩; replace BK351 := zB BK351 hb; replace HB := zS HB hb; (try clear hb)))
      go_meet
      case rel => exact ⟨_, (true), zR, H', zL, zK BK351, ⟨zT HB⟩⟩
     ·rw [if_neg c11] at H
      have c11b0 := decide_eq_false c11
      clear c11
      have H' := Aside0.mk H
      clear H; obtain ⟨hcz14_0, hcz14_1, hcz14_2, hfz14_0, hfz14_1, hfz14_2⟩ := z3 BK351
      go_wp2_with (first | (go_at_call 19; (with_reducible refine (gussetref03_Check.calls k a0_0 a0_1 a0_2 t352 _ A9.out).mono ?_); rintro e w15 ⟨rfl, hb⟩; replace BK351 := zB BK351 hb; replace HB := zS HB hb; (try clear hb)))
      go_meet
      case rel => exact ⟨_, (decide (a1 > 15)), zR, H', zL, zK BK351, ⟨zT HB⟩⟩
    ·rw [if_neg c10] at H
     have c10b0 := beq_eq_false_iff_ne.mpr c10
     have c10b1 := bne_iff_ne.mpr c10
     have H' := Aside0.mk H
     clear H; obtain ⟨hcz16_0, hcz16_1, hcz16_2, hfz16_0, hfz16_1, hfz16_2⟩ := z3 BK351
     go_wp2_with (first | (go_at_call 19; (with_reducible refine (gussetref03_Check.calls k a0_0 a0_1 a0_2 t352 _ A9.out).mono ?_); rintro e w17 ⟨rfl, hb⟩; replace BK351 := zB BK351 hb; replace HB := zS HB hb; (try clear hb)))
     go_meet
     case rel => exact ⟨_, (true), zR, H', zL, zK BK351, ⟨zT HB⟩⟩
 case rest =>
  clear HC3
  try clear c1; try clear p2; try clear c5; try clear c5b0; try clear c5b1; try clear c7; try clear c7b0; try clear c7b1; try clear c10; try clear c10b0; try clear c10b1; try clear c11; try clear c11b0; try clear hcz12_0; try clear hcz12_1; try clear hcz12_2; try clear hcz14_0; try clear hcz14_1; try clear hcz14_2; try clear hcz16_0; try clear hcz16_1; try clear hcz16_2; try clear hcz6_0; try clear hcz6_1; try clear hcz6_2; try clear hcz8_0; try clear hcz8_1; try clear hcz8_2; try clear hfz12_0; try clear hfz12_1; try clear hfz12_2; try clear hfz14_0; try clear hfz14_1; try clear hfz14_2; try clear hfz16_0; try clear hfz16_1; try clear hfz16_2; try clear hfz6_0; try clear hfz6_1; try clear hfz6_2; try clear hfz8_0; try clear hfz8_1; try clear hfz8_2
  obtain ⟨kq, x39_2, rfl, HA, HJ2, BK351, HB⟩ := hcut
  cases kq with
  | zero => exact absurd HA.out (by simp [gussetlaw03_RatNear.j0])
  | succ kj2 =>
   have H := HA.out
   clear HA
   simp only [gussetlaw03_RatNear.j0] at H
   by_cases c18 : x39_2 = true
   ·subst c18
    rw [if_pos rfl] at H
    obtain ⟨t353, A19, H⟩ := zo H
    obtain rfl := Option.some.inj H
    go_wp2_with (first | ((with_reducible refine gate_callee (f := 13) rfl ?_); refine zO Tryz.func13 (by kernel_rfl) (gussetlaw03_live.calls kj2  t353 _ A19.out) fun w20 hb => ?_; replace BK351 := zB BK351 hb; replace HB := zS HB hb; (try clear hb)))
    go_ret
    exact ⟨zH, zT HB⟩
   ·replace c18 := Bool.eq_false_iff.mpr c18
    subst c18
    rw [if_neg zn] at H
    obtain ⟨⟨t354, t355⟩, A21, H⟩ := zo H; try dsimp only at H
    have HC22 := Aside0.mk H
    clear H; obtain ⟨hcz23_0, hcz23_1, hcz23_2, hfz23_0, hfz23_1, hfz23_2⟩ := z3 BK351
    go_upto_region 4 with (first | ((with_reducible refine gate_callee (f := 20) rfl ?_); refine zO Tryz.func20 (by kernel_rfl) (rat_Decimal.calls kj2 a0_0 a0_1 a0_2 a1 t354 t355 _ A21.out) fun w24 hb => ?_; replace BK351 := zB BK351 hb; replace HB := zS HB hb; (try clear hb)))
    (try simp only [Act.put, List.setIfInBounds_toArray, List.set_cons_zero, List.set_cons_succ])
    go_cut [52] (fun v52 wc => ∃ (kq : Nat) (x52_21 : Bool), v52 = .bool x52_21 ∧ Aside0 (gussetlaw03_RatNear.j1 kq a1 t354 x52_21 a0_0 a0_1 a0_2 = some r) ∧ Aside0 (kq ≤ kj2) ∧ Aside0 (wc.heap[gb351]? = some (.cells #[.bool a0_0, .string a0_1, .string a0_2] 27 (0, 0))) ∧ Aside0 (Below w.heap.size w wc))
    case first =>
     have H := HC22.out
     clear HC22
     by_cases c25 : t355 = 0
     ·rw [if_pos c25] at H
      have c25b0 := beq_iff_eq.mpr c25
      have c25b1 := bne_eq_false_iff_eq.mpr c25
      clear c25
      (first | rw [c25b0] | (simp only [i64_w, i32_w]; rw [c25b0]) | skip)
      have H' := Aside0.mk H
      clear H
      go_wp2
      go_meet
      case rel => exact ⟨_, ((t354.toList == ([] : List UInt8))), zR, H', ⟨by have := HJ2.out; first | omega | exact Nat.le_refl _⟩, zK BK351, ⟨zT HB⟩⟩
     ·rw [if_neg c25] at H
      have c25b0 := beq_eq_false_iff_ne.mpr c25
      have c25b1 := bne_iff_ne.mpr c25
      (first | rw [c25b0] | (simp only [i64_w, i32_w]; rw [c25b0]) | skip)
      have H' := Aside0.mk H
      clear H
      go_wp2
      go_meet
      case rel => exact ⟨_, (true), zR, H', ⟨by have := HJ2.out; first | omega | exact Nat.le_refl _⟩, zK BK351, ⟨zT HB⟩⟩
    case rest =>
     clear HC22
     try clear c1; try clear c2; try clear p2; try clear c5; try clear c5b0; try clear c5b1; try clear c7; try clear c7b0; try clear c7b1; try clear c10; try clear c10b0; try clear c10b1; try clear c11; try clear c11b0; try clear c13; try clear c18; try clear c20; try clear c25; try clear c25b0; try clear c25b1; try clear hcz12_0; try clear hcz12_1; try clear hcz12_2; try clear hcz14_0; try clear hcz14_1; try clear hcz14_2; try clear hcz16_0; try clear hcz16_1; try clear hcz16_2; try clear hcz23_0; try clear hcz23_1; try clear hcz23_2; try clear hcz6_0; try clear hcz6_1; try clear hcz6_2; try clear hcz8_0; try clear hcz8_1; try clear hcz8_2; try clear hfz12_0; try clear hfz12_1; try clear hfz12_2; try clear hfz14_0; try clear hfz14_1; try clear hfz14_2; try clear hfz16_0; try clear hfz16_1; try clear hfz16_2; try clear hfz23_0; try clear hfz23_1; try clear hfz23_2; try clear hfz6_0; try clear hfz6_1; try clear hfz6_2; try clear hfz8_0; try clear hfz8_1; try clear hfz8_2; try clear p2
     obtain ⟨kq, x52_21, rfl, HA, HJ21, BK351, HB⟩ := hcut
     cases kq with
     | zero => exact absurd HA.out (by simp [gussetlaw03_RatNear.j1])
     | succ kj21 =>
      have H := HA.out
      clear HA
      simp only [gussetlaw03_RatNear.j1] at H
      by_cases c26 : x52_21 = true
      ·subst c26
       rw [if_pos rfl] at H
       exact absurd H (by simp)
      ·replace c26 := Bool.eq_false_iff.mpr c26
       subst c26
       rw [if_neg zn] at H
       have H' := Aside0.mk H
       clear H
       go_wp2
       go_loopg [7, 8] kj21 (fun kq v7 v8 w' => ∃ (x7_3 : ByteArray) (x8_3 : Int), v7 = .string x7_3 ∧ v8 = .int .i64 x8_3 ∧ Aside0 (gussetlaw03_RatNear.l0 kq a1 t354 x7_3 x8_3 a0_0 a0_1 a0_2 = some r) ∧ Aside0 (kq ≤ kj21) ∧ Aside0 (w'.heap[gb351]? = some (.cells #[.bool a0_0, .string a0_1, .string a0_2] 27 (0, 0))) ∧ Aside0 (Below w.heap.size w w'))
       case atStart => exact ⟨((⟨#[]⟩ : ByteArray)), (0), zR, zR, H', ⟨Nat.le_refl _⟩, zK BK351, ⟨zT HB⟩⟩
       case round =>
        clear H'
        try clear c1; try clear c2; try clear p2; try clear c5; try clear c5b0; try clear c5b1; try clear c7; try clear c7b0; try clear c7b1; try clear c10; try clear c10b0; try clear c10b1; try clear c11; try clear c11b0; try clear c13; try clear c18; try clear c20; try clear c25; try clear c25b0; try clear c25b1; try clear c26; try clear hcz12_0; try clear hcz12_1; try clear hcz12_2; try clear hcz14_0; try clear hcz14_1; try clear hcz14_2; try clear hcz16_0; try clear hcz16_1; try clear hcz16_2; try clear hcz23_0; try clear hcz23_1; try clear hcz23_2; try clear hcz6_0; try clear hcz6_1; try clear hcz6_2; try clear hcz8_0; try clear hcz8_1; try clear hcz8_2; try clear hfz12_0; try clear hfz12_1; try clear hfz12_2; try clear hfz14_0; try clear hfz14_1; try clear hfz14_2; try clear hfz16_0; try clear hfz16_1; try clear hfz16_2; try clear hfz23_0; try clear hfz23_1; try clear hfz23_2; try clear hfz6_0; try clear hfz6_1; try clear hfz6_2; try clear hfz8_0; try clear hfz8_1; try clear hfz8_2; try clear p2
        obtain ⟨x7_3, x8_3, rfl, rfl, HA, HK3, BK351, HB⟩ := hrel
        cases gk with
        | zero => exact absurd HA.out (by simp [gussetlaw03_RatNear.l0])
        | succ k3 =>
         have H := HA.out
         clear HA
         simp only [gussetlaw03_RatNear.l0] at H
         by_cases c27 : x8_3 < (t354.size : Int)
         ·rw [if_pos c27] at H
          have c27b0 := decide_eq_true c27
          clear c27
          have HC28 := Aside0.mk H
          clear H
          go_upto_region 10 with (fail)
          go_cut [79] (fun v79 wc => ∃ (kq : Nat) (x79_27 : Bool), v79 = .bool x79_27 ∧ Aside0 (gussetlaw03_RatNear.j3 kq a1 t354 x7_3 x8_3 x79_27 a0_0 a0_1 a0_2 = some r) ∧ Aside0 (kq ≤ k3) ∧ Aside0 (wc.heap[gb351]? = some (.cells #[.bool a0_0, .string a0_1, .string a0_2] 27 (0, 0))) ∧ Aside0 (Below w.heap.size w wc))
          case first =>
           have H := HC28.out
           clear HC28
           by_cases c29 : 0 ≤ x8_3
           ·rw [if_pos c29] at H
            have c29b0 := decide_eq_true c29
            clear c29
            (first | rw [c29b0] | (simp only [i64_w, i32_w]; rw [c29b0]) | skip)
            by_cases c31 : (bt t354 x8_3) = 46
            ·rw [if_pos c31] at H
             have c31b0 := beq_iff_eq.mpr c31
             have c31b1 := bne_eq_false_iff_eq.mpr c31
             clear c31
             have H' := Aside0.mk H
             clear H
             have p30 : 0 ≤ (x8_3 : Int) := of_decide_eq_true (by first | (with_reducible assumption) | assumption)
             have q30 : x8_3 < (t354.size : Int) := of_decide_eq_true (by first | (with_reducible assumption) | assumption)
             have hx30 := bt_at t354 x8_3
             replace p30 := eq_true p30
             replace q30 := eq_true q30
             go_wp2
             go_meet
             case rel => exact ⟨_, (false), zR, H', ⟨by have := HJ2.out; have := HJ21.out; have := HK3.out; first | omega | exact Nat.le_refl _⟩, zK BK351, ⟨zT HB⟩⟩
            ·rw [if_neg c31] at H
             have c31b0 := beq_eq_false_iff_ne.mpr c31
             have c31b1 := bne_iff_ne.mpr c31
             by_cases c32 : x7_3.toList = ([] : List UInt8)
             ·rw [if_pos c32] at H
              have c32b0 := beq_iff_eq.mpr c32
              have c32b2 : x7_3.toList.isEmpty = true := List.isEmpty_iff.mpr c32
              have c32b1 := bne_eq_false_iff_eq.mpr c32
              clear c32
              by_cases c34 : ((bt t354 x8_3) = 48)
              ·rw [if_pos c34] at H
               have c34b0 := beq_iff_eq.mpr c34
               have c34b1 := bne_eq_false_iff_eq.mpr c34
               clear c34
               have H' := Aside0.mk H
               clear H
               have p30 : 0 ≤ (x8_3 : Int) := of_decide_eq_true (by first | (with_reducible assumption) | assumption)
               have q30 : x8_3 < (t354.size : Int) := of_decide_eq_true (by first | (with_reducible assumption) | assumption)
               have hx30 := bt_at t354 x8_3
               replace p30 := eq_true p30
               replace q30 := eq_true q30
               have p33 : 0 ≤ (x8_3 : Int) := of_decide_eq_true (by first | (with_reducible assumption) | assumption)
               have q33 : x8_3 < (t354.size : Int) := of_decide_eq_true (by first | (with_reducible assumption) | assumption)
               have hx33 := bt_at t354 x8_3
               replace p33 := eq_true p33
               replace q33 := eq_true q33
               go_wp2
               go_meet
               case rel => exact ⟨_, (false), zR, H', ⟨by have := HJ2.out; have := HJ21.out; have := HK3.out; first | omega | exact Nat.le_refl _⟩, zK BK351, ⟨zT HB⟩⟩
              ·rw [if_neg c34] at H
               have c34b0 := beq_eq_false_iff_ne.mpr c34
               have c34b1 := bne_iff_ne.mpr c34
               have H' := Aside0.mk H
               clear H
               have p30 : 0 ≤ (x8_3 : Int) := of_decide_eq_true (by first | (with_reducible assumption) | assumption)
               have q30 : x8_3 < (t354.size : Int) := of_decide_eq_true (by first | (with_reducible assumption) | assumption)
               have hx30 := bt_at t354 x8_3
               replace p30 := eq_true p30
               replace q30 := eq_true q30
               have p33 : 0 ≤ (x8_3 : Int) := of_decide_eq_true (by first | (with_reducible assumption) | assumption)
               have q33 : x8_3 < (t354.size : Int) := of_decide_eq_true (by first | (with_reducible assumption) | assumption)
               have hx33 := bt_at t354 x8_3
               replace p33 := eq_true p33
               replace q33 := eq_true q33
               have p35 : 0 ≤ (x8_3 : Int) := of_decide_eq_true (by first | (with_reducible assumption) | assumption)
               have q35 : x8_3 < (t354.size : Int) := of_decide_eq_true (by first | (with_reducible assumption) | assumption)
               have hx35 := bt_at t354 x8_3
               replace p35 := eq_true p35
               replace q35 := eq_true q35
               go_wp2
               go_meet
               case rel => exact ⟨_, (((bt t354 x8_3) != 45)), zR, H', ⟨by have := HJ2.out; have := HJ21.out; have := HK3.out; first | omega | exact Nat.le_refl _⟩, zK BK351, ⟨zT HB⟩⟩
             ·rw [if_neg c32] at H
              have c32b0 := beq_eq_false_iff_ne.mpr c32
              have c32b2 : x7_3.toList.isEmpty = false := List.isEmpty_eq_false_iff.mpr c32
              have c32b1 := bne_iff_ne.mpr c32
              have H' := Aside0.mk H
              clear H
              have p30 : 0 ≤ (x8_3 : Int) := of_decide_eq_true (by first | (with_reducible assumption) | assumption)
              have q30 : x8_3 < (t354.size : Int) := of_decide_eq_true (by first | (with_reducible assumption) | assumption)
              have hx30 := bt_at t354 x8_3
              replace p30 := eq_true p30
              replace q30 := eq_true q30
              have p36 : 0 ≤ (x8_3 : Int) := of_decide_eq_true (by first | (with_reducible assumption) | assumption)
              have q36 : x8_3 < (t354.size : Int) := of_decide_eq_true (by first | (with_reducible assumption) | assumption)
              have hx36 := bt_at t354 x8_3
              replace p36 := eq_true p36
              replace q36 := eq_true q36
              go_wp2
              go_meet
              case rel => exact ⟨_, (((bt t354 x8_3) != 45)), zR, H', ⟨by have := HJ2.out; have := HJ21.out; have := HK3.out; first | omega | exact Nat.le_refl _⟩, zK BK351, ⟨zT HB⟩⟩
           ·rw [if_neg c29] at H
            exact absurd H (by simp)
          case rest =>
           clear HC28
           try clear c1; try clear c2; try clear p2; try clear c3; try clear p3; try clear q3; try clear hx3; try clear c5; try clear c5b0; try clear c5b1; try clear c7; try clear c7b0; try clear c7b1; try clear c10; try clear c10b0; try clear c10b1; try clear c11; try clear c11b0; try clear c13; try clear c18; try clear c20; try clear c25; try clear c25b0; try clear c25b1; try clear c26; try clear c27; try clear c27b0; try clear c29; try clear c29b0; try clear p30; try clear q30; try clear hx30; try clear c31; try clear c31b0; try clear c31b1; try clear c32; try clear c32b0; try clear c32b1; try clear p33; try clear q33; try clear hx33; try clear c34; try clear c34b0; try clear c34b1; try clear p35; try clear q35; try clear hx35; try clear p36; try clear q36; try clear hx36; try clear hcz12_0; try clear hcz12_1; try clear hcz12_2; try clear hcz14_0; try clear hcz14_1; try clear hcz14_2; try clear hcz16_0; try clear hcz16_1; try clear hcz16_2; try clear hcz23_0; try clear hcz23_1; try clear hcz23_2; try clear hcz6_0; try clear hcz6_1; try clear hcz6_2; try clear hcz8_0; try clear hcz8_1; try clear hcz8_2; try clear hfz12_0; try clear hfz12_1; try clear hfz12_2; try clear hfz14_0; try clear hfz14_1; try clear hfz14_2; try clear hfz16_0; try clear hfz16_1; try clear hfz16_2; try clear hfz23_0; try clear hfz23_1; try clear hfz23_2; try clear hfz6_0; try clear hfz6_1; try clear hfz6_2; try clear hfz8_0; try clear hfz8_1; try clear hfz8_2; try clear p2; try clear p30; try clear p33; try clear p35; try clear p36; try clear q30; try clear q33; try clear q35; try clear q36
           obtain ⟨kq, x79_27, rfl, HA, HJ27, BK351, HB⟩ := hcut
           cases kq with
           | zero => exact absurd HA.out (by simp [gussetlaw03_RatNear.j3])
           | succ kj27 =>
            have H := HA.out
            clear HA
            simp only [gussetlaw03_RatNear.j3] at H
            by_cases c37 : x79_27 = true
            ·subst c37
             rw [if_pos rfl] at H
             by_cases c38 : 0 ≤ x8_3
             ·rw [if_pos c38] at H
              have c38b0 := eq_true c38
              have c38b1 := decide_eq_true c38
              clear c38
              by_cases c39 : x8_3 ≤ (wrap64 (x8_3 + 1))
              ·rw [if_pos c39] at H
               have c39b0 := eq_true c39
               have c39b1 := decide_eq_true c39
               by_cases c40 : (wrap64 (x8_3 + 1)) ≤ (t354.size : Int)
               ·rw [if_pos c40] at H
                have c40b0 := eq_true c40
                have c40b1 := decide_eq_true c40
                by_cases c41 : x7_3.size + (t354.extract (x8_3 : Int).toNat ((wrap64 (x8_3 + 1)) : Int).toNat).size ≤ 9223372036854775807
                ·rw [if_pos c41] at H
                 have c41b0 := eq_true c41
                 have c41b1 := decide_eq_true c41
                 try have c41b2 : (9223372036854775807 < x7_3.size + (t354.extract (x8_3 : Int).toNat ((wrap64 (x8_3 + 1)) : Int).toNat).size) = False := eq_false (Nat.not_lt.2 c41)
                 have H' := Aside0.mk H
                 clear H
                 go_wp2
                 go_roundg kj27
                 case measure => have := HJ2.out; have := HJ21.out; have := HK3.out; have := HJ27.out; omega
                 case rel => exact ⟨(x7_3 ++ (t354.extract (x8_3 : Int).toNat ((wrap64 (x8_3 + 1)) : Int).toNat)), (wrap64 (x8_3 + 1)), zR, zR, H', ⟨by have := HJ2.out; have := HJ21.out; have := HK3.out; have := HJ27.out; omega⟩, zK BK351, ⟨zT HB⟩⟩
                ·rw [if_neg c41] at H
                 exact absurd H (by simp)
               ·rw [if_neg c40] at H
                exact absurd H (by simp)
              ·rw [if_neg c39] at H
               exact absurd H (by simp)
             ·rw [if_neg c38] at H
              exact absurd H (by simp)
            ·replace c37 := Bool.eq_false_iff.mpr c37
             subst c37
             rw [if_neg zn] at H
             have H' := Aside0.mk H
             clear H
             go_wp2
             go_roundg kj27
             case measure => have := HJ2.out; have := HJ21.out; have := HK3.out; have := HJ27.out; omega
             case rel => exact ⟨(x7_3), (wrap64 (x8_3 + 1)), zR, zR, H', ⟨by have := HJ2.out; have := HJ21.out; have := HK3.out; have := HJ27.out; omega⟩, zK BK351, ⟨zT HB⟩⟩
         ·rw [if_neg c27] at H
          have c27b0 := decide_eq_false c27
          clear c27
          have HC42 := Aside0.mk H
          clear H
          go_upto_if 88 with (fail)
          go_cut [7] (fun v7 wc => ∃ (kq : Nat) (x7_41 : ByteArray), v7 = .string x7_41 ∧ Aside0 (gussetlaw03_RatNear.j4 kq a1 x7_41 a0_0 a0_1 a0_2 = some r) ∧ Aside0 (kq ≤ k3) ∧ Aside0 (wc.heap[gb351]? = some (.cells #[.bool a0_0, .string a0_1, .string a0_2] 27 (0, 0))) ∧ Aside0 (Below w.heap.size w wc))
          case first =>
           have H := HC42.out
           clear HC42
           by_cases c43 : x7_3.toList = ([] : List UInt8)
           ·rw [if_pos c43] at H
            have c43b0 := beq_iff_eq.mpr c43
            have c43b2 : x7_3.toList.isEmpty = true := List.isEmpty_iff.mpr c43
            have c43b1 := bne_eq_false_iff_eq.mpr c43
            clear c43
            (first | rw [c43b0] | rw [c43b2] | skip)
            have H' := Aside0.mk H
            clear H
            go_wp2
            go_meet
            case rel => exact ⟨_, ((⟨#[48]⟩ : ByteArray)), zR, H', ⟨by have := HJ2.out; have := HJ21.out; have := HK3.out; first | omega | exact Nat.le_refl _⟩, zK BK351, ⟨zT HB⟩⟩
           ·rw [if_neg c43] at H
            have c43b0 := beq_eq_false_iff_ne.mpr c43
            have c43b2 : x7_3.toList.isEmpty = false := List.isEmpty_eq_false_iff.mpr c43
            have c43b1 := bne_iff_ne.mpr c43
            (first | rw [c43b0] | rw [c43b2] | skip)
            by_cases c44 : 0 < (t354.size : Int)
            ·rw [if_pos c44] at H
             have c44b0 := decide_eq_true c44
             have c44b1 : decide (0 < t354.size) = true := decide_eq_true (by omega)
             clear c44
             by_cases c46 : (bt t354 0) = 45
             ·rw [if_pos c46] at H
              have c46b0 := beq_iff_eq.mpr c46
              have c46b1 := bne_eq_false_iff_eq.mpr c46
              clear c46
              by_cases c47 : 1 + x7_3.size ≤ 9223372036854775807
              ·rw [if_pos c47] at H
               have c47b0 := eq_true c47
               have c47b1 := decide_eq_true c47
               try have c47b2 : (9223372036854775807 < 1 + x7_3.size) = False := eq_false (Nat.not_lt.2 c47)
               have H' := Aside0.mk H
               clear H
               have p45 : 0 ≤ (0 : Int) := (by omega)
               have q45 : 0 < t354.size := (by have : (0 : Int) < (t354.size : Int) := of_decide_eq_true (by first | (with_reducible assumption) | assumption); omega)
               have hx45 : ∀ h : 0 < t354.size, ((t354[0]'h).toNat : Int) = bt t354 0 := bt_at t354 0
               clear p45
               have qi45 : (0 < (t354.size : Int)) = True := eq_true (of_decide_eq_true (by first | (with_reducible assumption) | assumption))
               replace q45 := eq_true q45
               go_wp2
               go_meet
               case rel => exact ⟨_, ((⟨#[45]⟩ : ByteArray) ++ x7_3), zR, H', ⟨by have := HJ2.out; have := HJ21.out; have := HK3.out; first | omega | exact Nat.le_refl _⟩, zK BK351, ⟨zT HB⟩⟩
              ·rw [if_neg c47] at H
               exact absurd H (by simp)
             ·rw [if_neg c46] at H
              have c46b0 := beq_eq_false_iff_ne.mpr c46
              have c46b1 := bne_iff_ne.mpr c46
              have H' := Aside0.mk H
              clear H
              have p45 : 0 ≤ (0 : Int) := (by omega)
              have q45 : 0 < t354.size := (by have : (0 : Int) < (t354.size : Int) := of_decide_eq_true (by first | (with_reducible assumption) | assumption); omega)
              have hx45 : ∀ h : 0 < t354.size, ((t354[0]'h).toNat : Int) = bt t354 0 := bt_at t354 0
              clear p45
              have qi45 : (0 < (t354.size : Int)) = True := eq_true (of_decide_eq_true (by first | (with_reducible assumption) | assumption))
              replace q45 := eq_true q45
              go_wp2
              go_meet
              case rel => exact ⟨_, (x7_3), zR, H', ⟨by have := HJ2.out; have := HJ21.out; have := HK3.out; first | omega | exact Nat.le_refl _⟩, zK BK351, ⟨zT HB⟩⟩
            ·rw [if_neg c44] at H
             exact absurd H (by simp)
          case rest =>
           clear HC42
           try clear c1; try clear c2; try clear p2; try clear c3; try clear p3; try clear q3; try clear hx3; try clear c4; try clear p4; try clear q4; try clear hx4; try clear qi4; try clear c5; try clear c5b0; try clear c5b1; try clear p6; try clear c7; try clear c7b0; try clear c7b1; try clear c10; try clear c10b0; try clear c10b1; try clear c11; try clear c11b0; try clear c13; try clear c18; try clear c20; try clear c25; try clear c25b0; try clear c25b1; try clear c26; try clear c27; try clear c27b0; try clear c29; try clear c29b0; try clear p30; try clear q30; try clear hx30; try clear c31; try clear c31b0; try clear c31b1; try clear c32; try clear c32b0; try clear c32b1; try clear p33; try clear q33; try clear hx33; try clear c34; try clear c34b0; try clear c34b1; try clear p35; try clear q35; try clear hx35; try clear p36; try clear q36; try clear hx36; try clear c37; try clear c38; try clear c38b0; try clear c38b1; try clear c39; try clear c39b0; try clear c39b1; try clear c40; try clear c40b0; try clear c40b1; try clear c41; try clear c41b0; try clear c41b1; try clear c41b2; try clear c43; try clear c43b0; try clear c43b1; try clear c44; try clear c44b0; try clear c44b1; try clear p45; try clear q45; try clear hx45; try clear qi45; try clear c46; try clear c46b0; try clear c46b1; try clear c47; try clear c47b0; try clear c47b1; try clear c47b2; try clear hcz12_0; try clear hcz12_1; try clear hcz12_2; try clear hcz14_0; try clear hcz14_1; try clear hcz14_2; try clear hcz16_0; try clear hcz16_1; try clear hcz16_2; try clear hcz23_0; try clear hcz23_1; try clear hcz23_2; try clear hcz6_0; try clear hcz6_1; try clear hcz6_2; try clear hcz8_0; try clear hcz8_1; try clear hcz8_2; try clear hfz12_0; try clear hfz12_1; try clear hfz12_2; try clear hfz14_0; try clear hfz14_1; try clear hfz14_2; try clear hfz16_0; try clear hfz16_1; try clear hfz16_2; try clear hfz23_0; try clear hfz23_1; try clear hfz23_2; try clear hfz6_0; try clear hfz6_1; try clear hfz6_2; try clear hfz8_0; try clear hfz8_1; try clear hfz8_2; try clear p2; try clear p3; try clear p30; try clear p33; try clear p35; try clear p36; try clear p45; try clear q3; try clear q30; try clear q33; try clear q35; try clear q36; try clear q45
           obtain ⟨kq, x7_41, rfl, HA, HJ41, BK351, HB⟩ := hcut
           cases kq with
           | zero => exact absurd HA.out (by simp [gussetlaw03_RatNear.j4])
           | succ kj41 =>
            have H := HA.out
            clear HA
            simp only [gussetlaw03_RatNear.j4] at H
            obtain ⟨⟨t356, t357, t358⟩, A48, H⟩ := zo H; try dsimp only at H
            obtain ⟨⟨t360, t361⟩, A49, H⟩ := zo H; try dsimp only at H
            have H' := Aside0.mk H
            clear H
            go_wp2_with (first | ((with_reducible refine gate_callee (f := 22) rfl ?_); refine zO Tryz.func22 (by kernel_rfl) (gussetref02_Parse.calls x7_41 t356 t357 t358 _ A48.out) fun w50 hb => ?_; replace BK351 := zB BK351 hb; replace HB := zS HB hb; (try clear hb)) | ((with_reducible refine gate_dst (N := 9) rfl ?_); (try (refine gate_guard (by rfl) ?_; dsimp only)); refine zY 9 #[.bool false, .string (⟨#[]⟩ : ByteArray)] 24 ?_; intro gb359 hg w51 hbox hb; have BK359 := Aside0.mk (hbox); have GW359 := zG hg HB; have GE359 := zG hg HB; obtain ⟨NB351_359, NB359_351⟩ := zQ hg BK351; replace BK351 := zB BK351 hb; replace HB := zS HB hb; clear hb hbox hg; have hnb52 := NB359_351.out; have hnc52 := NB351_359.out; obtain ⟨hcz53_0, hcz53_1, hfz53_0, hfz53_1⟩ := z2 BK359) | ((with_reducible refine gate_callee (f := 23) rfl ?_); refine zO Tryz.func23 (by kernel_rfl) (gussetref02_Of.calls 1 t360 t361 _ A49.out) fun w54 hb => ?_; replace BK351 := zB BK351 hb; replace BK359 := Aside0.mk (blk_below (g := gb359) (o := .cells #[.bool t356, .string t357] 24 (0, 0)) (by (with_reducible repeat (first | refine blk_drewN ?_ _ | refine blk_drew ?_ | refine blk_alloc ?_ _)); refine zP (cs := #[.bool t356, .string (⟨#[]⟩ : ByteArray)]) ?_ 1 _; (with_reducible repeat (first | refine blk_drewN ?_ _ | refine blk_drew ?_ | refine blk_alloc ?_ _)); refine zP (cs := #[.bool false, .string (⟨#[]⟩ : ByteArray)]) ?_ 0 _; (with_reducible repeat (first | refine blk_drewN ?_ _ | refine blk_drew ?_ | refine blk_alloc ?_ _)); exact BK359.out) hb); replace HB := zS HB hb; (try clear hb)) | ((with_reducible refine gate_dst (N := 11) rfl ?_); (try (refine gate_guard (by rfl) ?_; dsimp only)); refine zY 11 #[.bool false, .string (⟨#[]⟩ : ByteArray)] 24 ?_; intro gb362 hg w55 hbox hb; have BK362 := Aside0.mk (hbox); have GW362 := zG hg HB; have GE362 := zG hg HB; obtain ⟨NB351_362, NB362_351⟩ := zQ hg BK351; obtain ⟨NB359_362, NB362_359⟩ := zQ hg BK359; obtain ⟨BK351, BK359⟩ := zB2 BK351 BK359 hb; replace HB := zS HB hb; clear hb hbox hg; have hnb56 := NB362_351.out; have hnc56 := NB351_362.out; have hnb57 := NB362_359.out; have hnc57 := NB359_362.out; obtain ⟨hcz58_0, hcz58_1, hfz58_0, hfz58_1⟩ := z2 BK362))
            go_loopg [12] kj41 (fun kq v12 w' => ∃ (x12_5 : Int) (x363000_5 : Bool) (x363001_5 : ByteArray), v12 = .int .i64 x12_5 ∧ Aside0 (gussetlaw03_RatNear.l1 kq a1 t358 x12_5 a0_0 a0_1 a0_2 t356 t357 x363000_5 x363001_5 = some r) ∧ Aside0 (kq ≤ kj41) ∧ Aside0 (w'.heap[gb351]? = some (.cells #[.bool a0_0, .string a0_1, .string a0_2] 27 (0, 0))) ∧ Aside0 (w'.heap[gb359]? = some (.cells #[.bool t356, .string t357] 24 (0, 0))) ∧ Aside0 (w'.heap[gb362]? = some (.cells #[.bool x363000_5, .string x363001_5] 24 (0, 0))) ∧ Aside0 (Below w.heap.size w w'))
            case atStart => exact ⟨(0), (t360), (t361), zR, H', ⟨Nat.le_refl _⟩, zK BK351, zK BK359, ⟨by (with_reducible repeat (first | refine blk_drewN ?_ _ | refine blk_drew ?_ | refine blk_alloc ?_ _)); refine zP (cs := #[.bool t360, .string (⟨#[]⟩ : ByteArray)]) ?_ 1 _; (with_reducible repeat (first | refine blk_drewN ?_ _ | refine blk_drew ?_ | refine blk_alloc ?_ _)); refine zP (cs := #[.bool false, .string (⟨#[]⟩ : ByteArray)]) ?_ 0 _; (with_reducible repeat (first | refine blk_drewN ?_ _ | refine blk_drew ?_ | refine blk_alloc ?_ _)); exact BK362.out⟩, ⟨zT HB⟩⟩
            case round =>
             clear H'
             try clear c1; try clear c2; try clear p2; try clear c3; try clear p3; try clear q3; try clear hx3; try clear c4; try clear p4; try clear q4; try clear hx4; try clear qi4; try clear c5; try clear c5b0; try clear c5b1; try clear p6; try clear c7; try clear c7b0; try clear c7b1; try clear c10; try clear c10b0; try clear c10b1; try clear c11; try clear c11b0; try clear c13; try clear c18; try clear c20; try clear c22; try clear c23; try clear c25; try clear c25b0; try clear c25b1; try clear c26; try clear c27; try clear c27b0; try clear c29; try clear c29b0; try clear p30; try clear q30; try clear hx30; try clear c31; try clear c31b0; try clear c31b1; try clear c32; try clear c32b0; try clear c32b1; try clear p33; try clear q33; try clear hx33; try clear c34; try clear c34b0; try clear c34b1; try clear p35; try clear q35; try clear hx35; try clear p36; try clear q36; try clear hx36; try clear c37; try clear c38; try clear c38b0; try clear c38b1; try clear c39; try clear c39b0; try clear c39b1; try clear c40; try clear c40b0; try clear c40b1; try clear c41; try clear c41b0; try clear c41b1; try clear c41b2; try clear c43; try clear c43b0; try clear c43b1; try clear c44; try clear c44b0; try clear c44b1; try clear p45; try clear q45; try clear hx45; try clear qi45; try clear c46; try clear c46b0; try clear c46b1; try clear c47; try clear c47b0; try clear c47b1; try clear c47b2; try clear c52; try clear c56; try clear c57; try clear hcz12_0; try clear hcz12_1; try clear hcz12_2; try clear hcz14_0; try clear hcz14_1; try clear hcz14_2; try clear hcz16_0; try clear hcz16_1; try clear hcz16_2; try clear hcz23_0; try clear hcz23_1; try clear hcz23_2; try clear hcz53_0; try clear hcz53_1; try clear hcz58_0; try clear hcz58_1; try clear hcz6_0; try clear hcz6_1; try clear hcz6_2; try clear hcz8_0; try clear hcz8_1; try clear hcz8_2; try clear hfz12_0; try clear hfz12_1; try clear hfz12_2; try clear hfz14_0; try clear hfz14_1; try clear hfz14_2; try clear hfz16_0; try clear hfz16_1; try clear hfz16_2; try clear hfz23_0; try clear hfz23_1; try clear hfz23_2; try clear hfz53_0; try clear hfz53_1; try clear hfz58_0; try clear hfz58_1; try clear hfz6_0; try clear hfz6_1; try clear hfz6_2; try clear hfz8_0; try clear hfz8_1; try clear hfz8_2; try clear p2; try clear p3; try clear p30; try clear p33; try clear p35; try clear p36; try clear p4; try clear p45; try clear p6; try clear q3; try clear q30; try clear q33; try clear q35; try clear q36; try clear q4; try clear q45
             obtain ⟨x12_5, x363000_5, x363001_5, rfl, HA, HK5, BK351, BK359, BK362, HB⟩ := hrel
             cases gk with
             | zero => exact absurd HA.out (by simp [gussetlaw03_RatNear.l1])
             | succ k5 =>
              have H := HA.out
              clear HA
              simp only [gussetlaw03_RatNear.l1] at H
              by_cases c59 : x12_5 < a1
              ·rw [if_pos c59] at H
               have c59b0 := decide_eq_true c59
               clear c59
               obtain ⟨⟨t363, t364⟩, A60, H⟩ := zo H; try dsimp only at H
               obtain ⟨⟨t365, t366⟩, A61, H⟩ := zo H; try dsimp only at H
               have H' := Aside0.mk H
               clear H
               try go_wp2
               replace BK351 := zD BK351; replace BK359 := zD BK359; replace BK362 := zD BK362; replace HB := zF HB
               refine start_ (n := 4) (S := fun w' => w'.cell? ⟨gb362, 0, none⟩ = some (.bool x363000_5) ∧ w'.cell? ⟨gb362, 1, none⟩ = some (.string x363001_5)) (ds := [3]) (zb 4 0) (by kernel_rfl) rfl rfl ⟨zc BK362 0, zc BK362 1⟩ (fun hHeld => ?_)
               generalize wr.drew = w62 at BK351 BK359 BK362 HB hHeld ⊢
               refine take_ (i := 0) (N := some 105) (v := ?_) (a' := ?_) (zb 4 1) rfl rfl (by kernel_rfl) (fun _ _ _ h => h) (Or.inl ⟨by rfl, ?_⟩) hHeld ?_ ?_
               rotate_left
               ·rintro w' ⟨s0, s1⟩
                go_simp
                with_reducible rfl
               rotate_left
               ·simp only [Act.put, List.setIfInBounds_toArray, List.set_cons_zero, List.set_cons_succ, i64_w, i32_w]
                rfl
               refine one_ (i := 1) (N := some 106) (zb 4 3) rfl rfl (by kernel_rfl) (by decide) (fun K hK => ?_)
               refine zJ Tryz.func23 (by kernel_rfl) (gussetref02_Of.calls 10 t363 t364 _ A60.out) fun w63 hb => ?_
               obtain ⟨BK351, BK359, BK362⟩ := zB3 BK351 BK359 BK362 hb; replace HB := zS HB hb
               (try clear hb)
               refine hK.out _ _ ⟨zc BK362 0, zc BK362 1⟩ (fun hHeld => ?_)
               clear hK K
               refine zW (some 106) ?_
               refine one_ (i := 2) (N := some 107) (zb 4 7) rfl rfl (by kernel_rfl) (by decide) (fun K hK => ?_)
               refine zJ Tryz.func24 (by kernel_rfl) (gussetref02_Times.calls x363000_5 x363001_5 t363 t364 t365 t366 _ A61.out) fun w64 hb => ?_
               obtain ⟨BK351, BK359, BK362⟩ := zB3 BK351 BK359 BK362 hb; replace HB := zS HB hb
               (try clear hb)
               refine hK.out _ _ ⟨zc BK362 0, zc BK362 1⟩ (fun hHeld => ?_)
               clear hK K
               refine zW (some 107) ?_
               refine last_ (i := 3) (N := none) (zb 4 15) rfl rfl (by kernel_rfl) (by decide) (fun K hK => ?_)
               have hs65 : w64.cell? ⟨gb362, 0, none⟩ = some (.bool x363000_5) := zc BK362 0
               have hfs65 := blk_frozen BK362.out 0
               have hns65_0 := NB351_362.out
               have hns65_1 := NB359_362.out
               have hms65_0 := NB362_351.out
               have hms65_1 := NB362_359.out
               have hs66 : w64.cell? ⟨gb362, 1, none⟩ = some (.string x363001_5) := zc BK362 1
               have hfs66 := blk_frozen BK362.out 1
               have hns66_0 := NB351_362.out
               have hns66_1 := NB359_362.out
               have hms66_0 := NB362_351.out
               have hms66_1 := NB362_359.out
               refine skip_ (w1 := ?_) (by rfl) rfl ?_ ?_
               rotate_left
               ·go_simp
                rfl
               refine hK.out _ _ ?_
               clear hK K
               refine done_ (by kernel_rfl) ?_
               try go_wp2
               go_roundg k5
               case measure => have := HJ2.out; have := HJ21.out; have := HK3.out; have := HJ41.out; have := HK5.out; omega
               case rel => exact ⟨(wrap64 (x12_5 + 1)), (t365), (t366), zR, H', ⟨by have := HJ2.out; have := HJ21.out; have := HK3.out; have := HJ41.out; have := HK5.out; omega⟩, zK BK351, zK BK359, ⟨by (with_reducible repeat (first | refine blk_drewN ?_ _ | refine blk_drew ?_ | refine blk_alloc ?_ _)); refine zP (cs := #[.bool t365, .string x363001_5]) ?_ 1 _; (with_reducible repeat (first | refine blk_drewN ?_ _ | refine blk_drew ?_ | refine blk_alloc ?_ _)); refine zP (cs := #[.bool x363000_5, .string x363001_5]) ?_ 0 _; (with_reducible repeat (first | refine blk_drewN ?_ _ | refine blk_drew ?_ | refine blk_alloc ?_ _)); exact BK362.out⟩, ⟨zT HB⟩⟩
              ·rw [if_neg c59] at H
               have c59b0 := decide_eq_false c59
               clear c59
               by_cases c67 : t358 = 0
               ·rw [if_pos c67] at H
                have c67b0 := beq_iff_eq.mpr c67
                have c67b1 := bne_eq_false_iff_eq.mpr c67
                clear c67
                obtain ⟨⟨t367, t368, t369⟩, A68, H⟩ := zo H; try dsimp only at H
                obtain ⟨⟨t371, t372, t373⟩, A69, H⟩ := zo H; try dsimp only at H
                obtain ⟨⟨t375, t376⟩, A70, H⟩ := zo H; try dsimp only at H
                obtain ⟨⟨t377, t378⟩, A71, H⟩ := zo H; try dsimp only at H
                obtain ⟨⟨t379, t380⟩, A72, H⟩ := zo H; try dsimp only at H
                obtain ⟨⟨t381, t382, t383⟩, A73, H⟩ := zo H; try dsimp only at H
                obtain ⟨t385, A74, H⟩ := zo H
                by_cases c75 : t385 ≤ 0
                ·rw [if_pos c75] at H
                 have c75b0 := decide_eq_true c75
                 clear c75
                 obtain ⟨t386, A76, H⟩ := zo H
                 obtain rfl := Option.some.inj H
                 have hnb77 := NB359_351.out; have hnc77 := NB351_359.out; have hnb78 := NB359_362.out; have hnc78 := NB362_359.out; obtain ⟨hcz79_0, hcz79_1, hfz79_0, hfz79_1⟩ := z2 BK359; have hnb80 := NB362_351.out; have hnc80 := NB351_362.out; obtain ⟨hcz81_0, hcz81_1, hfz81_0, hfz81_1⟩ := z2 BK362
                 try go_wp2_with (first | ((with_reducible refine gate_callee (f := 16) rfl ?_); refine zO Tryz.func16 (by kernel_rfl) (gussetref03_Lowest.calls t356 t357 x363000_5 x363001_5 t367 t368 t369 _ A68.out) fun w82 hb => ?_; obtain ⟨BK351, BK359, BK362⟩ := zB3 BK351 BK359 BK362 hb; replace HB := zS HB hb; (try clear hb)) | ((with_reducible refine gate_dst (N := 13) rfl ?_); (try (refine gate_guard (by rfl) ?_; dsimp only)); refine zY 13 #[.bool false, .string (⟨#[]⟩ : ByteArray), .string (⟨#[]⟩ : ByteArray)] 27 ?_; intro gb370 hg w83 hbox hb; have BK370 := Aside0.mk (hbox); have GW370 := zG hg HB; have GE370 := zG hg HB; obtain ⟨NB351_370, NB370_351⟩ := zQ hg BK351; obtain ⟨NB359_370, NB370_359⟩ := zQ hg BK359; obtain ⟨NB362_370, NB370_362⟩ := zQ hg BK362; obtain ⟨BK351, BK359, BK362⟩ := zB3 BK351 BK359 BK362 hb; replace HB := zS HB hb; clear hb hbox hg; have hnb84 := NB370_351.out; have hnc84 := NB351_370.out; have hnb85 := NB370_359.out; have hnc85 := NB359_370.out; have hnb86 := NB370_362.out; have hnc86 := NB362_370.out; obtain ⟨hcz87_0, hcz87_1, hcz87_2, hfz87_0, hfz87_1, hfz87_2⟩ := z3 BK370; obtain ⟨hcz88_0, hcz88_1, hcz88_2, hfz88_0, hfz88_1, hfz88_2⟩ := z3 BK351) | ((with_reducible refine gate_callee (f := 25) rfl ?_); refine zO Tryz.func25 (by kernel_rfl) (gussetref03_Less.calls k5 t367 t368 t369 a0_0 a0_1 a0_2 t371 t372 t373 _ A69.out) fun w89 hb => ?_; obtain ⟨BK351, BK359, BK362⟩ := zB3 BK351 BK359 BK362 hb; replace BK370 := Aside0.mk (blk_below (g := gb370) (o := .cells #[.bool t367, .string t368, .string t369] 27 (0, 0)) (by (with_reducible repeat (first | refine blk_drewN ?_ _ | refine blk_drew ?_ | refine blk_alloc ?_ _)); refine zP (cs := #[.bool t367, .string t368, .string (⟨#[]⟩ : ByteArray)]) ?_ 2 _; (with_reducible repeat (first | refine blk_drewN ?_ _ | refine blk_drew ?_ | refine blk_alloc ?_ _)); refine zP (cs := #[.bool t367, .string (⟨#[]⟩ : ByteArray), .string (⟨#[]⟩ : ByteArray)]) ?_ 1 _; (with_reducible repeat (first | refine blk_drewN ?_ _ | refine blk_drew ?_ | refine blk_alloc ?_ _)); refine zP (cs := #[.bool false, .string (⟨#[]⟩ : ByteArray), .string (⟨#[]⟩ : ByteArray)]) ?_ 0 _; (with_reducible repeat (first | refine blk_drewN ?_ _ | refine blk_drew ?_ | refine blk_alloc ?_ _)); exact BK370.out) hb); replace HB := zS HB hb; (try clear hb)) | ((with_reducible refine gate_dst (N := 14) rfl ?_); (try (refine gate_guard (by rfl) ?_; dsimp only)); refine zY 14 #[.bool false, .string (⟨#[]⟩ : ByteArray), .string (⟨#[]⟩ : ByteArray)] 27 ?_; intro gb374 hg w90 hbox hb; have BK374 := Aside0.mk (hbox); have GW374 := zG hg HB; have GE374 := zG hg HB; obtain ⟨NB351_374, NB374_351⟩ := zQ hg BK351; obtain ⟨NB359_374, NB374_359⟩ := zQ hg BK359; obtain ⟨NB362_374, NB374_362⟩ := zQ hg BK362; obtain ⟨NB370_374, NB374_370⟩ := zQ hg BK370; obtain ⟨BK351, BK359, BK362, BK370⟩ := zB4 BK351 BK359 BK362 BK370 hb; replace HB := zS HB hb; clear hb hbox hg; have hnb91 := NB374_351.out; have hnc91 := NB351_374.out; have hnb92 := NB374_359.out; have hnc92 := NB359_374.out; have hnb93 := NB374_362.out; have hnc93 := NB362_374.out; have hnb94 := NB374_370.out; have hnc94 := NB370_374.out; obtain ⟨hcz95_0, hcz95_1, hcz95_2, hfz95_0, hfz95_1, hfz95_2⟩ := z3 BK374))
                 have n0_ : Aside0 (((((w90.setCell ⟨gb374, 0, none⟩ (.bool t371)).setCell ⟨gb374, 1, none⟩ (.string t372)).setCell ⟨gb374, 2, none⟩ (.string t373)).setCell ⟨gb374, 0, none⟩ (.bool false)).heap[gb351]? = some (.cells #[.bool a0_0, .string a0_1, .string a0_2] 27 (0, 0))) := zK BK351; have n1_ : Aside0 (((((w90.setCell ⟨gb374, 0, none⟩ (.bool t371)).setCell ⟨gb374, 1, none⟩ (.string t372)).setCell ⟨gb374, 2, none⟩ (.string t373)).setCell ⟨gb374, 0, none⟩ (.bool false)).heap[gb359]? = some (.cells #[.bool t356, .string t357] 24 (0, 0))) := zK BK359; have n2_ : Aside0 (((((w90.setCell ⟨gb374, 0, none⟩ (.bool t371)).setCell ⟨gb374, 1, none⟩ (.string t372)).setCell ⟨gb374, 2, none⟩ (.string t373)).setCell ⟨gb374, 0, none⟩ (.bool false)).heap[gb362]? = some (.cells #[.bool x363000_5, .string x363001_5] 24 (0, 0))) := zK BK362; have n3_ : Aside0 (((((w90.setCell ⟨gb374, 0, none⟩ (.bool t371)).setCell ⟨gb374, 1, none⟩ (.string t372)).setCell ⟨gb374, 2, none⟩ (.string t373)).setCell ⟨gb374, 0, none⟩ (.bool false)).heap[gb370]? = some (.cells #[.bool t367, .string t368, .string t369] 27 (0, 0))) := zK BK370; have n4_ : Aside0 (((((w90.setCell ⟨gb374, 0, none⟩ (.bool t371)).setCell ⟨gb374, 1, none⟩ (.string t372)).setCell ⟨gb374, 2, none⟩ (.string t373)).setCell ⟨gb374, 0, none⟩ (.bool false)).heap[gb374]? = some (.cells #[.bool false, .string t372, .string t373] 27 (0, 0))) := ⟨by (with_reducible repeat (first | refine blk_drewN ?_ _ | refine blk_drew ?_ | refine blk_alloc ?_ _)); refine zP (cs := #[.bool t371, .string t372, .string t373]) ?_ 0 _; (with_reducible repeat (first | refine blk_drewN ?_ _ | refine blk_drew ?_ | refine blk_alloc ?_ _)); refine zP (cs := #[.bool t371, .string t372, .string (⟨#[]⟩ : ByteArray)]) ?_ 2 _; (with_reducible repeat (first | refine blk_drewN ?_ _ | refine blk_drew ?_ | refine blk_alloc ?_ _)); refine zP (cs := #[.bool t371, .string (⟨#[]⟩ : ByteArray), .string (⟨#[]⟩ : ByteArray)]) ?_ 1 _; (with_reducible repeat (first | refine blk_drewN ?_ _ | refine blk_drew ?_ | refine blk_alloc ?_ _)); refine zP (cs := #[.bool false, .string (⟨#[]⟩ : ByteArray), .string (⟨#[]⟩ : ByteArray)]) ?_ 0 _; (with_reducible repeat (first | refine blk_drewN ?_ _ | refine blk_drew ?_ | refine blk_alloc ?_ _)); exact BK374.out⟩; have n5_ : Aside0 (Below w.heap.size w ((((w90.setCell ⟨gb374, 0, none⟩ (.bool t371)).setCell ⟨gb374, 1, none⟩ (.string t372)).setCell ⟨gb374, 2, none⟩ (.string t373)).setCell ⟨gb374, 0, none⟩ (.bool false))) := ⟨zT HB⟩
                 (try clear BK351)
                 (try clear BK359)
                 (try clear BK362)
                 (try clear BK370)
                 (try clear BK374)
                 (try clear HB)
                 generalize ((((w90.setCell ⟨gb374, 0, none⟩ (.bool t371)).setCell ⟨gb374, 1, none⟩ (.string t372)).setCell ⟨gb374, 2, none⟩ (.string t373)).setCell ⟨gb374, 0, none⟩ (.bool false)) = w96 at n0_ n1_ n2_ n3_ n4_ n5_ ⊢
                 have BK351 := n0_; have BK359 := n1_
                 have BK362 := n2_; have BK370 := n3_
                 have BK374 := n4_; have HB := n5_
                 clear n0_ n1_ n2_ n3_ n4_ n5_; replace BK351 := zD BK351; replace BK359 := zD BK359; replace BK362 := zD BK362; replace BK370 := zD BK370; replace BK374 := zD BK374; replace HB := zF HB
                 refine start_ (n := 7) (S := fun w' => w'.cell? ⟨gb362, 0, none⟩ = some (.bool x363000_5) ∧ w'.cell? ⟨gb362, 1, none⟩ = some (.string x363001_5)) (ds := []) (zb 7 0) (by kernel_rfl) rfl rfl ⟨zc BK362 0, zc BK362 1⟩ (fun hHeld => ?_)
                 generalize w96.drew = w97 at BK351 BK359 BK362 BK370 BK374 HB hHeld ⊢
                 refine take_ (i := 1) (N := some 119) (v := ?_) (a' := ?_) (zb 7 2) rfl rfl (by kernel_rfl) (fun _ _ _ h => h) (Or.inl ⟨by rfl, ?_⟩) hHeld ?_ ?_
                 rotate_left
                 ·rintro w' ⟨s0, s1⟩
                  go_simp
                  with_reducible rfl
                 rotate_left
                 ·simp only [Act.put, List.setIfInBounds_toArray, List.set_cons_zero, List.set_cons_succ, i64_w, i32_w]
                  rfl
                 refine join_ (σ := Nat) 1 (zb 7 63) (fun s_ => [(118, .agg #[.bool t375, .string t376]), (120, .agg #[.bool t377, .string t378]), (121, .agg #[.bool t379, .string t380]), (122, .agg #[.bool t381, .string t382, .string t383]), (15, .pointer (some ⟨s_, 0, none⟩))]) (fun s_ w' => (w'.cell? ⟨gb362, 0, none⟩ = some (.bool x363000_5) ∧ w'.cell? ⟨gb362, 1, none⟩ = some (.string x363001_5)) ∧ (w'.heap[gb351]? = some (.cells #[.bool a0_0, .string a0_1, .string a0_2] 27 (0, 0))) ∧ (w'.heap[gb359]? = some (.cells #[.bool t356, .string t357] 24 (0, 0))) ∧ (w'.heap[gb362]? = some (.cells #[.bool x363000_5, .string x363001_5] 24 (0, 0))) ∧ (w'.heap[gb370]? = some (.cells #[.bool t367, .string t368, .string t369] 27 (0, 0))) ∧ (w'.heap[gb374]? = some (.cells #[.bool false, .string t372, .string t373] 27 (0, 0))) ∧ (w'.heap[s_]? = some (.cells #[.bool false, .string (⟨#[]⟩ : ByteArray), .string (⟨#[]⟩ : ByteArray)] 27 (0, 0))) ∧ (w.heap.size ≤ s_) ∧ (w.heap.size ≤ s_) ∧ (gb351 ≠ s_) ∧ (s_ ≠ gb351) ∧ (gb359 ≠ s_) ∧ (s_ ≠ gb359) ∧ (gb362 ≠ s_) ∧ (s_ ≠ gb362) ∧ (gb370 ≠ s_) ∧ (s_ ≠ gb370) ∧ (gb374 ≠ s_) ∧ (s_ ≠ gb374) ∧ (Below w.heap.size w w')) ?_ ?_
                 rotate_left
                 ·intro hJ0_2_3_4_5
                  refine join_ (σ := Unit) 2 (zb 7 31) (fun s_ => [(118, .agg #[.bool t375, .string t376]), (120, .agg #[.bool t377, .string t378]), (121, .agg #[.bool t379, .string t380]), (122, .agg #[.bool t381, .string t382, .string t383])]) (fun s_ w' => (w'.cell? ⟨gb362, 0, none⟩ = some (.bool x363000_5) ∧ w'.cell? ⟨gb362, 1, none⟩ = some (.string x363001_5)) ∧ (w'.heap[gb351]? = some (.cells #[.bool a0_0, .string a0_1, .string a0_2] 27 (0, 0))) ∧ (w'.heap[gb359]? = some (.cells #[.bool t356, .string t357] 24 (0, 0))) ∧ (w'.heap[gb362]? = some (.cells #[.bool x363000_5, .string x363001_5] 24 (0, 0))) ∧ (w'.heap[gb370]? = some (.cells #[.bool t367, .string t368, .string t369] 27 (0, 0))) ∧ (w'.heap[gb374]? = some (.cells #[.bool false, .string t372, .string t373] 27 (0, 0))) ∧ (Below w.heap.size w w')) ?_ ?_
                  rotate_left
                  ·intro hJ0_2_3_4
                   refine join_ (σ := Nat) 2 (zb 7 47) (fun s_ => [(118, .agg #[.bool t375, .string t376]), (120, .agg #[.bool t377, .string t378]), (121, .agg #[.bool t379, .string t380]), (15, .pointer (some ⟨s_, 0, none⟩))]) (fun s_ w' => (w'.cell? ⟨gb362, 0, none⟩ = some (.bool x363000_5) ∧ w'.cell? ⟨gb362, 1, none⟩ = some (.string x363001_5)) ∧ (w'.heap[gb351]? = some (.cells #[.bool a0_0, .string a0_1, .string a0_2] 27 (0, 0))) ∧ (w'.heap[gb359]? = some (.cells #[.bool t356, .string t357] 24 (0, 0))) ∧ (w'.heap[gb362]? = some (.cells #[.bool x363000_5, .string x363001_5] 24 (0, 0))) ∧ (w'.heap[gb370]? = some (.cells #[.bool t367, .string t368, .string t369] 27 (0, 0))) ∧ (w'.heap[gb374]? = some (.cells #[.bool false, .string t372, .string t373] 27 (0, 0))) ∧ (w'.heap[s_]? = some (.cells #[.bool false, .string (⟨#[]⟩ : ByteArray), .string (⟨#[]⟩ : ByteArray)] 27 (0, 0))) ∧ (w.heap.size ≤ s_) ∧ (w.heap.size ≤ s_) ∧ (gb351 ≠ s_) ∧ (s_ ≠ gb351) ∧ (gb359 ≠ s_) ∧ (s_ ≠ gb359) ∧ (gb362 ≠ s_) ∧ (s_ ≠ gb362) ∧ (gb370 ≠ s_) ∧ (s_ ≠ gb370) ∧ (gb374 ≠ s_) ∧ (s_ ≠ gb374) ∧ (Below w.heap.size w w')) ?_ ?_
                   rotate_left
                   ·intro hJ0_2_3_5
                    refine join_ (σ := Unit) 3 (zb 7 15) (fun s_ => [(118, .agg #[.bool t375, .string t376]), (120, .agg #[.bool t377, .string t378]), (121, .agg #[.bool t379, .string t380])]) (fun s_ w' => (w'.cell? ⟨gb362, 0, none⟩ = some (.bool x363000_5) ∧ w'.cell? ⟨gb362, 1, none⟩ = some (.string x363001_5)) ∧ (w'.heap[gb351]? = some (.cells #[.bool a0_0, .string a0_1, .string a0_2] 27 (0, 0))) ∧ (w'.heap[gb359]? = some (.cells #[.bool t356, .string t357] 24 (0, 0))) ∧ (w'.heap[gb362]? = some (.cells #[.bool x363000_5, .string x363001_5] 24 (0, 0))) ∧ (w'.heap[gb370]? = some (.cells #[.bool t367, .string t368, .string t369] 27 (0, 0))) ∧ (w'.heap[gb374]? = some (.cells #[.bool false, .string t372, .string t373] 27 (0, 0))) ∧ (Below w.heap.size w w')) ?_ ?_
                    rotate_left
                    ·intro hJ0_2_3
                     refine join_ (σ := Nat) 3 (zb 7 39) (fun s_ => [(118, .agg #[.bool t375, .string t376]), (120, .agg #[.bool t377, .string t378]), (15, .pointer (some ⟨s_, 0, none⟩))]) (fun s_ w' => (w'.cell? ⟨gb362, 0, none⟩ = some (.bool x363000_5) ∧ w'.cell? ⟨gb362, 1, none⟩ = some (.string x363001_5)) ∧ (w'.heap[gb351]? = some (.cells #[.bool a0_0, .string a0_1, .string a0_2] 27 (0, 0))) ∧ (w'.heap[gb359]? = some (.cells #[.bool t356, .string t357] 24 (0, 0))) ∧ (w'.heap[gb362]? = some (.cells #[.bool x363000_5, .string x363001_5] 24 (0, 0))) ∧ (w'.heap[gb370]? = some (.cells #[.bool t367, .string t368, .string t369] 27 (0, 0))) ∧ (w'.heap[gb374]? = some (.cells #[.bool false, .string t372, .string t373] 27 (0, 0))) ∧ (w'.heap[s_]? = some (.cells #[.bool false, .string (⟨#[]⟩ : ByteArray), .string (⟨#[]⟩ : ByteArray)] 27 (0, 0))) ∧ (w.heap.size ≤ s_) ∧ (w.heap.size ≤ s_) ∧ (gb351 ≠ s_) ∧ (s_ ≠ gb351) ∧ (gb359 ≠ s_) ∧ (s_ ≠ gb359) ∧ (gb362 ≠ s_) ∧ (s_ ≠ gb362) ∧ (gb370 ≠ s_) ∧ (s_ ≠ gb370) ∧ (gb374 ≠ s_) ∧ (s_ ≠ gb374) ∧ (Below w.heap.size w w')) ?_ ?_
                     rotate_left
                     ·intro hJ0_2_5
                      refine join_ (σ := Unit) 4 (zb 7 7) (fun s_ => [(118, .agg #[.bool t375, .string t376]), (120, .agg #[.bool t377, .string t378])]) (fun s_ w' => (w'.cell? ⟨gb362, 0, none⟩ = some (.bool x363000_5) ∧ w'.cell? ⟨gb362, 1, none⟩ = some (.string x363001_5)) ∧ (w'.heap[gb351]? = some (.cells #[.bool a0_0, .string a0_1, .string a0_2] 27 (0, 0))) ∧ (w'.heap[gb359]? = some (.cells #[.bool t356, .string t357] 24 (0, 0))) ∧ (w'.heap[gb362]? = some (.cells #[.bool x363000_5, .string x363001_5] 24 (0, 0))) ∧ (w'.heap[gb370]? = some (.cells #[.bool t367, .string t368, .string t369] 27 (0, 0))) ∧ (w'.heap[gb374]? = some (.cells #[.bool false, .string t372, .string t373] 27 (0, 0))) ∧ (Below w.heap.size w w')) ?_ ?_
                      rotate_left
                      ·intro hJ0_2
                       refine join_ (σ := Nat) 4 (zb 7 35) (fun s_ => [(118, .agg #[.bool t375, .string t376]), (15, .pointer (some ⟨s_, 0, none⟩))]) (fun s_ w' => (w'.cell? ⟨gb362, 0, none⟩ = some (.bool x363000_5) ∧ w'.cell? ⟨gb362, 1, none⟩ = some (.string x363001_5)) ∧ (w'.heap[gb351]? = some (.cells #[.bool a0_0, .string a0_1, .string a0_2] 27 (0, 0))) ∧ (w'.heap[gb359]? = some (.cells #[.bool t356, .string t357] 24 (0, 0))) ∧ (w'.heap[gb362]? = some (.cells #[.bool x363000_5, .string x363001_5] 24 (0, 0))) ∧ (w'.heap[gb370]? = some (.cells #[.bool t367, .string t368, .string t369] 27 (0, 0))) ∧ (w'.heap[gb374]? = some (.cells #[.bool false, .string t372, .string t373] 27 (0, 0))) ∧ (w'.heap[s_]? = some (.cells #[.bool false, .string (⟨#[]⟩ : ByteArray), .string (⟨#[]⟩ : ByteArray)] 27 (0, 0))) ∧ (w.heap.size ≤ s_) ∧ (w.heap.size ≤ s_) ∧ (gb351 ≠ s_) ∧ (s_ ≠ gb351) ∧ (gb359 ≠ s_) ∧ (s_ ≠ gb359) ∧ (gb362 ≠ s_) ∧ (s_ ≠ gb362) ∧ (gb370 ≠ s_) ∧ (s_ ≠ gb370) ∧ (gb374 ≠ s_) ∧ (s_ ≠ gb374) ∧ (Below w.heap.size w w')) ?_ ?_
                       rotate_left
                       ·intro hJ0_5
                        refine join_ (σ := Unit) 5 (zb 7 3) (fun s_ => [(118, .agg #[.bool t375, .string t376])]) (fun s_ w' => (w'.cell? ⟨gb362, 0, none⟩ = some (.bool x363000_5) ∧ w'.cell? ⟨gb362, 1, none⟩ = some (.string x363001_5)) ∧ (w'.heap[gb351]? = some (.cells #[.bool a0_0, .string a0_1, .string a0_2] 27 (0, 0))) ∧ (w'.heap[gb359]? = some (.cells #[.bool t356, .string t357] 24 (0, 0))) ∧ (w'.heap[gb362]? = some (.cells #[.bool x363000_5, .string x363001_5] 24 (0, 0))) ∧ (w'.heap[gb370]? = some (.cells #[.bool t367, .string t368, .string t369] 27 (0, 0))) ∧ (w'.heap[gb374]? = some (.cells #[.bool false, .string t372, .string t373] 27 (0, 0))) ∧ (Below w.heap.size w w')) ?_ ?_
                        rotate_left
                        ·intro hJ0
                         refine join_ (σ := Nat) 5 (zb 7 34) (fun s_ => [(15, .pointer (some ⟨s_, 0, none⟩))]) (fun s_ w' => (w'.cell? ⟨gb362, 0, none⟩ = some (.bool x363000_5) ∧ w'.cell? ⟨gb362, 1, none⟩ = some (.string x363001_5)) ∧ (w'.heap[gb351]? = some (.cells #[.bool a0_0, .string a0_1, .string a0_2] 27 (0, 0))) ∧ (w'.heap[gb359]? = some (.cells #[.bool t356, .string t357] 24 (0, 0))) ∧ (w'.heap[gb362]? = some (.cells #[.bool x363000_5, .string x363001_5] 24 (0, 0))) ∧ (w'.heap[gb370]? = some (.cells #[.bool t367, .string t368, .string t369] 27 (0, 0))) ∧ (w'.heap[gb374]? = some (.cells #[.bool false, .string t372, .string t373] 27 (0, 0))) ∧ (w'.heap[s_]? = some (.cells #[.bool false, .string (⟨#[]⟩ : ByteArray), .string (⟨#[]⟩ : ByteArray)] 27 (0, 0))) ∧ (w.heap.size ≤ s_) ∧ (w.heap.size ≤ s_) ∧ (gb351 ≠ s_) ∧ (s_ ≠ gb351) ∧ (gb359 ≠ s_) ∧ (s_ ≠ gb359) ∧ (gb362 ≠ s_) ∧ (s_ ≠ gb362) ∧ (gb370 ≠ s_) ∧ (s_ ≠ gb370) ∧ (gb374 ≠ s_) ∧ (s_ ≠ gb374) ∧ (Below w.heap.size w w')) ?_ ?_
                         rotate_left
                         ·intro hJ5
                          refine two_ (i := 0) (j := 5) (Ni := some 118) (Nj := some 15) (zb 7 3) (zb 7 34) rfl rfl rfl rfl (by kernel_rfl) (by decide) (by decide) (fun K hK => ?_) (fun K hK => ?_)
                          ·skip
                           refine zJ Tryz.func23 (by kernel_rfl) (gussetref02_Of.calls 1 t375 t376 _ A70.out) fun w98 hb => ?_
                           obtain ⟨BK351, BK359, BK362, BK370, BK374⟩ := zB5 BK351 BK359 BK362 BK370 BK374 hb; replace HB := zS HB hb
                           (try clear hb)
                           refine hK.out _ _ ⟨zc BK362 0, zc BK362 1⟩ (fun hHeld => ?_)
                           clear hK K
                           refine zW (some 118) ?_
                           exact zA (hJ0 () _ ⟨hHeld, (zK BK351).out, (zK BK359).out, (zK BK362).out, (zK BK370).out, (zK BK374).out, (zT HB)⟩)
                          ·skip
                           refine box_step ?hg (N := 15) ?hd (cs := #[.bool false, .string (⟨#[]⟩ : ByteArray), .string (⟨#[]⟩ : ByteArray)]) (t := 27) ?hr ?_; (case hd => rfl); (case hg => rfl); (case hr => first | (go_simp; done) | (go_simp; rfl))
                           intro gb384 hg w98 hbox hb
                           have BK384 := Aside0.mk (hbox); have GW384 := zG hg HB; have GE384 := zG hg HB; obtain ⟨NB351_384, NB384_351⟩ := zQ hg BK351; obtain ⟨NB359_384, NB384_359⟩ := zQ hg BK359; obtain ⟨NB362_384, NB384_362⟩ := zQ hg BK362; obtain ⟨NB370_384, NB384_370⟩ := zQ hg BK370; obtain ⟨NB374_384, NB384_374⟩ := zQ hg BK374; obtain ⟨BK351, BK359, BK362, BK370, BK374⟩ := zB5 BK351 BK359 BK362 BK370 BK374 hb; replace HB := zS HB hb; clear hb hbox hg
                           refine hK.out _ _ ⟨zc BK362 0, zc BK362 1⟩ (fun hHeld => ?_)
                           clear hK K
                           refine zW (some 15) ?_
                           exact zA (hJ5 (gb384) _ ⟨hHeld, (zK BK351).out, (zK BK359).out, (zK BK362).out, (zK BK370).out, (zK BK374).out, (zK BK384).out, GW384.out, GE384.out, NB351_384.out, NB384_351.out, NB359_384.out, NB384_359.out, NB362_384.out, NB384_362.out, NB370_384.out, NB384_370.out, NB374_384.out, NB384_374.out, (zT HB)⟩)
                         ·skip
                          rintro gb384 w99 ⟨hS_, h0_, h1_, h2_, h3_, h4_, h5_, h6_, h7_, h8_, h9_, h10_, h11_, h12_, h13_, h14_, h15_, h16_, h17_, h18_⟩
                          replace BK351 := Aside0.mk h0_; replace BK359 := Aside0.mk h1_; replace BK362 := Aside0.mk h2_; replace BK370 := Aside0.mk h3_; replace BK374 := Aside0.mk h4_; have BK384 := Aside0.mk h5_; have GW384 := Aside0.mk h6_; have GE384 := Aside0.mk h7_; have NB351_384 := Aside0.mk h8_; have NB384_351 := Aside0.mk h9_; have NB359_384 := Aside0.mk h10_; have NB384_359 := Aside0.mk h11_; have NB362_384 := Aside0.mk h12_; have NB384_362 := Aside0.mk h13_; have NB370_384 := Aside0.mk h14_; have NB384_370 := Aside0.mk h15_; have NB374_384 := Aside0.mk h16_; have NB384_374 := Aside0.mk h17_; replace HB := Aside0.mk h18_; clear h0_ h1_ h2_ h3_ h4_ h5_ h6_ h7_ h8_ h9_ h10_ h11_ h12_ h13_ h14_ h15_ h16_ h17_ h18_
                          have hHeld := hS_
                          refine norm_ (a' := ?_) ?_ ?_
                          rotate_left
                          ·simp only [putAll, Act.put, List.setIfInBounds_toArray, List.set_cons_zero, List.set_cons_succ]
                           rfl
                          refine one_ (i := 0) (N := some 118) (zb 7 35) rfl rfl (by kernel_rfl) (by decide) (fun K hK => ?_)
                          refine zJ Tryz.func23 (by kernel_rfl) (gussetref02_Of.calls 1 t375 t376 _ A70.out) fun w100 hb => ?_
                          obtain ⟨BK351, BK359, BK362, BK370, BK374, BK384⟩ := zB6 BK351 BK359 BK362 BK370 BK374 BK384 hb; replace HB := zS HB hb
                          (try clear hb)
                          refine hK.out _ _ ⟨zc BK362 0, zc BK362 1⟩ (fun hHeld => ?_)
                          clear hK K
                          refine zW (some 118) ?_
                          exact zA (hJ0_5 (gb384) _ ⟨hHeld, (zK BK351).out, (zK BK359).out, (zK BK362).out, (zK BK370).out, (zK BK374).out, (zK BK384).out, GW384.out, GE384.out, NB351_384.out, NB384_351.out, NB359_384.out, NB384_359.out, NB362_384.out, NB384_362.out, NB370_384.out, NB384_370.out, NB374_384.out, NB384_374.out, (zT HB)⟩)
                        ·skip
                         rintro _ w99 ⟨hS_, h0_, h1_, h2_, h3_, h4_, h5_⟩
                         replace BK351 := Aside0.mk h0_; replace BK359 := Aside0.mk h1_; replace BK362 := Aside0.mk h2_; replace BK370 := Aside0.mk h3_; replace BK374 := Aside0.mk h4_; replace HB := Aside0.mk h5_; clear h0_ h1_ h2_ h3_ h4_ h5_
                         have hHeld := hS_
                         refine norm_ (a' := ?_) ?_ ?_
                         rotate_left
                         ·simp only [putAll, Act.put, List.setIfInBounds_toArray, List.set_cons_zero, List.set_cons_succ]
                          rfl
                         refine two_ (i := 2) (j := 5) (Ni := some 120) (Nj := some 15) (zb 7 7) (zb 7 35) rfl rfl rfl rfl (by kernel_rfl) (by decide) (by decide) (fun K hK => ?_) (fun K hK => ?_)
                         ·skip
                          refine zJ Tryz.func23 (by kernel_rfl) (gussetref02_Of.calls 2 t377 t378 _ A71.out) fun w100 hb => ?_
                          obtain ⟨BK351, BK359, BK362, BK370, BK374⟩ := zB5 BK351 BK359 BK362 BK370 BK374 hb; replace HB := zS HB hb
                          (try clear hb)
                          refine hK.out _ _ ⟨zc BK362 0, zc BK362 1⟩ (fun hHeld => ?_)
                          clear hK K
                          refine zW (some 120) ?_
                          exact zA (hJ0_2 () _ ⟨hHeld, (zK BK351).out, (zK BK359).out, (zK BK362).out, (zK BK370).out, (zK BK374).out, (zT HB)⟩)
                         ·skip
                          refine box_step ?hg (N := 15) ?hd (cs := #[.bool false, .string (⟨#[]⟩ : ByteArray), .string (⟨#[]⟩ : ByteArray)]) (t := 27) ?hr ?_; (case hd => rfl); (case hg => rfl); (case hr => first | (go_simp; done) | (go_simp; rfl))
                          intro gb384 hg w100 hbox hb
                          have BK384 := Aside0.mk (hbox); have GW384 := zG hg HB; have GE384 := zG hg HB; obtain ⟨NB351_384, NB384_351⟩ := zQ hg BK351; obtain ⟨NB359_384, NB384_359⟩ := zQ hg BK359; obtain ⟨NB362_384, NB384_362⟩ := zQ hg BK362; obtain ⟨NB370_384, NB384_370⟩ := zQ hg BK370; obtain ⟨NB374_384, NB384_374⟩ := zQ hg BK374; obtain ⟨BK351, BK359, BK362, BK370, BK374⟩ := zB5 BK351 BK359 BK362 BK370 BK374 hb; replace HB := zS HB hb; clear hb hbox hg
                          refine hK.out _ _ ⟨zc BK362 0, zc BK362 1⟩ (fun hHeld => ?_)
                          clear hK K
                          refine zW (some 15) ?_
                          exact zA (hJ0_5 (gb384) _ ⟨hHeld, (zK BK351).out, (zK BK359).out, (zK BK362).out, (zK BK370).out, (zK BK374).out, (zK BK384).out, GW384.out, GE384.out, NB351_384.out, NB384_351.out, NB359_384.out, NB384_359.out, NB362_384.out, NB384_362.out, NB370_384.out, NB384_370.out, NB374_384.out, NB384_374.out, (zT HB)⟩)
                       ·skip
                        rintro gb384 w100 ⟨hS_, h0_, h1_, h2_, h3_, h4_, h5_, h6_, h7_, h8_, h9_, h10_, h11_, h12_, h13_, h14_, h15_, h16_, h17_, h18_⟩
                        replace BK351 := Aside0.mk h0_; replace BK359 := Aside0.mk h1_; replace BK362 := Aside0.mk h2_; replace BK370 := Aside0.mk h3_; replace BK374 := Aside0.mk h4_; have BK384 := Aside0.mk h5_; have GW384 := Aside0.mk h6_; have GE384 := Aside0.mk h7_; have NB351_384 := Aside0.mk h8_; have NB384_351 := Aside0.mk h9_; have NB359_384 := Aside0.mk h10_; have NB384_359 := Aside0.mk h11_; have NB362_384 := Aside0.mk h12_; have NB384_362 := Aside0.mk h13_; have NB370_384 := Aside0.mk h14_; have NB384_370 := Aside0.mk h15_; have NB374_384 := Aside0.mk h16_; have NB384_374 := Aside0.mk h17_; replace HB := Aside0.mk h18_; clear h0_ h1_ h2_ h3_ h4_ h5_ h6_ h7_ h8_ h9_ h10_ h11_ h12_ h13_ h14_ h15_ h16_ h17_ h18_
                        have hHeld := hS_
                        refine norm_ (a' := ?_) ?_ ?_
                        rotate_left
                        ·simp only [putAll, Act.put, List.setIfInBounds_toArray, List.set_cons_zero, List.set_cons_succ]
                         rfl
                        refine one_ (i := 2) (N := some 120) (zb 7 39) rfl rfl (by kernel_rfl) (by decide) (fun K hK => ?_)
                        refine zJ Tryz.func23 (by kernel_rfl) (gussetref02_Of.calls 2 t377 t378 _ A71.out) fun w101 hb => ?_
                        obtain ⟨BK351, BK359, BK362, BK370, BK374, BK384⟩ := zB6 BK351 BK359 BK362 BK370 BK374 BK384 hb; replace HB := zS HB hb
                        (try clear hb)
                        refine hK.out _ _ ⟨zc BK362 0, zc BK362 1⟩ (fun hHeld => ?_)
                        clear hK K
                        refine zW (some 120) ?_
                        exact zA (hJ0_2_5 (gb384) _ ⟨hHeld, (zK BK351).out, (zK BK359).out, (zK BK362).out, (zK BK370).out, (zK BK374).out, (zK BK384).out, GW384.out, GE384.out, NB351_384.out, NB384_351.out, NB359_384.out, NB384_359.out, NB362_384.out, NB384_362.out, NB370_384.out, NB384_370.out, NB374_384.out, NB384_374.out, (zT HB)⟩)
                      ·skip
                       rintro _ w100 ⟨hS_, h0_, h1_, h2_, h3_, h4_, h5_⟩
                       replace BK351 := Aside0.mk h0_; replace BK359 := Aside0.mk h1_; replace BK362 := Aside0.mk h2_; replace BK370 := Aside0.mk h3_; replace BK374 := Aside0.mk h4_; replace HB := Aside0.mk h5_; clear h0_ h1_ h2_ h3_ h4_ h5_
                       have hHeld := hS_
                       refine norm_ (a' := ?_) ?_ ?_
                       rotate_left
                       ·simp only [putAll, Act.put, List.setIfInBounds_toArray, List.set_cons_zero, List.set_cons_succ]
                        rfl
                       refine two_ (i := 3) (j := 5) (Ni := some 121) (Nj := some 15) (zb 7 15) (zb 7 39) rfl rfl rfl rfl (by kernel_rfl) (by decide) (by decide) (fun K hK => ?_) (fun K hK => ?_)
                       ·skip
                        refine zJ Tryz.func24 (by kernel_rfl) (gussetref02_Times.calls x363000_5 x363001_5 t377 t378 t379 t380 _ A72.out) fun w101 hb => ?_
                        obtain ⟨BK351, BK359, BK362, BK370, BK374⟩ := zB5 BK351 BK359 BK362 BK370 BK374 hb; replace HB := zS HB hb
                        (try clear hb)
                        refine hK.out _ _ ⟨zc BK362 0, zc BK362 1⟩ (fun hHeld => ?_)
                        clear hK K
                        refine zW (some 121) ?_
                        exact zA (hJ0_2_3 () _ ⟨hHeld, (zK BK351).out, (zK BK359).out, (zK BK362).out, (zK BK370).out, (zK BK374).out, (zT HB)⟩)
                       ·skip
                        refine box_step ?hg (N := 15) ?hd (cs := #[.bool false, .string (⟨#[]⟩ : ByteArray), .string (⟨#[]⟩ : ByteArray)]) (t := 27) ?hr ?_; (case hd => rfl); (case hg => rfl); (case hr => first | (go_simp; done) | (go_simp; rfl))
                        intro gb384 hg w101 hbox hb
                        have BK384 := Aside0.mk (hbox); have GW384 := zG hg HB; have GE384 := zG hg HB; obtain ⟨NB351_384, NB384_351⟩ := zQ hg BK351; obtain ⟨NB359_384, NB384_359⟩ := zQ hg BK359; obtain ⟨NB362_384, NB384_362⟩ := zQ hg BK362; obtain ⟨NB370_384, NB384_370⟩ := zQ hg BK370; obtain ⟨NB374_384, NB384_374⟩ := zQ hg BK374; obtain ⟨BK351, BK359, BK362, BK370, BK374⟩ := zB5 BK351 BK359 BK362 BK370 BK374 hb; replace HB := zS HB hb; clear hb hbox hg
                        refine hK.out _ _ ⟨zc BK362 0, zc BK362 1⟩ (fun hHeld => ?_)
                        clear hK K
                        refine zW (some 15) ?_
                        exact zA (hJ0_2_5 (gb384) _ ⟨hHeld, (zK BK351).out, (zK BK359).out, (zK BK362).out, (zK BK370).out, (zK BK374).out, (zK BK384).out, GW384.out, GE384.out, NB351_384.out, NB384_351.out, NB359_384.out, NB384_359.out, NB362_384.out, NB384_362.out, NB370_384.out, NB384_370.out, NB374_384.out, NB384_374.out, (zT HB)⟩)
                     ·skip
                      rintro gb384 w101 ⟨hS_, h0_, h1_, h2_, h3_, h4_, h5_, h6_, h7_, h8_, h9_, h10_, h11_, h12_, h13_, h14_, h15_, h16_, h17_, h18_⟩
                      replace BK351 := Aside0.mk h0_; replace BK359 := Aside0.mk h1_; replace BK362 := Aside0.mk h2_; replace BK370 := Aside0.mk h3_; replace BK374 := Aside0.mk h4_; have BK384 := Aside0.mk h5_; have GW384 := Aside0.mk h6_; have GE384 := Aside0.mk h7_; have NB351_384 := Aside0.mk h8_; have NB384_351 := Aside0.mk h9_; have NB359_384 := Aside0.mk h10_; have NB384_359 := Aside0.mk h11_; have NB362_384 := Aside0.mk h12_; have NB384_362 := Aside0.mk h13_; have NB370_384 := Aside0.mk h14_; have NB384_370 := Aside0.mk h15_; have NB374_384 := Aside0.mk h16_; have NB384_374 := Aside0.mk h17_; replace HB := Aside0.mk h18_; clear h0_ h1_ h2_ h3_ h4_ h5_ h6_ h7_ h8_ h9_ h10_ h11_ h12_ h13_ h14_ h15_ h16_ h17_ h18_
                      have hHeld := hS_
                      refine norm_ (a' := ?_) ?_ ?_
                      rotate_left
                      ·simp only [putAll, Act.put, List.setIfInBounds_toArray, List.set_cons_zero, List.set_cons_succ]
                       rfl
                      refine one_ (i := 3) (N := some 121) (zb 7 47) rfl rfl (by kernel_rfl) (by decide) (fun K hK => ?_)
                      refine zJ Tryz.func24 (by kernel_rfl) (gussetref02_Times.calls x363000_5 x363001_5 t377 t378 t379 t380 _ A72.out) fun w102 hb => ?_
                      obtain ⟨BK351, BK359, BK362, BK370, BK374, BK384⟩ := zB6 BK351 BK359 BK362 BK370 BK374 BK384 hb; replace HB := zS HB hb
                      (try clear hb)
                      refine hK.out _ _ ⟨zc BK362 0, zc BK362 1⟩ (fun hHeld => ?_)
                      clear hK K
                      refine zW (some 121) ?_
                      exact zA (hJ0_2_3_5 (gb384) _ ⟨hHeld, (zK BK351).out, (zK BK359).out, (zK BK362).out, (zK BK370).out, (zK BK374).out, (zK BK384).out, GW384.out, GE384.out, NB351_384.out, NB384_351.out, NB359_384.out, NB384_359.out, NB362_384.out, NB384_362.out, NB370_384.out, NB384_370.out, NB374_384.out, NB384_374.out, (zT HB)⟩)
                    ·skip
                     rintro _ w101 ⟨hS_, h0_, h1_, h2_, h3_, h4_, h5_⟩
                     replace BK351 := Aside0.mk h0_; replace BK359 := Aside0.mk h1_; replace BK362 := Aside0.mk h2_; replace BK370 := Aside0.mk h3_; replace BK374 := Aside0.mk h4_; replace HB := Aside0.mk h5_; clear h0_ h1_ h2_ h3_ h4_ h5_
                     have hHeld := hS_
                     refine norm_ (a' := ?_) ?_ ?_
                     rotate_left
                     ·simp only [putAll, Act.put, List.setIfInBounds_toArray, List.set_cons_zero, List.set_cons_succ]
                      rfl
                     refine two_ (i := 4) (j := 5) (Ni := some 122) (Nj := some 15) (zb 7 31) (zb 7 47) rfl rfl rfl rfl (by kernel_rfl) (by decide) (by decide) (fun K hK => ?_) (fun K hK => ?_)
                     ·skip
                      refine zJ Tryz.func16 (by kernel_rfl) (gussetref03_Lowest.calls t375 t376 t379 t380 t381 t382 t383 _ A73.out) fun w102 hb => ?_
                      obtain ⟨BK351, BK359, BK362, BK370, BK374⟩ := zB5 BK351 BK359 BK362 BK370 BK374 hb; replace HB := zS HB hb
                      (try clear hb)
                      refine hK.out _ _ ⟨zc BK362 0, zc BK362 1⟩ (fun hHeld => ?_)
                      clear hK K
                      refine zW (some 122) ?_
                      exact zA (hJ0_2_3_4 () _ ⟨hHeld, (zK BK351).out, (zK BK359).out, (zK BK362).out, (zK BK370).out, (zK BK374).out, (zT HB)⟩)
                     ·skip
                      refine box_step ?hg (N := 15) ?hd (cs := #[.bool false, .string (⟨#[]⟩ : ByteArray), .string (⟨#[]⟩ : ByteArray)]) (t := 27) ?hr ?_; (case hd => rfl); (case hg => rfl); (case hr => first | (go_simp; done) | (go_simp; rfl))
                      intro gb384 hg w102 hbox hb
                      have BK384 := Aside0.mk (hbox); have GW384 := zG hg HB; have GE384 := zG hg HB; obtain ⟨NB351_384, NB384_351⟩ := zQ hg BK351; obtain ⟨NB359_384, NB384_359⟩ := zQ hg BK359; obtain ⟨NB362_384, NB384_362⟩ := zQ hg BK362; obtain ⟨NB370_384, NB384_370⟩ := zQ hg BK370; obtain ⟨NB374_384, NB384_374⟩ := zQ hg BK374; obtain ⟨BK351, BK359, BK362, BK370, BK374⟩ := zB5 BK351 BK359 BK362 BK370 BK374 hb; replace HB := zS HB hb; clear hb hbox hg
                      refine hK.out _ _ ⟨zc BK362 0, zc BK362 1⟩ (fun hHeld => ?_)
                      clear hK K
                      refine zW (some 15) ?_
                      exact zA (hJ0_2_3_5 (gb384) _ ⟨hHeld, (zK BK351).out, (zK BK359).out, (zK BK362).out, (zK BK370).out, (zK BK374).out, (zK BK384).out, GW384.out, GE384.out, NB351_384.out, NB384_351.out, NB359_384.out, NB384_359.out, NB362_384.out, NB384_362.out, NB370_384.out, NB384_370.out, NB374_384.out, NB384_374.out, (zT HB)⟩)
                   ·skip
                    rintro gb384 w102 ⟨hS_, h0_, h1_, h2_, h3_, h4_, h5_, h6_, h7_, h8_, h9_, h10_, h11_, h12_, h13_, h14_, h15_, h16_, h17_, h18_⟩
                    replace BK351 := Aside0.mk h0_; replace BK359 := Aside0.mk h1_; replace BK362 := Aside0.mk h2_; replace BK370 := Aside0.mk h3_; replace BK374 := Aside0.mk h4_; have BK384 := Aside0.mk h5_; have GW384 := Aside0.mk h6_; have GE384 := Aside0.mk h7_; have NB351_384 := Aside0.mk h8_; have NB384_351 := Aside0.mk h9_; have NB359_384 := Aside0.mk h10_; have NB384_359 := Aside0.mk h11_; have NB362_384 := Aside0.mk h12_; have NB384_362 := Aside0.mk h13_; have NB370_384 := Aside0.mk h14_; have NB384_370 := Aside0.mk h15_; have NB374_384 := Aside0.mk h16_; have NB384_374 := Aside0.mk h17_; replace HB := Aside0.mk h18_; clear h0_ h1_ h2_ h3_ h4_ h5_ h6_ h7_ h8_ h9_ h10_ h11_ h12_ h13_ h14_ h15_ h16_ h17_ h18_
                    have hHeld := hS_
                    refine norm_ (a' := ?_) ?_ ?_
                    rotate_left
                    ·simp only [putAll, Act.put, List.setIfInBounds_toArray, List.set_cons_zero, List.set_cons_succ]
                     rfl
                    refine one_ (i := 4) (N := some 122) (zb 7 63) rfl rfl (by kernel_rfl) (by decide) (fun K hK => ?_)
                    refine zJ Tryz.func16 (by kernel_rfl) (gussetref03_Lowest.calls t375 t376 t379 t380 t381 t382 t383 _ A73.out) fun w103 hb => ?_
                    obtain ⟨BK351, BK359, BK362, BK370, BK374, BK384⟩ := zB6 BK351 BK359 BK362 BK370 BK374 BK384 hb; replace HB := zS HB hb
                    (try clear hb)
                    refine hK.out _ _ ⟨zc BK362 0, zc BK362 1⟩ (fun hHeld => ?_)
                    clear hK K
                    refine zW (some 122) ?_
                    exact zA (hJ0_2_3_4_5 (gb384) _ ⟨hHeld, (zK BK351).out, (zK BK359).out, (zK BK362).out, (zK BK370).out, (zK BK374).out, (zK BK384).out, GW384.out, GE384.out, NB351_384.out, NB384_351.out, NB359_384.out, NB384_359.out, NB362_384.out, NB384_362.out, NB370_384.out, NB384_370.out, NB374_384.out, NB384_374.out, (zT HB)⟩)
                  ·skip
                   rintro _ w102 ⟨hS_, h0_, h1_, h2_, h3_, h4_, h5_⟩
                   replace BK351 := Aside0.mk h0_; replace BK359 := Aside0.mk h1_; replace BK362 := Aside0.mk h2_; replace BK370 := Aside0.mk h3_; replace BK374 := Aside0.mk h4_; replace HB := Aside0.mk h5_; clear h0_ h1_ h2_ h3_ h4_ h5_
                   have hHeld := hS_
                   refine norm_ (a' := ?_) ?_ ?_
                   rotate_left
                   ·simp only [putAll, Act.put, List.setIfInBounds_toArray, List.set_cons_zero, List.set_cons_succ]
                    rfl
                   refine one_ (i := 5) (N := some 15) (zb 7 63) rfl rfl (by kernel_rfl) (by decide) (fun K hK => ?_)
                   refine box_step ?hg (N := 15) ?hd (cs := #[.bool false, .string (⟨#[]⟩ : ByteArray), .string (⟨#[]⟩ : ByteArray)]) (t := 27) ?hr ?_; (case hd => rfl); (case hg => rfl); (case hr => first | (go_simp; done) | (go_simp; rfl))
                   intro gb384 hg w103 hbox hb
                   have BK384 := Aside0.mk (hbox); have GW384 := zG hg HB; have GE384 := zG hg HB; obtain ⟨NB351_384, NB384_351⟩ := zQ hg BK351; obtain ⟨NB359_384, NB384_359⟩ := zQ hg BK359; obtain ⟨NB362_384, NB384_362⟩ := zQ hg BK362; obtain ⟨NB370_384, NB384_370⟩ := zQ hg BK370; obtain ⟨NB374_384, NB384_374⟩ := zQ hg BK374; obtain ⟨BK351, BK359, BK362, BK370, BK374⟩ := zB5 BK351 BK359 BK362 BK370 BK374 hb; replace HB := zS HB hb; clear hb hbox hg
                   refine hK.out _ _ ⟨zc BK362 0, zc BK362 1⟩ (fun hHeld => ?_)
                   clear hK K
                   refine zW (some 15) ?_
                   exact zA (hJ0_2_3_4_5 (gb384) _ ⟨hHeld, (zK BK351).out, (zK BK359).out, (zK BK362).out, (zK BK370).out, (zK BK374).out, (zK BK384).out, GW384.out, GE384.out, NB351_384.out, NB384_351.out, NB359_384.out, NB384_359.out, NB362_384.out, NB384_362.out, NB370_384.out, NB384_370.out, NB374_384.out, NB384_374.out, (zT HB)⟩)
                 rintro gb384 w103 ⟨hS_, h0_, h1_, h2_, h3_, h4_, h5_, h6_, h7_, h8_, h9_, h10_, h11_, h12_, h13_, h14_, h15_, h16_, h17_, h18_⟩
                 replace BK351 := Aside0.mk h0_; replace BK359 := Aside0.mk h1_; replace BK362 := Aside0.mk h2_; replace BK370 := Aside0.mk h3_; replace BK374 := Aside0.mk h4_; have BK384 := Aside0.mk h5_; have GW384 := Aside0.mk h6_; have GE384 := Aside0.mk h7_; have NB351_384 := Aside0.mk h8_; have NB384_351 := Aside0.mk h9_; have NB359_384 := Aside0.mk h10_; have NB384_359 := Aside0.mk h11_; have NB362_384 := Aside0.mk h12_; have NB384_362 := Aside0.mk h13_; have NB370_384 := Aside0.mk h14_; have NB384_370 := Aside0.mk h15_; have NB374_384 := Aside0.mk h16_; have NB384_374 := Aside0.mk h17_; replace HB := Aside0.mk h18_; clear h0_ h1_ h2_ h3_ h4_ h5_ h6_ h7_ h8_ h9_ h10_ h11_ h12_ h13_ h14_ h15_ h16_ h17_ h18_
                 have hHeld := hS_
                 refine norm_ (a' := ?_) ?_ ?_
                 rotate_left
                 ·simp only [putAll, Act.put, List.setIfInBounds_toArray, List.set_cons_zero, List.set_cons_succ]
                  rfl
                 refine one_ (i := 6) (N := none) (zb 7 127) rfl rfl (by kernel_rfl) (by decide) (fun K hK => ?_)
                 have hs104 : w103.cell? ⟨gb384, 0, none⟩ = some (.bool false) := zc BK384 0
                 have hfs104 := blk_frozen BK384.out 0
                 have hns104_0 := NB351_384.out
                 have hns104_1 := NB359_384.out
                 have hns104_2 := NB362_384.out
                 have hns104_3 := NB370_384.out
                 have hns104_4 := NB374_384.out
                 have hms104_0 := NB384_351.out
                 have hms104_1 := NB384_359.out
                 have hms104_2 := NB384_362.out
                 have hms104_3 := NB384_370.out
                 have hms104_4 := NB384_374.out
                 have hs105 : w103.cell? ⟨gb384, 1, none⟩ = some (.string (⟨#[]⟩ : ByteArray)) := zc BK384 1
                 have hfs105 := blk_frozen BK384.out 1
                 have hns105_0 := NB351_384.out
                 have hns105_1 := NB359_384.out
                 have hns105_2 := NB362_384.out
                 have hns105_3 := NB370_384.out
                 have hns105_4 := NB374_384.out
                 have hms105_0 := NB384_351.out
                 have hms105_1 := NB384_359.out
                 have hms105_2 := NB384_362.out
                 have hms105_3 := NB384_370.out
                 have hms105_4 := NB384_374.out
                 have hs106 : w103.cell? ⟨gb384, 2, none⟩ = some (.string (⟨#[]⟩ : ByteArray)) := zc BK384 2
                 have hfs106 := blk_frozen BK384.out 2
                 have hns106_0 := NB351_384.out
                 have hns106_1 := NB359_384.out
                 have hns106_2 := NB362_384.out
                 have hns106_3 := NB370_384.out
                 have hns106_4 := NB374_384.out
                 have hms106_0 := NB384_351.out
                 have hms106_1 := NB384_359.out
                 have hms106_2 := NB384_362.out
                 have hms106_3 := NB384_370.out
                 have hms106_4 := NB384_374.out
                 refine skip_ (w1 := ?_) (by rfl) rfl ?_ ?_
                 rotate_left
                 ·go_simp
                  rfl
                 refine hK.out _ _ ⟨((cell_far (p := ⟨gb384, _, none⟩) NB362_384.out _).trans (((cell_far (p := ⟨gb384, _, none⟩) NB362_384.out _).trans (((cell_far (p := ⟨gb384, _, none⟩) NB362_384.out _).trans (hHeld.1)))))), ((cell_far (p := ⟨gb384, _, none⟩) NB362_384.out _).trans (((cell_far (p := ⟨gb384, _, none⟩) NB362_384.out _).trans (((cell_far (p := ⟨gb384, _, none⟩) NB362_384.out _).trans (hHeld.2))))))⟩ (fun hHeld => ?_)
                 clear hK K
                 refine done_ (by kernel_rfl) ?_
                 have hnb107 := NB374_384.out; have hnc107 := NB384_374.out; obtain ⟨hcz108_0, hcz108_1, hcz108_2, hfz108_0, hfz108_1, hfz108_2⟩ := z3 BK374; have hnb109 := NB384_351.out; have hnc109 := NB351_384.out; have hnb110 := NB384_359.out; have hnc110 := NB359_384.out; have hnb111 := NB384_362.out; have hnc111 := NB362_384.out; have hnb112 := NB384_370.out; have hnc112 := NB370_384.out; obtain ⟨hcz113_0, hcz113_1, hcz113_2, hfz113_0, hfz113_1, hfz113_2⟩ := z3 BK384
                 try go_wp2_with (first | ((with_reducible refine gate_callee (f := 26) rfl ?_); refine zO Tryz.func26 (by kernel_rfl) (gussetref03_Order.calls false t372 t373 t381 t382 t383 t385 _ A74.out) fun w114 hb => ?_; obtain ⟨BK351, BK359, BK362, BK370, BK374⟩ := zB5 BK351 BK359 BK362 BK370 BK374 hb; replace BK384 := Aside0.mk (blk_below (g := gb384) (o := .cells #[.bool t381, .string t382, .string t383] 27 (0, 0)) (by (with_reducible repeat (first | refine blk_drewN ?_ _ | refine blk_drew ?_ | refine blk_alloc ?_ _)); refine zP (cs := #[.bool t381, .string t382, .string (⟨#[]⟩ : ByteArray)]) ?_ 2 _; (with_reducible repeat (first | refine blk_drewN ?_ _ | refine blk_drew ?_ | refine blk_alloc ?_ _)); refine zP (cs := #[.bool t381, .string (⟨#[]⟩ : ByteArray), .string (⟨#[]⟩ : ByteArray)]) ?_ 1 _; (with_reducible repeat (first | refine blk_drewN ?_ _ | refine blk_drew ?_ | refine blk_alloc ?_ _)); refine zP (cs := #[.bool false, .string (⟨#[]⟩ : ByteArray), .string (⟨#[]⟩ : ByteArray)]) ?_ 0 _; (with_reducible repeat (first | refine blk_drewN ?_ _ | refine blk_drew ?_ | refine blk_alloc ?_ _)); exact BK384.out) hb); replace HB := zS HB hb; (try clear hb)) | (go_at_call 13; (with_reducible refine (gussetlaw03_live.calls k5  t386 _ A76.out).mono ?_); rintro e w115 ⟨rfl, hb⟩; obtain ⟨BK351, BK359, BK362, BK370, BK374, BK384⟩ := zB6 BK351 BK359 BK362 BK370 BK374 BK384 hb; replace HB := zS HB hb; (try clear hb)))
                 go_ret
                 exact ⟨zH, zT HB⟩
                ·rw [if_neg c75] at H
                 exact absurd H (by simp)
               ·rw [if_neg c67] at H
                exact absurd H (by simp)

end Go.Proofs.YtoijlbcbbblbfaaGreatDoorH.R
