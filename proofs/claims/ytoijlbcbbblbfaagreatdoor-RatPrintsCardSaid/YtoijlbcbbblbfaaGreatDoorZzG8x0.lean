import Derived.Test.YtoijlbcbbblbfaaGreatDoorY2ShelfC
import Derived.Test.YtoijlbcbbblbfaaGreatDoorZzG0x0
import Derived.Test.YtoijlbcbbblbfaaGreatDoorZzV1p
import Derived.Test.YtoijlbcbbblbfaaGreatDoorZzG0x1
import Derived.Test.YtoijlbcbbblbfaaGreatDoorZzG3x0
-- printed by hp.py, sq3
namespace Go.Proofs.YtoijlbcbbblbfaaGreatDoorH.R
open Go.RowKit Go.Proofs.YtoijlbcbbblbfaaGreatDoorH.Z Go.Proofs.YtoijlbcbbblbfaaGreatDoorW.PrintWords Go.Proofs.YtoijlbcbbblbfaaGreatDoorW.PrintLast Go.Proofs.YtoijlbcbbblbfaaGreatDoorW.PrintMore
attribute [local go_sem] max2_int min2_int max_two min_two max_three min_three max_four min_four   -- for this text's walks alone
set_option linter.unusedVariables false
set_option linter.unusedSimpArgs false

/-! ### stringslite_Index: function 126 -/
open Go.Proofs.YtoijlbcbbblbfaaGreatDoor Go.Proofs.YtoijlbcbbblbfaaGreatDoor.Num in
def stringslite_Index.f (a0 : ByteArray) (a1 : ByteArray) : Option (Int) := if a1.size = 1 then some (Lib.indexByte a0.data.toList (a1.data.toList.headD 0)) else none
open Go.Proofs.YtoijlbcbbblbfaaGreatDoor Go.Proofs.YtoijlbcbbblbfaaGreatDoor.Num in
theorem stringslite_Index.calls (a0 : ByteArray) (a1 : ByteArray) (r : Int) (w : World) (h : stringslite_Index.f a0 a1 = some r) :
  Calls Tryz.prog 126 #[.string a0, .string a1] w fun e w' => e = .returned (.int .i64 r) ∧ Below w.heap.size w w' := by
 unfold stringslite_Index.f at h
 split at h
 ·rename_i hc
  obtain rfl := Option.some.inj h
  obtain ⟨⟨l⟩⟩ := a1
  match l, hc with
  | [c], _ => exact (Tryz.stringslite_Index_one a0 c w).mono fun e w' h => ⟨h.1, by rw [h.2]; exact Below.refl _ w⟩
 ·exact absurd h (by simp)



/-! ### stringslite_Cut: function 101 -/
def stringslite_Cut.f (a0 : ByteArray) (a1 : ByteArray) : Option (ByteArray × ByteArray × Bool) := (stringslite_Index.f a0 a1).bind fun t694 => (if t694 ≥ 0 then (if 0 ≤ t694 then (if t694 ≤ (a0.size : Int) then (if 0 ≤ (wrap64 (t694 + (a1.size : Int))) then (if (wrap64 (t694 + (a1.size : Int))) ≤ (a0.size : Int) then (some (a0.extract 0 (t694 : Int).toNat, a0.extract ((wrap64 (t694 + (a1.size : Int))) : Int).toNat a0.size, true)) else (none)) else (none)) else (none)) else (none)) else (some (a0, (⟨#[]⟩ : ByteArray), false)))
set_option maxHeartbeats 8000000 in
set_option maxRecDepth 100000 in
theorem stringslite_Cut.calls (a0 : ByteArray) (a1 : ByteArray) (r1 : ByteArray) (r2 : ByteArray) (r3 : Bool) (w : World) (h : stringslite_Cut.f a0 a1 = some (r1, r2, r3)) :
  Calls Tryz.prog 101 #[.string a0, .string a1] w fun e w' => e = .returned (.tuple #[.string r1, .string r2, .bool r3]) ∧ Below w.heap.size w w' := by
 have HB := Aside0.mk (Below.refl w.heap.size w)
 unfold stringslite_Cut.f at h; have H := h; clear h
 obtain ⟨t694, A3, H⟩ := zo H
 by_cases c4 : t694 ≥ 0
 ·rw [if_pos c4] at H
  have c4b0 := decide_eq_true c4
  clear c4
  by_cases c5 : 0 ≤ t694
  ·rw [if_pos c5] at H
   have c5b0 := eq_true c5
   have c5b1 := decide_eq_true c5
   clear c5
   by_cases c6 : t694 ≤ (a0.size : Int)
   ·rw [if_pos c6] at H
    have c6b0 := eq_true c6
    have c6b1 := decide_eq_true c6
    clear c6
    obtain ⟨ji7, hji7⟩ : ∃ j_ : Int, (wrap64 (t694 + (a1.size : Int))) = j_ := ⟨_, rfl⟩
    replace H : (if 0 ≤ (ji7) then (if (ji7) ≤ (a0.size : Int) then (some (a0.extract 0 (t694 : Int).toNat, a0.extract ((ji7) : Int).toNat a0.size, true)) else (none)) else (none)) = some (r1, r2, r3) := by first | (rw [hji7] at H; exact H) | (simp only [hji7] at H ⊢; exact H)
    (try rw [hji7] at A3)
    have hji7w : (IntKind.i64.wrap (t694 + (a1.size : Int))) = ji7 := (i64_w _).trans hji7
    by_cases c8 : 0 ≤ (ji7)
    ·rw [if_pos c8] at H
     have c8b0 := eq_true c8
     have c8b1 := decide_eq_true c8
     clear c8
     by_cases c9 : (ji7) ≤ (a0.size : Int)
     ·rw [if_pos c9] at H
      have c9b0 := eq_true c9
      have c9b1 := decide_eq_true c9
      clear c9
      simp only [Option.some.injEq, Prod.mk.injEq] at H
      obtain ⟨rfl, rfl, rfl⟩ := H
      go_enter Tryz.func101, Tryz.ntmps101
      go_wp2_with (first | (go_at_call 126; (with_reducible refine (stringslite_Index.calls a0 a1 t694 _ A3.out).mono ?_); rintro e w10 ⟨rfl, hb⟩; replace HB := zS HB hb; (try clear hb)))
      repeat (go_quiet (first | (go_at_call 126; (with_reducible refine (stringslite_Index.calls a0 a1 t694 _ A3.out).mono ?_); rintro e w10 ⟨rfl, hb⟩; replace HB := zS HB hb; (try clear hb))); try go_wp2_with (first | (go_at_call 126; (with_reducible refine (stringslite_Index.calls a0 a1 t694 _ A3.out).mono ?_); rintro e w10 ⟨rfl, hb⟩; replace HB := zS HB hb; (try clear hb))))
      go_ret3
      exact ⟨by first | rfl | (simp [errW_none, errW_some] <;> rfl) | (simp only [← hji7]; first | rfl | (simp [errW_none, errW_some] <;> rfl)) | (simp [*, errW_none, errW_some] <;> rfl), zT HB⟩
     ·rw [if_neg c9] at H
      exact absurd H (by simp)
    ·rw [if_neg c8] at H
     exact absurd H (by simp)
   ·rw [if_neg c6] at H
    exact absurd H (by simp)
  ·rw [if_neg c5] at H
   exact absurd H (by simp)
 ·rw [if_neg c4] at H
  have c4b0 := decide_eq_false c4
  clear c4
  simp only [Option.some.injEq, Prod.mk.injEq] at H
  obtain ⟨rfl, rfl, rfl⟩ := H
  go_enter Tryz.func101, Tryz.ntmps101
  go_wp2_with (first | (go_at_call 126; (with_reducible refine (stringslite_Index.calls a0 a1 t694 _ A3.out).mono ?_); rintro e w11 ⟨rfl, hb⟩; replace HB := zS HB hb; (try clear hb)))
  repeat (go_quiet (first | (go_at_call 126; (with_reducible refine (stringslite_Index.calls a0 a1 t694 _ A3.out).mono ?_); rintro e w11 ⟨rfl, hb⟩; replace HB := zS HB hb; (try clear hb))); try go_wp2_with (first | (go_at_call 126; (with_reducible refine (stringslite_Index.calls a0 a1 t694 _ A3.out).mono ?_); rintro e w11 ⟨rfl, hb⟩; replace HB := zS HB hb; (try clear hb))))
  go_ret3
  exact ⟨zH, zT HB⟩


/-! ### strings_Cut: function 78 -/
def strings_Cut.f (a0 : ByteArray) (a1 : ByteArray) : Option (ByteArray × ByteArray × Bool) := (stringslite_Cut.f a0 a1).bind fun bt695 => (some (bt695.1, bt695.2.1, bt695.2.2))
set_option maxHeartbeats 8000000 in
set_option maxRecDepth 100000 in
theorem strings_Cut.calls (a0 : ByteArray) (a1 : ByteArray) (r1 : ByteArray) (r2 : ByteArray) (r3 : Bool) (w : World) (h : strings_Cut.f a0 a1 = some (r1, r2, r3)) :
  Calls Tryz.prog 78 #[.string a0, .string a1] w fun e w' => e = .returned (.tuple #[.string r1, .string r2, .bool r3]) ∧ Below w.heap.size w w' := by
 have HB := Aside0.mk (Below.refl w.heap.size w)
 unfold strings_Cut.f at h; have H := h; clear h
 obtain ⟨⟨t695, t696, t697⟩, A3, H⟩ := zo H; try dsimp only at H
 simp only [Option.some.injEq, Prod.mk.injEq] at H
 obtain ⟨rfl, rfl, rfl⟩ := H
 go_enter Tryz.func78, Tryz.ntmps78
 go_wp2_with (first | ((with_reducible refine gate_callee (f := 101) rfl ?_); refine zO Tryz.func101 (by kernel_rfl) (stringslite_Cut.calls a0 a1 t695 t696 t697 _ A3.out) fun w4 hb => ?_; replace HB := zS HB hb; (try clear hb)))
 go_ret3
 exact ⟨zH, zT HB⟩


/-! ### whole_Parse: function 79 -/
open Go.Proofs.YtoijlbcbbblbfaaGreatDoor Go.Proofs.YtoijlbcbbblbfaaGreatDoor.Num in
def whole_Parse.f (a0 : ByteArray) : Option (Bool × ByteArray × Int) := some ((parseF a0).1.1, (parseF a0).1.2, (parseF a0).2)
open Go.Proofs.YtoijlbcbbblbfaaGreatDoor Go.Proofs.YtoijlbcbbblbfaaGreatDoor.Num in
theorem whole_Parse.calls (a0 : ByteArray) (r1 : Bool) (r2 : ByteArray) (r3 : Int) (w : World) (h : whole_Parse.f a0 = some (r1, r2, r3)) :
  Calls Tryz.prog 79 #[.string a0] w fun e w' => e = .returned (.tuple #[.agg #[.bool r1, .string r2], .int .i64 r3]) ∧ Below w.heap.size w w' := by
 unfold whole_Parse.f at h
 simp only [Option.some.injEq, Prod.mk.injEq] at h
 obtain ⟨rfl, rfl, rfl⟩ := h
 exact parse_f2 a0 w



/-! ### rat_Parse: function 42 -/
def rat_Parse.j0 : Nat → Bool → Bool → ByteArray → Bool → ByteArray → Option (Bool × ByteArray × ByteArray × Int)
 | 0, _, _, _, _, _ => none
 | k + 1, x44, x706000, x706001, x710000, x710001 => if x44 = true then (some (false, (⟨#[]⟩ : ByteArray), (⟨#[]⟩ : ByteArray), 4)) else ((rat_lowest.f k x706000 x706001 x710000 x710001).bind fun bt710 => (some (bt710.1, bt710.2.1, bt710.2.2, 0)))
def rat_Parse.f (k : Nat) (a0 : ByteArray) : Option (Bool × ByteArray × ByteArray × Int) := (strings_Cut.f a0 (⟨#[47]⟩ : ByteArray)).bind fun bt699 => ((whole_Parse.f bt699.1).bind fun bt702 => (if bt702.2.2 = 0 then (if bt699.2.2 = true then ((whole_Parse.f bt699.2.1).bind fun bt706 => (if bt706.2.2 = 0 then (if bt706.1 = true then (rat_Parse.j0 k true bt702.1 bt702.2.1 bt706.1 bt706.2.1) else (rat_Parse.j0 k (bt706.2.1.toList == ([] : List UInt8)) bt702.1 bt702.2.1 bt706.1 bt706.2.1)) else (rat_Parse.j0 k true bt702.1 bt702.2.1 bt706.1 bt706.2.1))) else (some (bt702.1, bt702.2.1, (⟨#[1]⟩ : ByteArray), 0))) else (some (false, (⟨#[]⟩ : ByteArray), (⟨#[]⟩ : ByteArray), bt702.2.2))))
set_option maxHeartbeats 8000000 in
set_option maxRecDepth 100000 in
theorem rat_Parse.calls (k : Nat) (a0 : ByteArray) (r1 : Bool) (r2 : ByteArray) (r3 : ByteArray) (r4 : Int) (w : World) (h : rat_Parse.f k a0 = some (r1, r2, r3, r4)) :
  Calls Tryz.prog 42 #[.string a0] w fun e w' => e = .returned (.tuple #[.agg #[.bool r1, .string r2, .string r3], .int .i64 r4]) ∧ Below w.heap.size w w' := by
 have hu27 := Tryz.underlying27
 have hu24 := Tryz.underlying24; have hf0 := zf240; have hf1 := zf241; have hf2 := zf270; have hf3 := zf271
 have HB := Aside0.mk (Below.refl w.heap.size w)
 unfold rat_Parse.f at h; have H := h; clear h
 obtain ⟨⟨t699, t700, t701⟩, A2, H⟩ := zo H; try dsimp only at H
 obtain ⟨⟨t702, t703, t704⟩, A3, H⟩ := zo H; try dsimp only at H
 by_cases c4 : t704 = 0
 ·rw [if_pos c4] at H
  have c4b0 := beq_iff_eq.mpr c4
  have c4b1 := bne_eq_false_iff_eq.mpr c4
  clear c4
  by_cases c5 : t701 = true
  ·subst c5
   rw [if_pos rfl] at H
   obtain ⟨⟨t706, t707, t708⟩, A6, H⟩ := zo H; try dsimp only at H
   have HC7 := Aside0.mk H
   clear H
   go_enter Tryz.func42, Tryz.ntmps42
   go_upto_region 8 with (first | ((with_reducible refine gate_dst (N := 2) rfl ?_); refine zY 2 #[.bool false, .string (⟨#[]⟩ : ByteArray), .string (⟨#[]⟩ : ByteArray)] 27 ?_; intro gb698 hg w8 hbox hb; have BK698 := Aside0.mk (hbox); have GW698 := zG hg HB; have GE698 := zG hg HB; replace HB := zS HB hb; clear hb hbox hg) | ((with_reducible refine gate_callee (f := 78) rfl ?_); refine zO Tryz.func78 (by kernel_rfl) (strings_Cut.calls a0 (⟨#[47]⟩ : ByteArray) t699 t700 true _ A2.out) fun w9 hb => ?_; replace BK698 := zB BK698 hb; replace HB := zS HB hb; (try clear hb)) | ((with_reducible refine gate_callee (f := 79) rfl ?_); refine zO Tryz.func79 (by kernel_rfl) (whole_Parse.calls t699 t702 t703 t704 _ A3.out) fun w10 hb => ?_; replace BK698 := zB BK698 hb; replace HB := zS HB hb; (try clear hb)) | ((with_reducible refine gate_dst (N := 7) rfl ?_); refine zY 7 #[.bool false, .string (⟨#[]⟩ : ByteArray)] 24 ?_; intro gb705 hg w11 hbox hb; have BK705 := Aside0.mk (hbox); have GW705 := zG hg HB; have GE705 := zG hg HB; obtain ⟨NB698_705, NB705_698⟩ := zQ hg BK698; replace BK698 := zB BK698 hb; replace HB := zS HB hb; clear hb hbox hg; have hnb12 := NB705_698.out; have hnc12 := NB698_705.out; obtain ⟨hcz13_0, hcz13_1, hfz13_0, hfz13_1⟩ := z2 BK705) | ((with_reducible refine gate_callee (f := 79) rfl ?_); refine zO Tryz.func79 (by kernel_rfl) (whole_Parse.calls t700 t706 t707 t708 _ A6.out) fun w14 hb => ?_; replace BK698 := zB BK698 hb; replace BK705 := Aside0.mk (blk_below (g := gb705) (o := .cells #[.bool t702, .string t703] 24 (0, 0)) (by (with_reducible repeat (first | refine blk_drewN ?_ _ | refine blk_drew ?_ | refine blk_alloc ?_ _)); refine zP (cs := #[.bool t702, .string (⟨#[]⟩ : ByteArray)]) ?_ 1 _; (with_reducible repeat (first | refine blk_drewN ?_ _ | refine blk_drew ?_ | refine blk_alloc ?_ _)); refine zP (cs := #[.bool false, .string (⟨#[]⟩ : ByteArray)]) ?_ 0 _; (with_reducible repeat (first | refine blk_drewN ?_ _ | refine blk_drew ?_ | refine blk_alloc ?_ _)); exact BK705.out) hb); replace HB := zS HB hb; (try clear hb)) | ((with_reducible refine gate_dst (N := 9) rfl ?_); refine zY 9 #[.bool false, .string (⟨#[]⟩ : ByteArray)] 24 ?_; intro gb709 hg w15 hbox hb; have BK709 := Aside0.mk (hbox); have GW709 := zG hg HB; have GE709 := zG hg HB; obtain ⟨NB698_709, NB709_698⟩ := zQ hg BK698; obtain ⟨NB705_709, NB709_705⟩ := zQ hg BK705; obtain ⟨BK698, BK705⟩ := zB2 BK698 BK705 hb; replace HB := zS HB hb; clear hb hbox hg; have hnb16 := NB709_698.out; have hnc16 := NB698_709.out; have hnb17 := NB709_705.out; have hnc17 := NB705_709.out; obtain ⟨hcz18_0, hcz18_1, hfz18_0, hfz18_1⟩ := z2 BK709))
   (try simp only [Act.put, List.setIfInBounds_toArray, List.set_cons_zero, List.set_cons_succ])
   go_cut [44] (fun v44 wc => ∃ (kq : Nat) (x44_6 : Bool), v44 = .bool x44_6 ∧ Aside0 (rat_Parse.j0 kq x44_6 t702 t703 t706 t707 = some (r1, r2, r3, r4)) ∧ Aside0 (kq ≤ k) ∧ Aside0 (wc.heap[gb698]? = some (.cells #[.bool false, .string (⟨#[]⟩ : ByteArray), .string (⟨#[]⟩ : ByteArray)] 27 (0, 0))) ∧ Aside0 (wc.heap[gb705]? = some (.cells #[.bool t702, .string t703] 24 (0, 0))) ∧ Aside0 (wc.heap[gb709]? = some (.cells #[.bool t706, .string t707] 24 (0, 0))) ∧ Aside0 (Below w.heap.size w wc))
   case first =>
    have H := HC7.out
    clear HC7
    by_cases c19 : t708 = 0
    ·rw [if_pos c19] at H
     have c19b0 := beq_iff_eq.mpr c19
     have c19b1 := bne_eq_false_iff_eq.mpr c19
     clear c19
     (first | rw [c19b0] | (simp only [i64_w, i32_w]; rw [c19b0]) | skip)
     by_cases c20 : t706 = true
     ·subst c20
      rw [if_pos rfl] at H
      have H' := Aside0.mk H
      clear H; have hnb21 := NB709_698.out; have hnc21 := NB698_709.out; have hnb22 := NB709_705.out; have hnc22 := NB705_709.out; obtain ⟨hcz23_0, hcz23_1, hfz23_0, hfz23_1⟩ := z2 BK709
      go_wp2
      go_meet
      case rel => exact ⟨_, (true), zR, H', zL, zK BK698, zK BK705, ⟨by (with_reducible repeat (first | refine blk_drewN ?_ _ | refine blk_drew ?_ | refine blk_alloc ?_ _)); refine zP (cs := #[.bool true, .string (⟨#[]⟩ : ByteArray)]) ?_ 1 _; (with_reducible repeat (first | refine blk_drewN ?_ _ | refine blk_drew ?_ | refine blk_alloc ?_ _)); refine zP (cs := #[.bool false, .string (⟨#[]⟩ : ByteArray)]) ?_ 0 _; (with_reducible repeat (first | refine blk_drewN ?_ _ | refine blk_drew ?_ | refine blk_alloc ?_ _)); exact BK709.out⟩, ⟨zT HB⟩⟩
     ·replace c20 := Bool.eq_false_iff.mpr c20
      subst c20
      rw [if_neg zn] at H
      have H' := Aside0.mk H
      clear H; have hnb24 := NB709_698.out; have hnc24 := NB698_709.out; have hnb25 := NB709_705.out; have hnc25 := NB705_709.out; obtain ⟨hcz26_0, hcz26_1, hfz26_0, hfz26_1⟩ := z2 BK709
      go_wp2
      go_meet
      case rel => exact ⟨_, ((t707.toList == ([] : List UInt8))), zR, H', zL, zK BK698, zK BK705, ⟨by (with_reducible repeat (first | refine blk_drewN ?_ _ | refine blk_drew ?_ | refine blk_alloc ?_ _)); refine zP (cs := #[.bool false, .string (⟨#[]⟩ : ByteArray)]) ?_ 1 _; (with_reducible repeat (first | refine blk_drewN ?_ _ | refine blk_drew ?_ | refine blk_alloc ?_ _)); refine zP (cs := #[.bool false, .string (⟨#[]⟩ : ByteArray)]) ?_ 0 _; (with_reducible repeat (first | refine blk_drewN ?_ _ | refine blk_drew ?_ | refine blk_alloc ?_ _)); exact BK709.out⟩, ⟨zT HB⟩⟩
    ·rw [if_neg c19] at H
     have c19b0 := beq_eq_false_iff_ne.mpr c19
     have c19b1 := bne_iff_ne.mpr c19
     (first | rw [c19b0] | (simp only [i64_w, i32_w]; rw [c19b0]) | skip)
     have H' := Aside0.mk H
     clear H
     go_wp2
     go_meet
     case rel => exact ⟨_, (true), zR, H', zL, zK BK698, zK BK705, ⟨by (with_reducible repeat (first | refine blk_drewN ?_ _ | refine blk_drew ?_ | refine blk_alloc ?_ _)); refine zP (cs := #[.bool t706, .string (⟨#[]⟩ : ByteArray)]) ?_ 1 _; (with_reducible repeat (first | refine blk_drewN ?_ _ | refine blk_drew ?_ | refine blk_alloc ?_ _)); refine zP (cs := #[.bool false, .string (⟨#[]⟩ : ByteArray)]) ?_ 0 _; (with_reducible repeat (first | refine blk_drewN ?_ _ | refine blk_drew ?_ | refine blk_alloc ?_ _)); exact BK709.out⟩, ⟨zT HB⟩⟩
   case rest =>
    clear HC7
    try clear c1; try clear c2; try clear p2; try clear c4; try clear c4b0; try clear c4b1; try clear c5; try clear c7; try clear c12; try clear c16; try clear c17; try clear c19; try clear c19b0; try clear c19b1; try clear c20; try clear c21; try clear c22; try clear c24; try clear c25; try clear hcz13_0; try clear hcz13_1; try clear hcz18_0; try clear hcz18_1; try clear hcz23_0; try clear hcz23_1; try clear hcz26_0; try clear hcz26_1; try clear hfz13_0; try clear hfz13_1; try clear hfz18_0; try clear hfz18_1; try clear hfz23_0; try clear hfz23_1; try clear hfz26_0; try clear hfz26_1
    obtain ⟨kq, x44_6, rfl, HA, HJ6, BK698, BK705, BK709, HB⟩ := hcut
    cases kq with
    | zero => exact absurd HA.out (by simp [rat_Parse.j0])
    | succ kj6 =>
     have H := HA.out
     clear HA
     simp only [rat_Parse.j0] at H
     by_cases c27 : x44_6 = true
     ·subst c27
      rw [if_pos rfl] at H
      simp only [Option.some.injEq, Prod.mk.injEq] at H
      obtain ⟨rfl, rfl, rfl, rfl⟩ := H
      have hnb28 := NB698_705.out; have hnc28 := NB705_698.out; have hnb29 := NB698_709.out; have hnc29 := NB709_698.out; obtain ⟨hcz30_0, hcz30_1, hcz30_2, hfz30_0, hfz30_1, hfz30_2⟩ := z3 BK698
      go_wp2
      refine bodyPost_ret (results_ct rfl _ _ gb698 27 #[.bool false, .string (⟨#[]⟩ : ByteArray), .string (⟨#[]⟩ : ByteArray)] (0, 0) _ rfl (by (with_reducible repeat (first | refine blk_drewN ?_ _ | refine blk_drew ?_ | refine blk_alloc ?_ _)); refine zP (cs := #[.bool false, .string (⟨#[]⟩ : ByteArray), .string (⟨#[]⟩ : ByteArray)]) ?_ 2 _; (with_reducible repeat (first | refine blk_drewN ?_ _ | refine blk_drew ?_ | refine blk_alloc ?_ _)); refine zP (cs := #[.bool false, .string (⟨#[]⟩ : ByteArray), .string (⟨#[]⟩ : ByteArray)]) ?_ 1 _; (with_reducible repeat (first | refine blk_drewN ?_ _ | refine blk_drew ?_ | refine blk_alloc ?_ _)); refine zP (cs := #[.bool false, .string (⟨#[]⟩ : ByteArray), .string (⟨#[]⟩ : ByteArray)]) ?_ 0 _; (with_reducible repeat (first | refine blk_drewN ?_ _ | refine blk_drew ?_ | refine blk_alloc ?_ _)); exact BK698.out) Tryz.underlying27 rfl (by kernel_rfl)) rfl ?_
      exact ⟨zH, zT HB⟩
     ·replace c27 := Bool.eq_false_iff.mpr c27
      subst c27
      rw [if_neg zn] at H
      obtain ⟨⟨t710, t711, t712⟩, A31, H⟩ := zo H; try dsimp only at H
      simp only [Option.some.injEq, Prod.mk.injEq] at H
      obtain ⟨rfl, rfl, rfl, rfl⟩ := H
      have hnb32 := NB705_698.out; have hnc32 := NB698_705.out; have hnb33 := NB705_709.out; have hnc33 := NB709_705.out; obtain ⟨hcz34_0, hcz34_1, hfz34_0, hfz34_1⟩ := z2 BK705; have hnb35 := NB709_698.out; have hnc35 := NB698_709.out; obtain ⟨hcz36_0, hcz36_1, hfz36_0, hfz36_1⟩ := z2 BK709
      go_wp2_with (first | ((with_reducible refine gate_callee (f := 47) rfl ?_); refine zO Tryz.func47 (by kernel_rfl) (rat_lowest.calls kj6 t702 t703 t706 t707 t710 t711 t712 _ A31.out) fun w37 hb => ?_; obtain ⟨BK698, BK705, BK709⟩ := zB3 BK698 BK705 BK709 hb; replace HB := zS HB hb; (try clear hb); obtain ⟨hcz38_0, hcz38_1, hcz38_2, hfz38_0, hfz38_1, hfz38_2⟩ := z3 BK698))
      refine bodyPost_ret (results_ct rfl _ _ gb698 27 #[.bool t710, .string t711, .string t712] (0, 0) _ rfl (by (with_reducible repeat (first | refine blk_drewN ?_ _ | refine blk_drew ?_ | refine blk_alloc ?_ _)); refine zP (cs := #[.bool t710, .string t711, .string (⟨#[]⟩ : ByteArray)]) ?_ 2 _; (with_reducible repeat (first | refine blk_drewN ?_ _ | refine blk_drew ?_ | refine blk_alloc ?_ _)); refine zP (cs := #[.bool t710, .string (⟨#[]⟩ : ByteArray), .string (⟨#[]⟩ : ByteArray)]) ?_ 1 _; (with_reducible repeat (first | refine blk_drewN ?_ _ | refine blk_drew ?_ | refine blk_alloc ?_ _)); refine zP (cs := #[.bool false, .string (⟨#[]⟩ : ByteArray), .string (⟨#[]⟩ : ByteArray)]) ?_ 0 _; (with_reducible repeat (first | refine blk_drewN ?_ _ | refine blk_drew ?_ | refine blk_alloc ?_ _)); exact BK698.out) Tryz.underlying27 rfl (by kernel_rfl)) rfl ?_
      exact ⟨zH, zT HB⟩
  ·replace c5 := Bool.eq_false_iff.mpr c5
   subst c5
   rw [if_neg zn] at H
   simp only [Option.some.injEq, Prod.mk.injEq] at H
   obtain ⟨rfl, rfl, rfl, rfl⟩ := H
   go_enter Tryz.func42, Tryz.ntmps42
   go_wp2_with (first | ((with_reducible refine gate_dst (N := 2) rfl ?_); refine zY 2 #[.bool false, .string (⟨#[]⟩ : ByteArray), .string (⟨#[]⟩ : ByteArray)] 27 ?_; intro gb698 hg w39 hbox hb; have BK698 := Aside0.mk (hbox); have GW698 := zG hg HB; have GE698 := zG hg HB; replace HB := zS HB hb; clear hb hbox hg) | ((with_reducible refine gate_callee (f := 78) rfl ?_); refine zO Tryz.func78 (by kernel_rfl) (strings_Cut.calls a0 (⟨#[47]⟩ : ByteArray) t699 t700 false _ A2.out) fun w40 hb => ?_; replace BK698 := zB BK698 hb; replace HB := zS HB hb; (try clear hb)) | ((with_reducible refine gate_callee (f := 79) rfl ?_); refine zO Tryz.func79 (by kernel_rfl) (whole_Parse.calls t699 t702 t703 t704 _ A3.out) fun w41 hb => ?_; replace BK698 := zB BK698 hb; replace HB := zS HB hb; (try clear hb)) | ((with_reducible refine gate_dst (N := 7) rfl ?_); refine zY 7 #[.bool false, .string (⟨#[]⟩ : ByteArray)] 24 ?_; intro gb705 hg w42 hbox hb; have BK705 := Aside0.mk (hbox); have GW705 := zG hg HB; have GE705 := zG hg HB; obtain ⟨NB698_705, NB705_698⟩ := zQ hg BK698; replace BK698 := zB BK698 hb; replace HB := zS HB hb; clear hb hbox hg; have hnb43 := NB705_698.out; have hnc43 := NB698_705.out; obtain ⟨hcz44_0, hcz44_1, hfz44_0, hfz44_1⟩ := z2 BK705; obtain ⟨hcz45_0, hcz45_1, hcz45_2, hfz45_0, hfz45_1, hfz45_2⟩ := z3 BK698))
   refine bodyPost_ret (results_ct rfl _ _ gb698 27 #[.bool t702, .string t703, .string (⟨#[1]⟩ : ByteArray)] (0, 0) _ rfl (by (with_reducible repeat (first | refine blk_drewN ?_ _ | refine blk_drew ?_ | refine blk_alloc ?_ _)); refine zP (cs := #[.bool t702, .string t703, .string (⟨#[]⟩ : ByteArray)]) ?_ 2 _; (with_reducible repeat (first | refine blk_drewN ?_ _ | refine blk_drew ?_ | refine blk_alloc ?_ _)); refine zP (cs := #[.bool t702, .string (⟨#[]⟩ : ByteArray), .string (⟨#[]⟩ : ByteArray)]) ?_ 1 _; (with_reducible repeat (first | refine blk_drewN ?_ _ | refine blk_drew ?_ | refine blk_alloc ?_ _)); refine zP (cs := #[.bool false, .string (⟨#[]⟩ : ByteArray), .string (⟨#[]⟩ : ByteArray)]) ?_ 0 _; (with_reducible repeat (first | refine blk_drewN ?_ _ | refine blk_drew ?_ | refine blk_alloc ?_ _)); refine blk_far ?_ NB698_705.out _; (with_reducible repeat (first | refine blk_drewN ?_ _ | refine blk_drew ?_ | refine blk_alloc ?_ _)); refine blk_far ?_ NB698_705.out _; (with_reducible repeat (first | refine blk_drewN ?_ _ | refine blk_drew ?_ | refine blk_alloc ?_ _)); exact BK698.out) Tryz.underlying27 rfl (by kernel_rfl)) rfl ?_
   exact ⟨zH, zT HB⟩
 ·rw [if_neg c4] at H
  have c4b0 := beq_eq_false_iff_ne.mpr c4
  have c4b1 := bne_iff_ne.mpr c4
  simp only [Option.some.injEq, Prod.mk.injEq] at H
  obtain ⟨rfl, rfl, rfl, rfl⟩ := H
  go_enter Tryz.func42, Tryz.ntmps42
  go_wp2_with (first | ((with_reducible refine gate_dst (N := 2) rfl ?_); refine zY 2 #[.bool false, .string (⟨#[]⟩ : ByteArray), .string (⟨#[]⟩ : ByteArray)] 27 ?_; intro gb698 hg w46 hbox hb; have BK698 := Aside0.mk (hbox); have GW698 := zG hg HB; have GE698 := zG hg HB; replace HB := zS HB hb; clear hb hbox hg) | ((with_reducible refine gate_callee (f := 78) rfl ?_); refine zO Tryz.func78 (by kernel_rfl) (strings_Cut.calls a0 (⟨#[47]⟩ : ByteArray) t699 t700 t701 _ A2.out) fun w47 hb => ?_; replace BK698 := zB BK698 hb; replace HB := zS HB hb; (try clear hb)) | ((with_reducible refine gate_callee (f := 79) rfl ?_); refine zO Tryz.func79 (by kernel_rfl) (whole_Parse.calls t699 t702 t703 t704 _ A3.out) fun w48 hb => ?_; replace BK698 := zB BK698 hb; replace HB := zS HB hb; (try clear hb)) | ((with_reducible refine gate_dst (N := 7) rfl ?_); refine zY 7 #[.bool false, .string (⟨#[]⟩ : ByteArray)] 24 ?_; intro gb705 hg w49 hbox hb; have BK705 := Aside0.mk (hbox); have GW705 := zG hg HB; have GE705 := zG hg HB; obtain ⟨NB698_705, NB705_698⟩ := zQ hg BK698; replace BK698 := zB BK698 hb; replace HB := zS HB hb; clear hb hbox hg; have hnb50 := NB705_698.out; have hnc50 := NB698_705.out; obtain ⟨hcz51_0, hcz51_1, hfz51_0, hfz51_1⟩ := z2 BK705; obtain ⟨hcz52_0, hcz52_1, hcz52_2, hfz52_0, hfz52_1, hfz52_2⟩ := z3 BK698))
  refine bodyPost_ret (results_ct rfl _ _ gb698 27 #[.bool false, .string (⟨#[]⟩ : ByteArray), .string (⟨#[]⟩ : ByteArray)] (0, 0) _ rfl (by (with_reducible repeat (first | refine blk_drewN ?_ _ | refine blk_drew ?_ | refine blk_alloc ?_ _)); refine zP (cs := #[.bool false, .string (⟨#[]⟩ : ByteArray), .string (⟨#[]⟩ : ByteArray)]) ?_ 2 _; (with_reducible repeat (first | refine blk_drewN ?_ _ | refine blk_drew ?_ | refine blk_alloc ?_ _)); refine zP (cs := #[.bool false, .string (⟨#[]⟩ : ByteArray), .string (⟨#[]⟩ : ByteArray)]) ?_ 1 _; (with_reducible repeat (first | refine blk_drewN ?_ _ | refine blk_drew ?_ | refine blk_alloc ?_ _)); refine zP (cs := #[.bool false, .string (⟨#[]⟩ : ByteArray), .string (⟨#[]⟩ : ByteArray)]) ?_ 0 _; (with_reducible repeat (first | refine blk_drewN ?_ _ | refine blk_drew ?_ | refine blk_alloc ?_ _)); refine blk_far ?_ NB698_705.out _; (with_reducible repeat (first | refine blk_drewN ?_ _ | refine blk_drew ?_ | refine blk_alloc ?_ _)); refine blk_far ?_ NB698_705.out _; (with_reducible repeat (first | refine blk_drewN ?_ _ | refine blk_drew ?_ | refine blk_alloc ?_ _)); exact BK698.out) Tryz.underlying27 rfl (by kernel_rfl)) rfl ?_
  exact ⟨zH, zT HB⟩


/-! ### gussetref02_Parse: function 22 -/
open Go.Proofs.YtoijlbcbbblbfaaGreatDoor Go.Proofs.YtoijlbcbbblbfaaGreatDoor.Num in
def gussetref02_Parse.f (a0 : ByteArray) : Option (Bool × ByteArray × Int) := some ((parseF a0).1.1, (parseF a0).1.2, (parseF a0).2)
open Go.Proofs.YtoijlbcbbblbfaaGreatDoor Go.Proofs.YtoijlbcbbblbfaaGreatDoor.Num in
theorem gussetref02_Parse.calls (a0 : ByteArray) (r1 : Bool) (r2 : ByteArray) (r3 : Int) (w : World) (h : gussetref02_Parse.f a0 = some (r1, r2, r3)) :
  Calls Tryz.prog 22 #[.string a0] w fun e w' => e = .returned (.tuple #[.agg #[.bool r1, .string r2], .int .i64 r3]) ∧ Below w.heap.size w w' := by
 unfold gussetref02_Parse.f at h
 simp only [Option.some.injEq, Prod.mk.injEq] at h
 obtain ⟨rfl, rfl, rfl⟩ := h
 exact (parse_r a0 w).mono fun e w' h => ⟨by rw [h.1, parseF_V], h.2⟩



/-! ### gussetref03_Parse: function 43 -/
mutual
def gussetref03_Parse.l0 : Nat → ByteArray → Int → Int → Option (Bool × ByteArray × ByteArray × Int)
 | 0, _, _, _ => none
 | k + 1, x0, x4, x5 => if x5 < (x0.size : Int) then (if 0 ≤ x5 then (if (bt x0 x5) = 47 then (gussetref03_Parse.j1 k x0 x4 x5 (decide (x4 < 0))) else (gussetref03_Parse.j1 k x0 x4 x5 false)) else (none)) else (if x4 < 0 then ((gussetref02_Parse.f x0).bind fun bt731 => (if bt731.2.2 = 0 then (some (bt731.1, bt731.2.1, (⟨#[1]⟩ : ByteArray), 0)) else (some (false, (⟨#[]⟩ : ByteArray), (⟨#[]⟩ : ByteArray), bt731.2.2)))) else (if 0 ≤ x4 then (if x4 ≤ (x0.size : Int) then ((gussetref02_Parse.f (x0.extract 0 (x4 : Int).toNat)).bind fun bt735 => (if 0 ≤ (wrap64 (x4 + 1)) then (if (wrap64 (x4 + 1)) ≤ (x0.size : Int) then ((gussetref02_Parse.f (x0.extract ((wrap64 (x4 + 1)) : Int).toNat x0.size)).bind fun bt739 => (if bt735.2.2 = 0 then (if bt739.2.2 = 0 then (if bt739.1 = true then (gussetref03_Parse.j2 k true bt735.1 bt735.2.1 bt739.1 bt739.2.1) else (gussetref03_Parse.j2 k (bt739.2.1.toList == ([] : List UInt8)) bt735.1 bt735.2.1 bt739.1 bt739.2.1)) else (gussetref03_Parse.j2 k true bt735.1 bt735.2.1 bt739.1 bt739.2.1)) else (gussetref03_Parse.j2 k true bt735.1 bt735.2.1 bt739.1 bt739.2.1))) else (none)) else (none))) else (none)) else (none)))
def gussetref03_Parse.j1 : Nat → ByteArray → Int → Int → Bool → Option (Bool × ByteArray × ByteArray × Int)
 | 0, _, _, _, _ => none
 | k + 1, x0, x4, x5, x25 => if x25 = true then (gussetref03_Parse.l0 k x0 x5 (wrap64 (x5 + 1))) else (gussetref03_Parse.l0 k x0 x4 (wrap64 (x5 + 1)))
def gussetref03_Parse.j2 : Nat → Bool → Bool → ByteArray → Bool → ByteArray → Option (Bool × ByteArray × ByteArray × Int)
 | 0, _, _, _, _, _ => none
 | k + 1, x69, x739000, x739001, x743000, x743001 => if x69 = true then (some (false, (⟨#[]⟩ : ByteArray), (⟨#[]⟩ : ByteArray), 4)) else ((gussetref03_Lowest.f x739000 x739001 x743000 x743001).bind fun bt743 => (some (bt743.1, bt743.2.1, bt743.2.2, 0)))
end
def gussetref03_Parse.f (k : Nat) (a0 : ByteArray) : Option (Bool × ByteArray × ByteArray × Int) := gussetref03_Parse.l0 k a0 (-1) 0
set_option maxHeartbeats 8000000 in
set_option maxRecDepth 100000 in
theorem gussetref03_Parse.calls (k : Nat) (a0 : ByteArray) (r1 : Bool) (r2 : ByteArray) (r3 : ByteArray) (r4 : Int) (w : World) (h : gussetref03_Parse.f k a0 = some (r1, r2, r3, r4)) :
  Calls Tryz.prog 43 #[.string a0] w fun e w' => e = .returned (.tuple #[.agg #[.bool r1, .string r2, .string r3], .int .i64 r4]) ∧ Below w.heap.size w w' := by
 have hu27 := Tryz.underlying27
 have hu24 := Tryz.underlying24; have hf0 := zf240; have hf1 := zf241; have hf2 := zf270; have hf3 := zf271
 have HB := Aside0.mk (Below.refl w.heap.size w)
 unfold gussetref03_Parse.f at h; have H := h; clear h
 have H' := Aside0.mk H
 clear H
 go_enter Tryz.func43, Tryz.ntmps43
 go_wp2_with (first | ((with_reducible refine gate_dst (N := 2) rfl ?_); refine zY 2 #[.bool false, .string (⟨#[]⟩ : ByteArray), .string (⟨#[]⟩ : ByteArray)] 27 ?_; intro gb730 hg w2 hbox hb; have BK730 := Aside0.mk (hbox); have GW730 := zG hg HB; have GE730 := zG hg HB; replace HB := zS HB hb; clear hb hbox hg))
 go_loopg [4, 5] k (fun kq v4 v5 w' => ∃ (x4_1 : Int) (x5_1 : Int), v4 = .int .i64 x4_1 ∧ v5 = .int .i64 x5_1 ∧ Aside0 (gussetref03_Parse.l0 kq a0 x4_1 x5_1 = some (r1, r2, r3, r4)) ∧ Aside0 (kq ≤ k) ∧ Aside0 (w'.heap[gb730]? = some (.cells #[.bool false, .string (⟨#[]⟩ : ByteArray), .string (⟨#[]⟩ : ByteArray)] 27 (0, 0))) ∧ Aside0 (Below w.heap.size w w'))
 case atStart => exact ⟨((-1)), (0), zR, zR, H', ⟨Nat.le_refl _⟩, zK BK730, ⟨zT HB⟩⟩
 case round =>
  clear H'
  try clear p2
  obtain ⟨x4_1, x5_1, rfl, rfl, HA, HK1, BK730, HB⟩ := hrel
  cases gk with
  | zero => exact absurd HA.out (by simp [gussetref03_Parse.l0])
  | succ k1 =>
   have H := HA.out
   clear HA
   simp only [gussetref03_Parse.l0] at H
   by_cases c3 : x5_1 < (a0.size : Int)
   ·rw [if_pos c3] at H
    have c3b0 := decide_eq_true c3
    clear c3
    have HC4 := Aside0.mk H
    clear H
    go_upto_region 5 with (fail)
    go_cut [25] (fun v25 wc => ∃ (kq : Nat) (x25_3 : Bool), v25 = .bool x25_3 ∧ Aside0 (gussetref03_Parse.j1 kq a0 x4_1 x5_1 x25_3 = some (r1, r2, r3, r4)) ∧ Aside0 (kq ≤ k1) ∧ Aside0 (wc.heap[gb730]? = some (.cells #[.bool false, .string (⟨#[]⟩ : ByteArray), .string (⟨#[]⟩ : ByteArray)] 27 (0, 0))) ∧ Aside0 (Below w.heap.size w wc))
    case first =>
     have H := HC4.out
     clear HC4
     by_cases c5 : 0 ≤ x5_1
     ·rw [if_pos c5] at H
      have c5b0 := decide_eq_true c5
      clear c5
      (first | rw [c5b0] | (simp only [i64_w, i32_w]; rw [c5b0]) | skip)
      by_cases c7 : (bt a0 x5_1) = 47
      ·rw [if_pos c7] at H
       have c7b0 := beq_iff_eq.mpr c7
       have c7b1 := bne_eq_false_iff_eq.mpr c7
       clear c7
       have H' := Aside0.mk H
       clear H
       have p6 : 0 ≤ (x5_1 : Int) := of_decide_eq_true (by first | (with_reducible assumption) | assumption)
       have q6 : x5_1 < (a0.size : Int) := of_decide_eq_true (by first | (with_reducible assumption) | assumption)
       have hx6 := bt_at a0 x5_1
       replace p6 := eq_true p6
       replace q6 := eq_true q6
       go_wp2
       go_meet
       case rel => exact ⟨_, (decide (x4_1 < 0)), zR, H', ⟨by have := HK1.out; first | omega | exact Nat.le_refl _⟩, zK BK730, ⟨zT HB⟩⟩
      ·rw [if_neg c7] at H
       have c7b0 := beq_eq_false_iff_ne.mpr c7
       have c7b1 := bne_iff_ne.mpr c7
       have H' := Aside0.mk H
       clear H
       have p6 : 0 ≤ (x5_1 : Int) := of_decide_eq_true (by first | (with_reducible assumption) | assumption)
       have q6 : x5_1 < (a0.size : Int) := of_decide_eq_true (by first | (with_reducible assumption) | assumption)
       have hx6 := bt_at a0 x5_1
       replace p6 := eq_true p6
       replace q6 := eq_true q6
       go_wp2
       go_meet
       case rel => exact ⟨_, (false), zR, H', ⟨by have := HK1.out; first | omega | exact Nat.le_refl _⟩, zK BK730, ⟨zT HB⟩⟩
     ·rw [if_neg c5] at H
      exact absurd H (by simp)
    case rest =>
     clear HC4
     try clear p2; try clear c3; try clear c3b0; try clear c4; try clear c5; try clear c5b0; try clear p6; try clear q6; try clear hx6; try clear c7; try clear c7b0; try clear c7b1; try clear p2; try clear p6; try clear q6
     obtain ⟨kq, x25_3, rfl, HA, HJ3, BK730, HB⟩ := hcut
     cases kq with
     | zero => exact absurd HA.out (by simp [gussetref03_Parse.j1])
     | succ kj3 =>
      have H := HA.out
      clear HA
      simp only [gussetref03_Parse.j1] at H
      by_cases c8 : x25_3 = true
      ·subst c8
       rw [if_pos rfl] at H
       have H' := Aside0.mk H
       clear H
       go_wp2
       go_roundg kj3
       case measure => have := HK1.out; have := HJ3.out; omega
       case rel => exact ⟨(x5_1), (wrap64 (x5_1 + 1)), zR, zR, H', ⟨by have := HK1.out; have := HJ3.out; omega⟩, zK BK730, ⟨zT HB⟩⟩
      ·replace c8 := Bool.eq_false_iff.mpr c8
       subst c8
       rw [if_neg zn] at H
       have H' := Aside0.mk H
       clear H
       go_wp2
       go_roundg kj3
       case measure => have := HK1.out; have := HJ3.out; omega
       case rel => exact ⟨(x4_1), (wrap64 (x5_1 + 1)), zR, zR, H', ⟨by have := HK1.out; have := HJ3.out; omega⟩, zK BK730, ⟨zT HB⟩⟩
   ·rw [if_neg c3] at H
    have c3b0 := decide_eq_false c3
    clear c3
    by_cases c9 : x4_1 < 0
    ·rw [if_pos c9] at H
     have c9b0 := decide_eq_true c9
     clear c9
     obtain ⟨⟨t731, t732, t733⟩, A10, H⟩ := zo H; try dsimp only at H
     by_cases c11 : t733 = 0
     ·rw [if_pos c11] at H
      have c11b0 := beq_iff_eq.mpr c11
      have c11b1 := bne_eq_false_iff_eq.mpr c11
      clear c11
      simp only [Option.some.injEq, Prod.mk.injEq] at H
      obtain ⟨rfl, rfl, rfl, rfl⟩ := H
      go_wp2_with (first | ((with_reducible refine gate_callee (f := 22) rfl ?_); refine zO Tryz.func22 (by kernel_rfl) (gussetref02_Parse.calls a0 t731 t732 t733 _ A10.out) fun w12 hb => ?_; replace BK730 := zB BK730 hb; replace HB := zS HB hb; (try clear hb)) | ((with_reducible refine gate_dst (N := 6) rfl ?_); refine zY 6 #[.bool false, .string (⟨#[]⟩ : ByteArray)] 24 ?_; intro gb734 hg w13 hbox hb; have BK734 := Aside0.mk (hbox); have GW734 := zG hg HB; have GE734 := zG hg HB; obtain ⟨NB730_734, NB734_730⟩ := zQ hg BK730; replace BK730 := zB BK730 hb; replace HB := zS HB hb; clear hb hbox hg; have hnb14 := NB734_730.out; have hnc14 := NB730_734.out; obtain ⟨hcz15_0, hcz15_1, hfz15_0, hfz15_1⟩ := z2 BK734; obtain ⟨hcz16_0, hcz16_1, hcz16_2, hfz16_0, hfz16_1, hfz16_2⟩ := z3 BK730))
      refine bodyPost_ret (results_ct rfl _ _ gb730 27 #[.bool t731, .string t732, .string (⟨#[1]⟩ : ByteArray)] (0, 0) _ rfl (by (with_reducible repeat (first | refine blk_drewN ?_ _ | refine blk_drew ?_ | refine blk_alloc ?_ _)); refine zP (cs := #[.bool t731, .string t732, .string (⟨#[]⟩ : ByteArray)]) ?_ 2 _; (with_reducible repeat (first | refine blk_drewN ?_ _ | refine blk_drew ?_ | refine blk_alloc ?_ _)); refine zP (cs := #[.bool t731, .string (⟨#[]⟩ : ByteArray), .string (⟨#[]⟩ : ByteArray)]) ?_ 1 _; (with_reducible repeat (first | refine blk_drewN ?_ _ | refine blk_drew ?_ | refine blk_alloc ?_ _)); refine zP (cs := #[.bool false, .string (⟨#[]⟩ : ByteArray), .string (⟨#[]⟩ : ByteArray)]) ?_ 0 _; (with_reducible repeat (first | refine blk_drewN ?_ _ | refine blk_drew ?_ | refine blk_alloc ?_ _)); refine blk_far ?_ NB730_734.out _; (with_reducible repeat (first | refine blk_drewN ?_ _ | refine blk_drew ?_ | refine blk_alloc ?_ _)); refine blk_far ?_ NB730_734.out _; (with_reducible repeat (first | refine blk_drewN ?_ _ | refine blk_drew ?_ | refine blk_alloc ?_ _)); exact BK730.out) Tryz.underlying27 rfl (by kernel_rfl)) rfl ?_
      exact ⟨zH, zT HB⟩
     ·rw [if_neg c11] at H
      have c11b0 := beq_eq_false_iff_ne.mpr c11
      have c11b1 := bne_iff_ne.mpr c11
      simp only [Option.some.injEq, Prod.mk.injEq] at H
      obtain ⟨rfl, rfl, rfl, rfl⟩ := H
      go_wp2_with (first | ((with_reducible refine gate_callee (f := 22) rfl ?_); refine zO Tryz.func22 (by kernel_rfl) (gussetref02_Parse.calls a0 t731 t732 t733 _ A10.out) fun w17 hb => ?_; replace BK730 := zB BK730 hb; replace HB := zS HB hb; (try clear hb)) | ((with_reducible refine gate_dst (N := 6) rfl ?_); refine zY 6 #[.bool false, .string (⟨#[]⟩ : ByteArray)] 24 ?_; intro gb734 hg w18 hbox hb; have BK734 := Aside0.mk (hbox); have GW734 := zG hg HB; have GE734 := zG hg HB; obtain ⟨NB730_734, NB734_730⟩ := zQ hg BK730; replace BK730 := zB BK730 hb; replace HB := zS HB hb; clear hb hbox hg; have hnb19 := NB734_730.out; have hnc19 := NB730_734.out; obtain ⟨hcz20_0, hcz20_1, hfz20_0, hfz20_1⟩ := z2 BK734; obtain ⟨hcz21_0, hcz21_1, hcz21_2, hfz21_0, hfz21_1, hfz21_2⟩ := z3 BK730))
      refine bodyPost_ret (results_ct rfl _ _ gb730 27 #[.bool false, .string (⟨#[]⟩ : ByteArray), .string (⟨#[]⟩ : ByteArray)] (0, 0) _ rfl (by (with_reducible repeat (first | refine blk_drewN ?_ _ | refine blk_drew ?_ | refine blk_alloc ?_ _)); refine zP (cs := #[.bool false, .string (⟨#[]⟩ : ByteArray), .string (⟨#[]⟩ : ByteArray)]) ?_ 2 _; (with_reducible repeat (first | refine blk_drewN ?_ _ | refine blk_drew ?_ | refine blk_alloc ?_ _)); refine zP (cs := #[.bool false, .string (⟨#[]⟩ : ByteArray), .string (⟨#[]⟩ : ByteArray)]) ?_ 1 _; (with_reducible repeat (first | refine blk_drewN ?_ _ | refine blk_drew ?_ | refine blk_alloc ?_ _)); refine zP (cs := #[.bool false, .string (⟨#[]⟩ : ByteArray), .string (⟨#[]⟩ : ByteArray)]) ?_ 0 _; (with_reducible repeat (first | refine blk_drewN ?_ _ | refine blk_drew ?_ | refine blk_alloc ?_ _)); refine blk_far ?_ NB730_734.out _; (with_reducible repeat (first | refine blk_drewN ?_ _ | refine blk_drew ?_ | refine blk_alloc ?_ _)); refine blk_far ?_ NB730_734.out _; (with_reducible repeat (first | refine blk_drewN ?_ _ | refine blk_drew ?_ | refine blk_alloc ?_ _)); exact BK730.out) Tryz.underlying27 rfl (by kernel_rfl)) rfl ?_
      exact ⟨zH, zT HB⟩
    ·rw [if_neg c9] at H
     have c9b0 := decide_eq_false c9
     clear c9
     by_cases c22 : 0 ≤ x4_1
     ·rw [if_pos c22] at H
      have c22b0 := eq_true c22
      have c22b1 := decide_eq_true c22
      clear c22
      by_cases c23 : x4_1 ≤ (a0.size : Int)
      ·rw [if_pos c23] at H
       have c23b0 := eq_true c23
       have c23b1 := decide_eq_true c23
       clear c23
       obtain ⟨⟨t735, t736, t737⟩, A24, H⟩ := zo H; try dsimp only at H
       obtain ⟨ji25, hji25⟩ : ∃ j_ : Int, (wrap64 (x4_1 + 1)) = j_ := ⟨_, rfl⟩
       replace H : (if 0 ≤ (ji25) then (if (ji25) ≤ (a0.size : Int) then ((gussetref02_Parse.f (a0.extract ((ji25) : Int).toNat a0.size)).bind fun bt739 => (if t737 = 0 then (if bt739.2.2 = 0 then (if bt739.1 = true then (gussetref03_Parse.j2 k1 true t735 t736 bt739.1 bt739.2.1) else (gussetref03_Parse.j2 k1 (bt739.2.1.toList == ([] : List UInt8)) t735 t736 bt739.1 bt739.2.1)) else (gussetref03_Parse.j2 k1 true t735 t736 bt739.1 bt739.2.1)) else (gussetref03_Parse.j2 k1 true t735 t736 bt739.1 bt739.2.1))) else (none)) else (none)) = some (r1, r2, r3, r4) := by first | (rw [hji25] at H; exact H) | (simp only [hji25] at H ⊢; exact H)
       (try rw [hji25] at A24)
       have hji25w : (IntKind.i64.wrap (x4_1 + 1)) = ji25 := (i64_w _).trans hji25
       by_cases c26 : 0 ≤ (ji25)
       ·rw [if_pos c26] at H
        have c26b0 := eq_true c26
        have c26b1 := decide_eq_true c26
        clear c26
        by_cases c27 : (ji25) ≤ (a0.size : Int)
        ·rw [if_pos c27] at H
         have c27b0 := eq_true c27
         have c27b1 := decide_eq_true c27
         clear c27
         obtain ⟨⟨t739, t740, t741⟩, A28, H⟩ := zo H; try dsimp only at H
         have HC29 := Aside0.mk H
         clear H
         go_upto_region 14 with (first | ((with_reducible refine gate_callee (f := 22) rfl ?_); refine zO Tryz.func22 (by kernel_rfl) (gussetref02_Parse.calls (a0.extract 0 (x4_1 : Int).toNat) t735 t736 t737 _ A24.out) fun w30 hb => ?_; replace BK730 := zB BK730 hb; replace HB := zS HB hb; (try clear hb)) | ((with_reducible refine gate_dst (N := 8) rfl ?_); refine zY 8 #[.bool false, .string (⟨#[]⟩ : ByteArray)] 24 ?_; intro gb738 hg w31 hbox hb; have BK738 := Aside0.mk (hbox); have GW738 := zG hg HB; have GE738 := zG hg HB; obtain ⟨NB730_738, NB738_730⟩ := zQ hg BK730; replace BK730 := zB BK730 hb; replace HB := zS HB hb; clear hb hbox hg; have hnb32 := NB738_730.out; have hnc32 := NB730_738.out; obtain ⟨hcz33_0, hcz33_1, hfz33_0, hfz33_1⟩ := z2 BK738) | ((with_reducible refine gate_callee (f := 22) rfl ?_); refine goesL_ (some 52) rfl rfl Tryz.func22 (by kernel_rfl) rfl #[.string (a0.extract ((ji25) : Int).toNat a0.size)] rfl (by (try simp only [List.map_toArray, List.map_cons, List.map_nil]); first | done | (simp only [hji25]; rfl) | rfl | (simp only [List.length_drop, List.length_take]; rfl)) ?_; (with_reducible refine (gussetref02_Parse.calls (a0.extract ((ji25) : Int).toNat a0.size) t739 t740 t741 _ A28.out).mono ?_); rintro e w34 ⟨rfl, hb⟩; refine ⟨_, rfl, ?_⟩; replace BK730 := zB BK730 hb; replace BK738 := Aside0.mk (blk_below (g := gb738) (o := .cells #[.bool t735, .string t736] 24 (0, 0)) (by (with_reducible repeat (first | refine blk_drewN ?_ _ | refine blk_drew ?_ | refine blk_alloc ?_ _)); refine zP (cs := #[.bool t735, .string (⟨#[]⟩ : ByteArray)]) ?_ 1 _; (with_reducible repeat (first | refine blk_drewN ?_ _ | refine blk_drew ?_ | refine blk_alloc ?_ _)); refine zP (cs := #[.bool false, .string (⟨#[]⟩ : ByteArray)]) ?_ 0 _; (with_reducible repeat (first | refine blk_drewN ?_ _ | refine blk_drew ?_ | refine blk_alloc ?_ _)); exact BK738.out) hb); replace HB := zS HB hb; (try clear hb)) | ((with_reducible refine gate_dst (N := 10) rfl ?_); refine zY 10 #[.bool false, .string (⟨#[]⟩ : ByteArray)] 24 ?_; intro gb742 hg w35 hbox hb; have BK742 := Aside0.mk (hbox); have GW742 := zG hg HB; have GE742 := zG hg HB; obtain ⟨NB730_742, NB742_730⟩ := zQ hg BK730; obtain ⟨NB738_742, NB742_738⟩ := zQ hg BK738; obtain ⟨BK730, BK738⟩ := zB2 BK730 BK738 hb; replace HB := zS HB hb; clear hb hbox hg; have hnb36 := NB742_730.out; have hnc36 := NB730_742.out; have hnb37 := NB742_738.out; have hnc37 := NB738_742.out; obtain ⟨hcz38_0, hcz38_1, hfz38_0, hfz38_1⟩ := z2 BK742))
         (try simp only [Act.put, List.setIfInBounds_toArray, List.set_cons_zero, List.set_cons_succ])
         go_cut [69] (fun v69 wc => ∃ (kq : Nat) (x69_28 : Bool), v69 = .bool x69_28 ∧ Aside0 (gussetref03_Parse.j2 kq x69_28 t735 t736 t739 t740 = some (r1, r2, r3, r4)) ∧ Aside0 (kq ≤ k1) ∧ Aside0 (wc.heap[gb730]? = some (.cells #[.bool false, .string (⟨#[]⟩ : ByteArray), .string (⟨#[]⟩ : ByteArray)] 27 (0, 0))) ∧ Aside0 (wc.heap[gb738]? = some (.cells #[.bool t735, .string t736] 24 (0, 0))) ∧ Aside0 (wc.heap[gb742]? = some (.cells #[.bool t739, .string t740] 24 (0, 0))) ∧ Aside0 (Below w.heap.size w wc))
         case first =>
          have H := HC29.out
          clear HC29
          by_cases c39 : t737 = 0
          ·rw [if_pos c39] at H
           have c39b0 := beq_iff_eq.mpr c39
           have c39b1 := bne_eq_false_iff_eq.mpr c39
           clear c39
           (first | rw [c39b0] | (simp only [i64_w, i32_w]; rw [c39b0]) | skip)
           by_cases c40 : t741 = 0
           ·rw [if_pos c40] at H
            have c40b0 := beq_iff_eq.mpr c40
            have c40b1 := bne_eq_false_iff_eq.mpr c40
            clear c40
            by_cases c41 : t739 = true
            ·subst c41
             rw [if_pos rfl] at H
             have H' := Aside0.mk H
             clear H; have hnb42 := NB742_730.out; have hnc42 := NB730_742.out; have hnb43 := NB742_738.out; have hnc43 := NB738_742.out; obtain ⟨hcz44_0, hcz44_1, hfz44_0, hfz44_1⟩ := z2 BK742
             go_wp2
             go_meet
             case rel => exact ⟨_, (true), zR, H', ⟨by have := HK1.out; first | omega | exact Nat.le_refl _⟩, zK BK730, zK BK738, ⟨by (with_reducible repeat (first | refine blk_drewN ?_ _ | refine blk_drew ?_ | refine blk_alloc ?_ _)); refine zP (cs := #[.bool true, .string (⟨#[]⟩ : ByteArray)]) ?_ 1 _; (with_reducible repeat (first | refine blk_drewN ?_ _ | refine blk_drew ?_ | refine blk_alloc ?_ _)); refine zP (cs := #[.bool false, .string (⟨#[]⟩ : ByteArray)]) ?_ 0 _; (with_reducible repeat (first | refine blk_drewN ?_ _ | refine blk_drew ?_ | refine blk_alloc ?_ _)); exact BK742.out⟩, ⟨zT HB⟩⟩
            ·replace c41 := Bool.eq_false_iff.mpr c41
             subst c41
             rw [if_neg zn] at H
             have H' := Aside0.mk H
             clear H; have hnb45 := NB742_730.out; have hnc45 := NB730_742.out; have hnb46 := NB742_738.out; have hnc46 := NB738_742.out; obtain ⟨hcz47_0, hcz47_1, hfz47_0, hfz47_1⟩ := z2 BK742
             go_wp2
             go_meet
             case rel => exact ⟨_, ((t740.toList == ([] : List UInt8))), zR, H', ⟨by have := HK1.out; first | omega | exact Nat.le_refl _⟩, zK BK730, zK BK738, ⟨by (with_reducible repeat (first | refine blk_drewN ?_ _ | refine blk_drew ?_ | refine blk_alloc ?_ _)); refine zP (cs := #[.bool false, .string (⟨#[]⟩ : ByteArray)]) ?_ 1 _; (with_reducible repeat (first | refine blk_drewN ?_ _ | refine blk_drew ?_ | refine blk_alloc ?_ _)); refine zP (cs := #[.bool false, .string (⟨#[]⟩ : ByteArray)]) ?_ 0 _; (with_reducible repeat (first | refine blk_drewN ?_ _ | refine blk_drew ?_ | refine blk_alloc ?_ _)); exact BK742.out⟩, ⟨zT HB⟩⟩
           ·rw [if_neg c40] at H
            have c40b0 := beq_eq_false_iff_ne.mpr c40
            have c40b1 := bne_iff_ne.mpr c40
            have H' := Aside0.mk H
            clear H
            go_wp2
            go_meet
            case rel => exact ⟨_, (true), zR, H', ⟨by have := HK1.out; first | omega | exact Nat.le_refl _⟩, zK BK730, zK BK738, ⟨by (with_reducible repeat (first | refine blk_drewN ?_ _ | refine blk_drew ?_ | refine blk_alloc ?_ _)); refine zP (cs := #[.bool t739, .string (⟨#[]⟩ : ByteArray)]) ?_ 1 _; (with_reducible repeat (first | refine blk_drewN ?_ _ | refine blk_drew ?_ | refine blk_alloc ?_ _)); refine zP (cs := #[.bool false, .string (⟨#[]⟩ : ByteArray)]) ?_ 0 _; (with_reducible repeat (first | refine blk_drewN ?_ _ | refine blk_drew ?_ | refine blk_alloc ?_ _)); exact BK742.out⟩, ⟨zT HB⟩⟩
          ·rw [if_neg c39] at H
           have c39b0 := beq_eq_false_iff_ne.mpr c39
           have c39b1 := bne_iff_ne.mpr c39
           (first | rw [c39b0] | (simp only [i64_w, i32_w]; rw [c39b0]) | skip)
           have H' := Aside0.mk H
           clear H
           go_wp2
           go_meet
           case rel => exact ⟨_, (true), zR, H', ⟨by have := HK1.out; first | omega | exact Nat.le_refl _⟩, zK BK730, zK BK738, ⟨by (with_reducible repeat (first | refine blk_drewN ?_ _ | refine blk_drew ?_ | refine blk_alloc ?_ _)); refine zP (cs := #[.bool t739, .string (⟨#[]⟩ : ByteArray)]) ?_ 1 _; (with_reducible repeat (first | refine blk_drewN ?_ _ | refine blk_drew ?_ | refine blk_alloc ?_ _)); refine zP (cs := #[.bool false, .string (⟨#[]⟩ : ByteArray)]) ?_ 0 _; (with_reducible repeat (first | refine blk_drewN ?_ _ | refine blk_drew ?_ | refine blk_alloc ?_ _)); exact BK742.out⟩, ⟨zT HB⟩⟩
         case rest =>
          clear HC29
          try clear c1; try clear c2; try clear p2; try clear c3; try clear c3b0; try clear c4; try clear c5; try clear c5b0; try clear p6; try clear q6; try clear hx6; try clear c7; try clear c7b0; try clear c7b1; try clear c8; try clear c9; try clear c9b0; try clear c11; try clear c11b0; try clear c11b1; try clear c14; try clear c19; try clear c22; try clear c22b0; try clear c22b1; try clear c23; try clear c23b0; try clear c23b1; try clear c26; try clear c26b0; try clear c26b1; try clear c27; try clear c27b0; try clear c27b1; try clear c32; try clear c36; try clear c37; try clear c39; try clear c39b0; try clear c39b1; try clear c40; try clear c40b0; try clear c40b1; try clear c41; try clear c42; try clear c43; try clear c45; try clear c46; try clear hcz15_0; try clear hcz15_1; try clear hcz16_0; try clear hcz16_1; try clear hcz16_2; try clear hcz20_0; try clear hcz20_1; try clear hcz21_0; try clear hcz21_1; try clear hcz21_2; try clear hcz33_0; try clear hcz33_1; try clear hcz38_0; try clear hcz38_1; try clear hcz44_0; try clear hcz44_1; try clear hcz47_0; try clear hcz47_1; try clear hfz15_0; try clear hfz15_1; try clear hfz16_0; try clear hfz16_1; try clear hfz16_2; try clear hfz20_0; try clear hfz20_1; try clear hfz21_0; try clear hfz21_1; try clear hfz21_2; try clear hfz33_0; try clear hfz33_1; try clear hfz38_0; try clear hfz38_1; try clear hfz44_0; try clear hfz44_1; try clear hfz47_0; try clear hfz47_1; try clear p2; try clear p6; try clear q6
          obtain ⟨kq, x69_28, rfl, HA, HJ28, BK730, BK738, BK742, HB⟩ := hcut
          cases kq with
          | zero => exact absurd HA.out (by simp [gussetref03_Parse.j2])
          | succ kj28 =>
           have H := HA.out
           clear HA
           simp only [gussetref03_Parse.j2] at H
           by_cases c48 : x69_28 = true
           ·subst c48
            rw [if_pos rfl] at H
            simp only [Option.some.injEq, Prod.mk.injEq] at H
            obtain ⟨rfl, rfl, rfl, rfl⟩ := H
            have hnb49 := NB730_738.out; have hnc49 := NB738_730.out; have hnb50 := NB730_742.out; have hnc50 := NB742_730.out; obtain ⟨hcz51_0, hcz51_1, hcz51_2, hfz51_0, hfz51_1, hfz51_2⟩ := z3 BK730
            go_wp2
            refine bodyPost_ret (results_ct rfl _ _ gb730 27 #[.bool false, .string (⟨#[]⟩ : ByteArray), .string (⟨#[]⟩ : ByteArray)] (0, 0) _ rfl (by (with_reducible repeat (first | refine blk_drewN ?_ _ | refine blk_drew ?_ | refine blk_alloc ?_ _)); refine zP (cs := #[.bool false, .string (⟨#[]⟩ : ByteArray), .string (⟨#[]⟩ : ByteArray)]) ?_ 2 _; (with_reducible repeat (first | refine blk_drewN ?_ _ | refine blk_drew ?_ | refine blk_alloc ?_ _)); refine zP (cs := #[.bool false, .string (⟨#[]⟩ : ByteArray), .string (⟨#[]⟩ : ByteArray)]) ?_ 1 _; (with_reducible repeat (first | refine blk_drewN ?_ _ | refine blk_drew ?_ | refine blk_alloc ?_ _)); refine zP (cs := #[.bool false, .string (⟨#[]⟩ : ByteArray), .string (⟨#[]⟩ : ByteArray)]) ?_ 0 _; (with_reducible repeat (first | refine blk_drewN ?_ _ | refine blk_drew ?_ | refine blk_alloc ?_ _)); exact BK730.out) Tryz.underlying27 rfl (by kernel_rfl)) rfl ?_
            exact ⟨by first | rfl | (simp [errW_none, errW_some] <;> rfl) | (simp only [← hji25]; first | rfl | (simp [errW_none, errW_some] <;> rfl)) | (simp [*, errW_none, errW_some] <;> rfl), zT HB⟩
           ·replace c48 := Bool.eq_false_iff.mpr c48
            subst c48
            rw [if_neg zn] at H
            obtain ⟨⟨t743, t744, t745⟩, A52, H⟩ := zo H; try dsimp only at H
            simp only [Option.some.injEq, Prod.mk.injEq] at H
            obtain ⟨rfl, rfl, rfl, rfl⟩ := H
            have hnb53 := NB738_730.out; have hnc53 := NB730_738.out; have hnb54 := NB738_742.out; have hnc54 := NB742_738.out; obtain ⟨hcz55_0, hcz55_1, hfz55_0, hfz55_1⟩ := z2 BK738; have hnb56 := NB742_730.out; have hnc56 := NB730_742.out; obtain ⟨hcz57_0, hcz57_1, hfz57_0, hfz57_1⟩ := z2 BK742
            go_wp2_with (first | ((with_reducible refine gate_callee (f := 16) rfl ?_); refine zO Tryz.func16 (by kernel_rfl) (gussetref03_Lowest.calls t735 t736 t739 t740 t743 t744 t745 _ A52.out) fun w58 hb => ?_; obtain ⟨BK730, BK738, BK742⟩ := zB3 BK730 BK738 BK742 hb; replace HB := zS HB hb; (try clear hb); obtain ⟨hcz59_0, hcz59_1, hcz59_2, hfz59_0, hfz59_1, hfz59_2⟩ := z3 BK730))
            refine bodyPost_ret (results_ct rfl _ _ gb730 27 #[.bool t743, .string t744, .string t745] (0, 0) _ rfl (by (with_reducible repeat (first | refine blk_drewN ?_ _ | refine blk_drew ?_ | refine blk_alloc ?_ _)); refine zP (cs := #[.bool t743, .string t744, .string (⟨#[]⟩ : ByteArray)]) ?_ 2 _; (with_reducible repeat (first | refine blk_drewN ?_ _ | refine blk_drew ?_ | refine blk_alloc ?_ _)); refine zP (cs := #[.bool t743, .string (⟨#[]⟩ : ByteArray), .string (⟨#[]⟩ : ByteArray)]) ?_ 1 _; (with_reducible repeat (first | refine blk_drewN ?_ _ | refine blk_drew ?_ | refine blk_alloc ?_ _)); refine zP (cs := #[.bool false, .string (⟨#[]⟩ : ByteArray), .string (⟨#[]⟩ : ByteArray)]) ?_ 0 _; (with_reducible repeat (first | refine blk_drewN ?_ _ | refine blk_drew ?_ | refine blk_alloc ?_ _)); exact BK730.out) Tryz.underlying27 rfl (by kernel_rfl)) rfl ?_
            exact ⟨by first | rfl | (simp [errW_none, errW_some] <;> rfl) | (simp only [← hji25]; first | rfl | (simp [errW_none, errW_some] <;> rfl)) | (simp [*, errW_none, errW_some] <;> rfl), zT HB⟩
        ·rw [if_neg c27] at H
         exact absurd H (by simp)
       ·rw [if_neg c26] at H
        exact absurd H (by simp)
      ·rw [if_neg c23] at H
       exact absurd H (by simp)
     ·rw [if_neg c22] at H
      exact absurd H (by simp)


attribute [local go_sem high] eqA27
/-! ### gussetlaw03_RatReads: function 11 -/
def gussetlaw03_RatReads.f (k : Nat) (a0 : ByteArray) : Option (Bool) := (rat_Parse.f k a0).bind fun bt746 => ((gussetref03_Parse.f k a0).bind fun bt751 => (if ((bt746.1 == bt751.1 && (bt746.2.1.toList == bt751.2.1.toList)) && (bt746.2.2.1.toList == bt751.2.2.1.toList)) = true then (if bt746.2.2.2 = bt751.2.2.2 then ((gussetlaw03_live.f k).bind fun t756 => (some t756)) else (none)) else (none)))
set_option maxHeartbeats 8000000 in
set_option maxRecDepth 100000 in
theorem gussetlaw03_RatReads.calls (k : Nat) (a0 : ByteArray) (r : Bool) (w : World) (h : gussetlaw03_RatReads.f k a0 = some r) :
  Calls Tryz.prog 11 #[.string a0] w fun e w' => e = .returned (.bool r) ∧ Below w.heap.size w w' := by
 have hu27 := Tryz.underlying27
 have HB := Aside0.mk (Below.refl w.heap.size w)
 unfold gussetlaw03_RatReads.f at h; have H := h; clear h
 obtain ⟨⟨t746, t747, t748, t749⟩, A2, H⟩ := zo H; try dsimp only at H
 obtain ⟨⟨t751, t752, t753, t754⟩, A3, H⟩ := zo H; try dsimp only at H
 by_cases c4 : ((t746 == t751 && (t747.toList == t752.toList)) && (t748.toList == t753.toList)) = true
 ·rw [if_pos c4] at H
  have c4b0 : ((t746 == t751 && (t747.toList == t752.toList)) && (t748.toList == t753.toList)) = true := c4
  clear c4
  by_cases c5 : t749 = t754
  ·rw [if_pos c5] at H
   have c5b0 := beq_iff_eq.mpr c5
   have c5b1 := bne_eq_false_iff_eq.mpr c5
   clear c5
   obtain ⟨t756, A6, H⟩ := zo H
   obtain rfl := Option.some.inj H
   go_enter Tryz.func11, Tryz.ntmps11
   go_wp2_with (first | ((with_reducible refine gate_callee (f := 42) rfl ?_); refine zO Tryz.func42 (by kernel_rfl) (rat_Parse.calls k a0 t746 t747 t748 t749 _ A2.out) fun w7 hb => ?_; replace HB := zS HB hb; (try clear hb)) | ((with_reducible refine gate_dst (N := 3) rfl ?_); refine zY 3 #[.bool false, .string (⟨#[]⟩ : ByteArray), .string (⟨#[]⟩ : ByteArray)] 27 ?_; intro gb750 hg w8 hbox hb; have BK750 := Aside0.mk (hbox); have GW750 := zG hg HB; have GE750 := zG hg HB; replace HB := zS HB hb; clear hb hbox hg; obtain ⟨hcz9_0, hcz9_1, hcz9_2, hfz9_0, hfz9_1, hfz9_2⟩ := z3 BK750) | ((with_reducible refine gate_callee (f := 43) rfl ?_); refine zO Tryz.func43 (by kernel_rfl) (gussetref03_Parse.calls k a0 t751 t752 t753 t754 _ A3.out) fun w10 hb => ?_; replace BK750 := Aside0.mk (blk_below (g := gb750) (o := .cells #[.bool t746, .string t747, .string t748] 27 (0, 0)) (by (with_reducible repeat (first | refine blk_drewN ?_ _ | refine blk_drew ?_ | refine blk_alloc ?_ _)); refine zP (cs := #[.bool t746, .string t747, .string (⟨#[]⟩ : ByteArray)]) ?_ 2 _; (with_reducible repeat (first | refine blk_drewN ?_ _ | refine blk_drew ?_ | refine blk_alloc ?_ _)); refine zP (cs := #[.bool t746, .string (⟨#[]⟩ : ByteArray), .string (⟨#[]⟩ : ByteArray)]) ?_ 1 _; (with_reducible repeat (first | refine blk_drewN ?_ _ | refine blk_drew ?_ | refine blk_alloc ?_ _)); refine zP (cs := #[.bool false, .string (⟨#[]⟩ : ByteArray), .string (⟨#[]⟩ : ByteArray)]) ?_ 0 _; (with_reducible repeat (first | refine blk_drewN ?_ _ | refine blk_drew ?_ | refine blk_alloc ?_ _)); exact BK750.out) hb); replace HB := zS HB hb; (try clear hb)) | ((with_reducible refine gate_dst (N := 5) rfl ?_); refine zY 5 #[.bool false, .string (⟨#[]⟩ : ByteArray), .string (⟨#[]⟩ : ByteArray)] 27 ?_; intro gb755 hg w11 hbox hb; have BK755 := Aside0.mk (hbox); have GW755 := zG hg HB; have GE755 := zG hg HB; obtain ⟨NB750_755, NB755_750⟩ := zQ hg BK750; replace BK750 := zB BK750 hb; replace HB := zS HB hb; clear hb hbox hg; have hnb12 := NB755_750.out; have hnc12 := NB750_755.out; obtain ⟨hcz13_0, hcz13_1, hcz13_2, hfz13_0, hfz13_1, hfz13_2⟩ := z3 BK755; obtain ⟨hcz14_0, hcz14_1, hcz14_2, hfz14_0, hfz14_1, hfz14_2⟩ := z3 BK750) | (go_at_call 13; (with_reducible refine (gussetlaw03_live.calls k  t756 _ A6.out).mono ?_); rintro e w15 ⟨rfl, hb⟩; replace BK750 := zB BK750 hb; replace BK755 := Aside0.mk (blk_below (g := gb755) (o := .cells #[.bool t751, .string t752, .string t753] 27 (0, 0)) (by (with_reducible repeat (first | refine blk_drewN ?_ _ | refine blk_drew ?_ | refine blk_alloc ?_ _)); refine zP (cs := #[.bool t751, .string t752, .string (⟨#[]⟩ : ByteArray)]) ?_ 2 _; (with_reducible repeat (first | refine blk_drewN ?_ _ | refine blk_drew ?_ | refine blk_alloc ?_ _)); refine zP (cs := #[.bool t751, .string (⟨#[]⟩ : ByteArray), .string (⟨#[]⟩ : ByteArray)]) ?_ 1 _; (with_reducible repeat (first | refine blk_drewN ?_ _ | refine blk_drew ?_ | refine blk_alloc ?_ _)); refine zP (cs := #[.bool false, .string (⟨#[]⟩ : ByteArray), .string (⟨#[]⟩ : ByteArray)]) ?_ 0 _; (with_reducible repeat (first | refine blk_drewN ?_ _ | refine blk_drew ?_ | refine blk_alloc ?_ _)); exact BK755.out) hb); replace HB := zS HB hb; (try clear hb)))
   go_ret
   exact ⟨zH, zT HB⟩
  ·rw [if_neg c5] at H
   exact absurd H (by simp)
 ·rw [if_neg c4] at H
  exact absurd H (by simp)


/-! ### rat_Mul: function 28 -/
def rat_Mul.f (k : Nat) (a0_0 : Bool) (a0_1 : ByteArray) (a0_2 : ByteArray) (a1_0 : Bool) (a1_1 : ByteArray) (a1_2 : ByteArray) : Option (Bool × ByteArray × ByteArray × Int) := (rat_both.f k a0_0 a0_1 a0_2 a1_0 a1_1 a1_2).bind fun t400 => (if t400 = 0 then ((rat_do_of_whole_Mul.f a0_0 a0_1 a1_0 a1_1).bind fun bt401 => ((rat_den.f a0_0 a0_1 a0_2).bind fun bt403 => ((rat_den.f a1_0 a1_1 a1_2).bind fun bt405 => ((rat_do_of_whole_Mul.f bt403.1 bt403.2 bt405.1 bt405.2).bind fun bt407 => ((rat_lowest.f k bt401.1 bt401.2 bt407.1 bt407.2).bind fun bt409 => (some (bt409.1, bt409.2.1, bt409.2.2, 0))))))) else (some (false, (⟨#[]⟩ : ByteArray), (⟨#[]⟩ : ByteArray), t400)))
def rat_Mul.T4 : Bool × List (List Nat × List Nat) := (true, [([], []), ([0], [0]), ([], []), ([2], [2]), ([1, 3], [1, 3]), ([], []), ([5, 4], [5]), ([], []), ([7, 6], [7]), ([6, 8, 8], [6, 8]), ([4, 9, 9], [4, 9]), ([10, 10, 0, 1, 2, 3, 4, 5, 6, 7, 8, 9, 10], [10]), ([11, 0, 1, 2, 3, 4, 5, 6, 7, 8, 9, 10, 11], [])])
def rat_Mul.B4 : List Nat := [0, 1, 0, 4, 15, 0, 63, 0, 255, 511, 1023, 2047, 4095]
theorem rat_Mul.tab4 : rtab .any (opsOf Tryz.f28 4) = rat_Mul.T4 := by kernel_rfl
theorem rat_Mul.bits4 : waitsOk rat_Mul.T4.2 rat_Mul.B4 = true := by kernel_rfl
set_option maxHeartbeats 8000000 in
set_option maxRecDepth 100000 in
theorem rat_Mul.calls (k : Nat) (a0_0 : Bool) (a0_1 : ByteArray) (a0_2 : ByteArray) (a1_0 : Bool) (a1_1 : ByteArray) (a1_2 : ByteArray) (r1 : Bool) (r2 : ByteArray) (r3 : ByteArray) (r4 : Int) (w : World) (h : rat_Mul.f k a0_0 a0_1 a0_2 a1_0 a1_1 a1_2 = some (r1, r2, r3, r4)) :
  Calls Tryz.prog 28 #[.agg #[.bool a0_0, .string a0_1, .string a0_2], .agg #[.bool a1_0, .string a1_1, .string a1_2]] w fun e w' => e = .returned (.tuple #[.agg #[.bool r1, .string r2, .string r3], .int .i64 r4]) ∧ Below w.heap.size w w' := by
 have hu27 := Tryz.underlying27
 have hu24 := Tryz.underlying24; have hf0 := zf240; have hf1 := zf241; have hf2 := zf270; have hf3 := zf271
 have HB := Aside0.mk (Below.refl w.heap.size w)
 unfold rat_Mul.f at h; have H := h; clear h
 obtain ⟨t400, A3, H⟩ := zo H
 by_cases c4 : t400 = 0
 ·rw [if_pos c4] at H
  have c4b0 := beq_iff_eq.mpr c4
  have c4b1 := bne_eq_false_iff_eq.mpr c4
  clear c4
  obtain ⟨⟨t401, t402⟩, A5, H⟩ := zo H; try dsimp only at H
  obtain ⟨⟨t403, t404⟩, A6, H⟩ := zo H; try dsimp only at H
  obtain ⟨⟨t405, t406⟩, A7, H⟩ := zo H; try dsimp only at H
  obtain ⟨⟨t407, t408⟩, A8, H⟩ := zo H; try dsimp only at H
  obtain ⟨⟨t409, t410, t411⟩, A9, H⟩ := zo H; try dsimp only at H
  simp only [Option.some.injEq, Prod.mk.injEq] at H
  obtain ⟨rfl, rfl, rfl, rfl⟩ := H
  go_enter Tryz.func28, Tryz.ntmps28
  try go_wp2_with (first | ((with_reducible refine gate_dst (N := 2) rfl ?_); refine zY 2 #[.bool a0_0, .string a0_1, .string a0_2] 27 ?_; intro gb397 hg w10 hbox hb; have BK397 := Aside0.mk (hbox); have GW397 := zG hg HB; have GE397 := zG hg HB; replace HB := zS HB hb; clear hb hbox hg) | ((with_reducible refine gate_dst (N := 3) rfl ?_); refine zY 3 #[.bool a1_0, .string a1_1, .string a1_2] 27 ?_; intro gb398 hg w11 hbox hb; have BK398 := Aside0.mk (hbox); have GW398 := zG hg HB; have GE398 := zG hg HB; obtain ⟨NB397_398, NB398_397⟩ := zQ hg BK397; replace BK397 := zB BK397 hb; replace HB := zS HB hb; clear hb hbox hg) | ((with_reducible refine gate_dst (N := 4) rfl ?_); refine zY 4 #[.bool false, .string (⟨#[]⟩ : ByteArray), .string (⟨#[]⟩ : ByteArray)] 27 ?_; intro gb399 hg w12 hbox hb; have BK399 := Aside0.mk (hbox); have GW399 := zG hg HB; have GE399 := zG hg HB; obtain ⟨NB397_399, NB399_397⟩ := zQ hg BK397; obtain ⟨NB398_399, NB399_398⟩ := zQ hg BK398; obtain ⟨BK397, BK398⟩ := zB2 BK397 BK398 hb; replace HB := zS HB hb; clear hb hbox hg; have hnb13 := NB397_398.out; have hnc13 := NB398_397.out; have hnb14 := NB397_399.out; have hnc14 := NB399_397.out; obtain ⟨hcz15_0, hcz15_1, hcz15_2, hfz15_0, hfz15_1, hfz15_2⟩ := z3 BK397; have hnb16 := NB398_399.out; have hnc16 := NB399_398.out; obtain ⟨hcz17_0, hcz17_1, hcz17_2, hfz17_0, hfz17_1, hfz17_2⟩ := z3 BK398) | ((with_reducible refine gate_callee (f := 72) rfl ?_); refine zO Tryz.func72 (by kernel_rfl) (rat_both.calls k a0_0 a0_1 a0_2 a1_0 a1_1 a1_2 t400 _ A3.out) fun w18 hb => ?_; obtain ⟨BK397, BK398, BK399⟩ := zB3 BK397 BK398 BK399 hb; replace HB := zS HB hb; (try clear hb)))
  replace BK397 := zD BK397; replace BK398 := zD BK398; replace BK399 := zD BK399; replace HB := zF HB
  refine start_ (n := 13) (S := fun w' => w'.cell? ⟨gb397, 0, none⟩ = some (.bool a0_0) ∧ w'.cell? ⟨gb397, 1, none⟩ = some (.string a0_1) ∧ w'.cell? ⟨gb397, 2, none⟩ = some (.string a0_2) ∧ w'.cell? ⟨gb398, 0, none⟩ = some (.bool a1_0) ∧ w'.cell? ⟨gb398, 1, none⟩ = some (.string a1_1) ∧ w'.cell? ⟨gb398, 2, none⟩ = some (.string a1_2)) (ds := []) (zb 13 0) (by kernel_rfl) rfl rfl ⟨zc BK397 0, zc BK397 1, zc BK397 2, zc BK398 0, zc BK398 1, zc BK398 2⟩ (fun hHeld => ?_); refine with_tabW rat_Mul.tab4 rat_Mul.bits4 (fun HT_ HW_ => ?_)
  generalize w18.drew = w19 at BK397 BK398 BK399 HB hHeld ⊢
  refine zU (i := 0) (N := some 14) (zb 13 1) (any_of HT_.out (by kernel_rfl)) ?_
  refine zU (i := 2) (N := some 16) (zb 13 5) (any_of HT_.out (by kernel_rfl)) ?_
  refine zV (i := 1) (N := some 15) (zb 13 7) (take_ofW HT_.out HW_.out (by kernel_rfl)) hHeld ?_
  refine zV (i := 3) (N := some 17) (zb 13 15) (take_ofW HT_.out HW_.out (by kernel_rfl)) hHeld ?_
  refine zV (i := 5) (N := some 19) (zb 13 47) (take_ofW HT_.out HW_.out (by kernel_rfl)) hHeld ?_
  refine zV (i := 7) (N := some 21) (zb 13 175) (take_ofW HT_.out HW_.out (by kernel_rfl)) hHeld ?_
  refine one_ (i := 4) (N := some 18) (zb 13 191) rfl rfl (one_of HT_.out (by kernel_rfl)) (by decide) (fun K hK => ?_)
  refine zJ Tryz.func57 (by kernel_rfl) (rat_do_of_whole_Mul.calls a0_0 a0_1 a1_0 a1_1 t401 t402 _ A5.out) fun w20 hb => ?_
  obtain ⟨BK397, BK398, BK399⟩ := zB3 BK397 BK398 BK399 hb; replace HB := zS HB hb
  (try clear hb)
  refine hK.out _ _ ⟨zc BK397 0, zc BK397 1, zc BK397 2, zc BK398 0, zc BK398 1, zc BK398 2⟩ (fun hHeld => ?_)
  clear hK K
  refine zW (some 18) ?_
  refine one_ (i := 6) (N := some 20) (zb 13 255) rfl rfl (one_of HT_.out (by kernel_rfl)) (by decide) (fun K hK => ?_)
  refine zJ Tryz.func60 (by kernel_rfl) (rat_den.calls a0_0 a0_1 a0_2 t403 t404 _ A6.out) fun w21 hb => ?_
  obtain ⟨BK397, BK398, BK399⟩ := zB3 BK397 BK398 BK399 hb; replace HB := zS HB hb
  (try clear hb)
  refine hK.out _ _ ⟨zc BK397 0, zc BK397 1, zc BK397 2, zc BK398 0, zc BK398 1, zc BK398 2⟩ (fun hHeld => ?_)
  clear hK K
  refine zW (some 20) ?_
  refine one_ (i := 8) (N := some 22) (zb 13 511) rfl rfl (one_of HT_.out (by kernel_rfl)) (by decide) (fun K hK => ?_)
  refine zJ Tryz.func60 (by kernel_rfl) (rat_den.calls a1_0 a1_1 a1_2 t405 t406 _ A7.out) fun w22 hb => ?_
  obtain ⟨BK397, BK398, BK399⟩ := zB3 BK397 BK398 BK399 hb; replace HB := zS HB hb
  (try clear hb)
  refine hK.out _ _ ⟨zc BK397 0, zc BK397 1, zc BK397 2, zc BK398 0, zc BK398 1, zc BK398 2⟩ (fun hHeld => ?_)
  clear hK K
  refine zW (some 22) ?_
  refine one_ (i := 9) (N := some 23) (zb 13 1023) rfl rfl (one_of HT_.out (by kernel_rfl)) (by decide) (fun K hK => ?_)
  refine zJ Tryz.func57 (by kernel_rfl) (rat_do_of_whole_Mul.calls t403 t404 t405 t406 t407 t408 _ A8.out) fun w23 hb => ?_
  obtain ⟨BK397, BK398, BK399⟩ := zB3 BK397 BK398 BK399 hb; replace HB := zS HB hb
  (try clear hb)
  refine hK.out _ _ ⟨zc BK397 0, zc BK397 1, zc BK397 2, zc BK398 0, zc BK398 1, zc BK398 2⟩ (fun hHeld => ?_)
  clear hK K
  refine zW (some 23) ?_
  refine one_ (i := 10) (N := some 24) (zb 13 2047) rfl rfl (one_of HT_.out (by kernel_rfl)) (by decide) (fun K hK => ?_)
  refine zJ Tryz.func47 (by kernel_rfl) (rat_lowest.calls k t401 t402 t407 t408 t409 t410 t411 _ A9.out) fun w24 hb => ?_
  obtain ⟨BK397, BK398, BK399⟩ := zB3 BK397 BK398 BK399 hb; replace HB := zS HB hb
  (try clear hb)
  refine hK.out _ _ ⟨zc BK397 0, zc BK397 1, zc BK397 2, zc BK398 0, zc BK398 1, zc BK398 2⟩ (fun hHeld => ?_)
  clear hK K
  refine zW (some 24) ?_
  refine one_ (i := 11) (N := none) (zb 13 4095) rfl rfl (one_of HT_.out (by kernel_rfl)) (by decide) (fun K hK => ?_)
  have hs25 : w24.cell? ⟨gb399, 0, none⟩ = some (.bool false) := zc BK399 0
  have hfs25 := blk_frozen BK399.out 0
  have hns25_0 := NB397_399.out
  have hns25_1 := NB398_399.out
  have hms25_0 := NB399_397.out
  have hms25_1 := NB399_398.out
  have hs26 : w24.cell? ⟨gb399, 1, none⟩ = some (.string (⟨#[]⟩ : ByteArray)) := zc BK399 1
  have hfs26 := blk_frozen BK399.out 1
  have hns26_0 := NB397_399.out
  have hns26_1 := NB398_399.out
  have hms26_0 := NB399_397.out
  have hms26_1 := NB399_398.out
  have hs27 : w24.cell? ⟨gb399, 2, none⟩ = some (.string (⟨#[]⟩ : ByteArray)) := zc BK399 2
  have hfs27 := blk_frozen BK399.out 2
  have hns27_0 := NB397_399.out
  have hns27_1 := NB398_399.out
  have hms27_0 := NB399_397.out
  have hms27_1 := NB399_398.out
  refine skip_ (w1 := ?_) (by rfl) rfl ?_ ?_
  rotate_left
  ·go_simp
   rfl
  refine hK.out _ _ ⟨((cell_far (p := ⟨gb399, _, none⟩) NB397_399.out _).trans (((cell_far (p := ⟨gb399, _, none⟩) NB397_399.out _).trans (((cell_far (p := ⟨gb399, _, none⟩) NB397_399.out _).trans (hHeld.1)))))), ((cell_far (p := ⟨gb399, _, none⟩) NB397_399.out _).trans (((cell_far (p := ⟨gb399, _, none⟩) NB397_399.out _).trans (((cell_far (p := ⟨gb399, _, none⟩) NB397_399.out _).trans (hHeld.2.1)))))), ((cell_far (p := ⟨gb399, _, none⟩) NB397_399.out _).trans (((cell_far (p := ⟨gb399, _, none⟩) NB397_399.out _).trans (((cell_far (p := ⟨gb399, _, none⟩) NB397_399.out _).trans (hHeld.2.2.1)))))), ((cell_far (p := ⟨gb399, _, none⟩) NB398_399.out _).trans (((cell_far (p := ⟨gb399, _, none⟩) NB398_399.out _).trans (((cell_far (p := ⟨gb399, _, none⟩) NB398_399.out _).trans (hHeld.2.2.2.1)))))), ((cell_far (p := ⟨gb399, _, none⟩) NB398_399.out _).trans (((cell_far (p := ⟨gb399, _, none⟩) NB398_399.out _).trans (((cell_far (p := ⟨gb399, _, none⟩) NB398_399.out _).trans (hHeld.2.2.2.2.1)))))), ((cell_far (p := ⟨gb399, _, none⟩) NB398_399.out _).trans (((cell_far (p := ⟨gb399, _, none⟩) NB398_399.out _).trans (((cell_far (p := ⟨gb399, _, none⟩) NB398_399.out _).trans (hHeld.2.2.2.2.2))))))⟩ (fun hHeld => ?_)
  clear hK K
  refine zU (i := 12) (N := some 5) (zb 13 8191) (any_of HT_.out (by kernel_rfl)) ?_
  refine done_ (done_of HT_.out (by kernel_rfl)) ?_
  try go_wp2
  refine bodyPost_ret (results_ct rfl _ _ gb399 27 #[.bool t409, .string t410, .string t411] (0, 0) _ rfl (by (with_reducible repeat (first | refine blk_drewN ?_ _ | refine blk_drew ?_ | refine blk_alloc ?_ _)); refine zP (cs := #[.bool t409, .string t410, .string (⟨#[]⟩ : ByteArray)]) ?_ 2 _; (with_reducible repeat (first | refine blk_drewN ?_ _ | refine blk_drew ?_ | refine blk_alloc ?_ _)); refine zP (cs := #[.bool t409, .string (⟨#[]⟩ : ByteArray), .string (⟨#[]⟩ : ByteArray)]) ?_ 1 _; (with_reducible repeat (first | refine blk_drewN ?_ _ | refine blk_drew ?_ | refine blk_alloc ?_ _)); refine zP (cs := #[.bool false, .string (⟨#[]⟩ : ByteArray), .string (⟨#[]⟩ : ByteArray)]) ?_ 0 _; (with_reducible repeat (first | refine blk_drewN ?_ _ | refine blk_drew ?_ | refine blk_alloc ?_ _)); exact BK399.out) Tryz.underlying27 rfl (by kernel_rfl)) rfl ?_
  exact ⟨zH, zT HB⟩
 ·rw [if_neg c4] at H
  have c4b0 := beq_eq_false_iff_ne.mpr c4
  have c4b1 := bne_iff_ne.mpr c4
  simp only [Option.some.injEq, Prod.mk.injEq] at H
  obtain ⟨rfl, rfl, rfl, rfl⟩ := H
  go_enter Tryz.func28, Tryz.ntmps28
  go_wp2_with (first | ((with_reducible refine gate_dst (N := 2) rfl ?_); refine zY 2 #[.bool a0_0, .string a0_1, .string a0_2] 27 ?_; intro gb397 hg w28 hbox hb; have BK397 := Aside0.mk (hbox); have GW397 := zG hg HB; have GE397 := zG hg HB; replace HB := zS HB hb; clear hb hbox hg) | ((with_reducible refine gate_dst (N := 3) rfl ?_); refine zY 3 #[.bool a1_0, .string a1_1, .string a1_2] 27 ?_; intro gb398 hg w29 hbox hb; have BK398 := Aside0.mk (hbox); have GW398 := zG hg HB; have GE398 := zG hg HB; obtain ⟨NB397_398, NB398_397⟩ := zQ hg BK397; replace BK397 := zB BK397 hb; replace HB := zS HB hb; clear hb hbox hg) | ((with_reducible refine gate_dst (N := 4) rfl ?_); refine zY 4 #[.bool false, .string (⟨#[]⟩ : ByteArray), .string (⟨#[]⟩ : ByteArray)] 27 ?_; intro gb399 hg w30 hbox hb; have BK399 := Aside0.mk (hbox); have GW399 := zG hg HB; have GE399 := zG hg HB; obtain ⟨NB397_399, NB399_397⟩ := zQ hg BK397; obtain ⟨NB398_399, NB399_398⟩ := zQ hg BK398; obtain ⟨BK397, BK398⟩ := zB2 BK397 BK398 hb; replace HB := zS HB hb; clear hb hbox hg; have hnb31 := NB397_398.out; have hnc31 := NB398_397.out; have hnb32 := NB397_399.out; have hnc32 := NB399_397.out; obtain ⟨hcz33_0, hcz33_1, hcz33_2, hfz33_0, hfz33_1, hfz33_2⟩ := z3 BK397; have hnb34 := NB398_399.out; have hnc34 := NB399_398.out; obtain ⟨hcz35_0, hcz35_1, hcz35_2, hfz35_0, hfz35_1, hfz35_2⟩ := z3 BK398) | ((with_reducible refine gate_callee (f := 72) rfl ?_); refine zO Tryz.func72 (by kernel_rfl) (rat_both.calls k a0_0 a0_1 a0_2 a1_0 a1_1 a1_2 t400 _ A3.out) fun w36 hb => ?_; obtain ⟨BK397, BK398, BK399⟩ := zB3 BK397 BK398 BK399 hb; replace HB := zS HB hb; (try clear hb); obtain ⟨hcz37_0, hcz37_1, hcz37_2, hfz37_0, hfz37_1, hfz37_2⟩ := z3 BK399))
  refine bodyPost_ret (results_ct rfl _ _ gb399 27 #[.bool false, .string (⟨#[]⟩ : ByteArray), .string (⟨#[]⟩ : ByteArray)] (0, 0) _ rfl (by (with_reducible repeat (first | refine blk_drewN ?_ _ | refine blk_drew ?_ | refine blk_alloc ?_ _)); refine zP (cs := #[.bool false, .string (⟨#[]⟩ : ByteArray), .string (⟨#[]⟩ : ByteArray)]) ?_ 2 _; (with_reducible repeat (first | refine blk_drewN ?_ _ | refine blk_drew ?_ | refine blk_alloc ?_ _)); refine zP (cs := #[.bool false, .string (⟨#[]⟩ : ByteArray), .string (⟨#[]⟩ : ByteArray)]) ?_ 1 _; (with_reducible repeat (first | refine blk_drewN ?_ _ | refine blk_drew ?_ | refine blk_alloc ?_ _)); refine zP (cs := #[.bool false, .string (⟨#[]⟩ : ByteArray), .string (⟨#[]⟩ : ByteArray)]) ?_ 0 _; (with_reducible repeat (first | refine blk_drewN ?_ _ | refine blk_drew ?_ | refine blk_alloc ?_ _)); exact BK399.out) Tryz.underlying27 rfl (by kernel_rfl)) rfl ?_
  exact ⟨zH, zT HB⟩


/-! ### gussetlaw03_small: function 33 -/
def gussetlaw03_small.f (a0_0 : Bool) (a0_1 : ByteArray) (a0_2 : ByteArray) : Option (Bool) := if (a0_1.size : Int) ≤ 120 then (some (decide ((a0_2.size : Int) ≤ 120))) else (some false)
set_option maxHeartbeats 8000000 in
set_option maxRecDepth 100000 in
theorem gussetlaw03_small.calls (a0_0 : Bool) (a0_1 : ByteArray) (a0_2 : ByteArray) (r : Bool) (w : World) (h : gussetlaw03_small.f a0_0 a0_1 a0_2 = some r) :
  Calls Tryz.prog 33 #[.agg #[.bool a0_0, .string a0_1, .string a0_2]] w fun e w' => e = .returned (.bool r) ∧ Below w.heap.size w w' := by
 have hu27 := Tryz.underlying27
 have HB := Aside0.mk (Below.refl w.heap.size w)
 unfold gussetlaw03_small.f at h; have H := h; clear h
 by_cases c2 : (a0_1.size : Int) ≤ 120
 ·rw [if_pos c2] at H
  have c2b0 := decide_eq_true c2
  have c2b1 : decide (a0_1.size ≤ 120) = true := decide_eq_true (by omega)
  clear c2
  obtain rfl := Option.some.inj H
  go_enter Tryz.func33, Tryz.ntmps33
  go_wp2_with (first | ((with_reducible refine gate_dst (N := 1) rfl ?_); (try (refine gate_guard (by rfl) ?_; dsimp only)); refine zY 1 #[.bool a0_0, .string a0_1, .string a0_2] 27 ?_; intro gb387 hg w3 hbox hb; have BK387 := Aside0.mk (hbox); have GW387 := zG hg HB; have GE387 := zG hg HB; replace HB := zS HB hb; clear hb hbox hg; obtain ⟨hcz4_0, hcz4_1, hcz4_2, hfz4_0, hfz4_1, hfz4_2⟩ := z3 BK387))
  go_ret
  exact ⟨zH, zT HB⟩
 ·rw [if_neg c2] at H
  have c2b0 := decide_eq_false c2
  have c2b1 : decide (a0_1.size ≤ 120) = false := decide_eq_false (by omega)
  clear c2
  obtain rfl := Option.some.inj H
  go_enter Tryz.func33, Tryz.ntmps33
  go_wp2_with (first | ((with_reducible refine gate_dst (N := 1) rfl ?_); (try (refine gate_guard (by rfl) ?_; dsimp only)); refine zY 1 #[.bool a0_0, .string a0_1, .string a0_2] 27 ?_; intro gb387 hg w5 hbox hb; have BK387 := Aside0.mk (hbox); have GW387 := zG hg HB; have GE387 := zG hg HB; replace HB := zS HB hb; clear hb hbox hg; obtain ⟨hcz6_0, hcz6_1, hcz6_2, hfz6_0, hfz6_1, hfz6_2⟩ := z3 BK387))
  go_ret
  exact ⟨zH, zT HB⟩


/-! ### gussetref02_Check: function 48 -/
open Go.Proofs.YtoijlbcbbblbfaaGreatDoor Go.Proofs.YtoijlbcbbblbfaaGreatDoor.Num in
def gussetref02_Check.f (a0_0 : Bool) (a0_1 : ByteArray) : Option (Int) := some (chk a0_0 a0_1)
open Go.Proofs.YtoijlbcbbblbfaaGreatDoor Go.Proofs.YtoijlbcbbblbfaaGreatDoor.Num in
theorem gussetref02_Check.calls (a0_0 : Bool) (a0_1 : ByteArray) (r : Int) (w : World) (h : gussetref02_Check.f a0_0 a0_1 = some r) :
  Calls Tryz.prog 48 #[.agg #[.bool a0_0, .string a0_1]] w fun e w' => e = .returned (.int .i64 r) ∧ Below w.heap.size w w' := by
 unfold gussetref02_Check.f at h
 obtain rfl := Option.some.inj h
 exact check_r _ _ w



/-! ### gussetref02_Common: function 49 -/
open Go.Proofs.YtoijlbcbbblbfaaGreatDoor Go.Proofs.YtoijlbcbbblbfaaGreatDoor.Num in
def gussetref02_Common.f (a0_0 : Bool) (a0_1 : ByteArray) (a1_0 : Bool) (a1_1 : ByteArray) : Option (Bool × ByteArray) := if a0_1.size ≤ 4000 ∧ a1_1.size ≤ 4000 then some ((pv ((Nat.gcd (nv a0_1).toNat (nv a1_1).toNat : Nat) : Int)).1, (pv ((Nat.gcd (nv a0_1).toNat (nv a1_1).toNat : Nat) : Int)).2) else none
open Go.Proofs.YtoijlbcbbblbfaaGreatDoor Go.Proofs.YtoijlbcbbblbfaaGreatDoor.Num in
theorem gussetref02_Common.calls (a0_0 : Bool) (a0_1 : ByteArray) (a1_0 : Bool) (a1_1 : ByteArray) (r1 : Bool) (r2 : ByteArray) (w : World) (h : gussetref02_Common.f a0_0 a0_1 a1_0 a1_1 = some (r1, r2)) :
  Calls Tryz.prog 49 #[.agg #[.bool a0_0, .string a0_1], .agg #[.bool a1_0, .string a1_1]] w fun e w' => e = .returned (.agg #[.bool r1, .string r2]) ∧ Below w.heap.size w w' := by
 unfold gussetref02_Common.f at h
 split at h
 ·rename_i hc
  simp only [Option.some.injEq, Prod.mk.injEq] at h
  obtain ⟨rfl, rfl⟩ := h
  exact common_r _ _ _ _ hc.1 hc.2 w
 ·exact absurd h (by simp)



/-! ### gussetref01_IsNat: function 55 -/
open Go.Proofs.YtoijlbcbbblbfaaGreatDoor Go.Proofs.YtoijlbcbbblbfaaGreatDoor.Num in
def gussetref01_IsNat.f (a0 : ByteArray) : Option (Bool) := some (natB a0)
open Go.Proofs.YtoijlbcbbblbfaaGreatDoor Go.Proofs.YtoijlbcbbblbfaaGreatDoor.Num in
theorem gussetref01_IsNat.calls (a0 : ByteArray) (r : Bool) (w : World) (h : gussetref01_IsNat.f a0 = some r) :
  Calls Tryz.prog 55 #[.string a0] w fun e w' => e = .returned (.bool r) ∧ Below w.heap.size w w' := by
 unfold gussetref01_IsNat.f at h
 obtain rfl := Option.some.inj h
 exact isnat_r a0 w


/-! ### gussetref03_den: function 56 -/
def gussetref03_den.f (a0_0 : Bool) (a0_1 : ByteArray) (a0_2 : ByteArray) : Option (Bool × ByteArray) := some (false, a0_2)
set_option maxHeartbeats 8000000 in
set_option maxRecDepth 100000 in
theorem gussetref03_den.calls (a0_0 : Bool) (a0_1 : ByteArray) (a0_2 : ByteArray) (r1 : Bool) (r2 : ByteArray) (w : World) (h : gussetref03_den.f a0_0 a0_1 a0_2 = some (r1, r2)) :
  Calls Tryz.prog 56 #[.agg #[.bool a0_0, .string a0_1, .string a0_2]] w fun e w' => e = .returned (.agg #[.bool r1, .string r2]) ∧ Below w.heap.size w w' := by
 have hu27 := Tryz.underlying27
 have hu24 := Tryz.underlying24; have hf0 := zf240; have hf1 := zf241; have hf2 := zf270; have hf3 := zf271
 have HB := Aside0.mk (Below.refl w.heap.size w)
 unfold gussetref03_den.f at h; have H := h; clear h
 simp only [Option.some.injEq, Prod.mk.injEq] at H
 obtain ⟨rfl, rfl⟩ := H
 go_enter Tryz.func56, Tryz.ntmps56
 go_wp2_with (first | ((with_reducible refine gate_dst (N := 1) rfl ?_); refine zY 1 #[.bool a0_0, .string a0_1, .string a0_2] 27 ?_; intro gb260 hg w2 hbox hb; have BK260 := Aside0.mk (hbox); have GW260 := zG hg HB; have GE260 := zG hg HB; replace HB := zS HB hb; clear hb hbox hg) | ((with_reducible refine gate_dst (N := 2) rfl ?_); refine zY 2 #[.bool false, .string (⟨#[]⟩ : ByteArray)] 24 ?_; intro gb261 hg w3 hbox hb; have BK261 := Aside0.mk (hbox); have GW261 := zG hg HB; have GE261 := zG hg HB; obtain ⟨NB260_261, NB261_260⟩ := zQ hg BK260; replace BK260 := zB BK260 hb; replace HB := zS HB hb; clear hb hbox hg; have hnb4 := NB260_261.out; have hnc4 := NB261_260.out; obtain ⟨hcz5_0, hcz5_1, hcz5_2, hfz5_0, hfz5_1, hfz5_2⟩ := z3 BK260; obtain ⟨hcz6_0, hcz6_1, hfz6_0, hfz6_1⟩ := z2 BK261))
 refine bodyPost_ret (results_cell_row rfl _ _ gb261 24 #[.bool false, .string a0_2] (0, 0) _ rfl (by (with_reducible repeat (first | refine blk_drewN ?_ _ | refine blk_drew ?_ | refine blk_alloc ?_ _)); refine zP (cs := #[.bool false, .string (⟨#[]⟩ : ByteArray)]) ?_ 1 _; (with_reducible repeat (first | refine blk_drewN ?_ _ | refine blk_drew ?_ | refine blk_alloc ?_ _)); refine zP (cs := #[.bool false, .string (⟨#[]⟩ : ByteArray)]) ?_ 0 _; (with_reducible repeat (first | refine blk_drewN ?_ _ | refine blk_drew ?_ | refine blk_alloc ?_ _)); exact BK261.out) Tryz.underlying24 rfl (by kernel_rfl)) rfl ?_
 exact ⟨zH, zT HB⟩


/-! ### gussetref03_Check: function 19 -/
mutual
def gussetref03_Check.j0 : Nat → Bool → Bool → ByteArray → ByteArray → Option (Int)
 | 0, _, _, _, _ => none
 | k + 1, x13, x263000, x263001, x263002 => if x13 = true then (some 5) else ((gussetref02_Check.f x263000 x263001).bind fun t263 => (if t263 = 0 then ((gussetref01_IsNat.f x263002).bind fun t264 => (if t264 = true then (if x263002.toList = ([] : List UInt8) then (gussetref03_Check.j1 k true) else ((gussetref03_den.f x263000 x263001 x263002).bind fun bt265 => ((gussetref02_Common.f x263000 x263001 bt265.1 bt265.2).bind fun bt267 => (gussetref03_Check.j1 k (bt267.2.toList != ([1] : List UInt8)))))) else (gussetref03_Check.j1 k true))) else (gussetref03_Check.j1 k true)))
def gussetref03_Check.j1 : Nat → Bool → Option (Int)
 | 0, _ => none
 | k + 1, x37 => if x37 = true then (some 1) else (some 0)
end
def gussetref03_Check.f (k : Nat) (a0_0 : Bool) (a0_1 : ByteArray) (a0_2 : ByteArray) : Option (Int) := if (a0_1.size : Int) > 8000 then (gussetref03_Check.j0 k true a0_0 a0_1 a0_2) else (gussetref03_Check.j0 k (decide ((a0_2.size : Int) > 8000)) a0_0 a0_1 a0_2)
def gussetref03_Check.T3 : Bool × List (List Nat × List Nat) := (true, [([], []), ([0], [0]), ([1], [1]), ([2], [2]), ([3, 2], [3]), ([4], [4]), ([5, 4], [4, 5]), ([6, 4, 4], [4, 6]), ([7, 4], [4, 7]), ([4, 8], [4, 8]), ([9, 7], [9]), ([10], [10]), ([11, 10], [10, 11]), ([12, 10], [10, 12]), ([10, 13], [10, 13]), ([14, 10], [14]), ([15], [15]), ([16, 15], [15, 16]), ([15], [15]), ([18, 15, 15], [15, 18]), ([17, 19, 19, 15], [15, 17, 19]), ([20, 15], [15, 20]), ([21, 15], [15, 21]), ([15, 22], [15, 22])])
def gussetref03_Check.B3 : List Nat := [0, 1, 3, 7, 15, 31, 63, 127, 255, 511, 1023, 2047, 4095, 8191, 16383, 32767, 65535, 131071, 65535, 327679, 1048575, 2097151, 4194303, 8388607]
theorem gussetref03_Check.tab3 : rtab .any (opsOf Tryz.f19 3) = gussetref03_Check.T3 := by kernel_rfl
theorem gussetref03_Check.bits3 : waitsOk gussetref03_Check.T3.2 gussetref03_Check.B3 = true := by kernel_rfl
set_option maxHeartbeats 8000000 in
set_option maxRecDepth 100000 in
theorem gussetref03_Check.calls (k : Nat) (a0_0 : Bool) (a0_1 : ByteArray) (a0_2 : ByteArray) (r : Int) (w : World) (h : gussetref03_Check.f k a0_0 a0_1 a0_2 = some r) :
  Calls Tryz.prog 19 #[.agg #[.bool a0_0, .string a0_1, .string a0_2]] w fun e w' => e = .returned (.int .i64 r) ∧ Below w.heap.size w w' := by
 have hu27 := Tryz.underlying27
 have hu24 := Tryz.underlying24; have hf0 := zf240; have hf1 := zf241; have hf2 := zf270; have hf3 := zf271
 have HB := Aside0.mk (Below.refl w.heap.size w)
 unfold gussetref03_Check.f at h; have H := h; clear h
 have HC2 := Aside0.mk H
 clear H
 go_enter Tryz.func19, Tryz.ntmps19
 go_upto_region 1 with (first | ((with_reducible refine gate_dst (N := 1) rfl ?_); (try (refine gate_guard (by rfl) ?_; dsimp only)); refine zY 1 #[.bool a0_0, .string a0_1, .string a0_2] 27 ?_; intro gb262 hg w3 hbox hb; have BK262 := Aside0.mk (hbox); have GW262 := zG hg HB; have GE262 := zG hg HB; replace HB := zS HB hb; clear hb hbox hg))
 (try simp only [Act.put, List.setIfInBounds_toArray, List.set_cons_zero, List.set_cons_succ])
 go_cut [13] (fun v13 wc => ∃ (kq : Nat) (x13_1 : Bool), v13 = .bool x13_1 ∧ Aside0 (gussetref03_Check.j0 kq x13_1 a0_0 a0_1 a0_2 = some r) ∧ Aside0 (kq ≤ k) ∧ Aside0 (wc.heap[gb262]? = some (.cells #[.bool a0_0, .string a0_1, .string a0_2] 27 (0, 0))) ∧ Aside0 (Below w.heap.size w wc))
 case first =>
  have H := HC2.out
  clear HC2
  by_cases c4 : (a0_1.size : Int) > 8000
  ·rw [if_pos c4] at H
   have c4b0 := decide_eq_true c4
   have c4b1 : decide (8000 < a0_1.size) = true := decide_eq_true (by omega)
   clear c4
   (first | rw [c4b0] | (simp only [i64_w, i32_w]; rw [c4b0]) | skip)
   have H' := Aside0.mk H
   clear H; obtain ⟨hcz5_0, hcz5_1, hcz5_2, hfz5_0, hfz5_1, hfz5_2⟩ := z3 BK262
   go_wp2
   go_meet
   case rel => exact ⟨_, (true), zR, H', zL, zK BK262, ⟨zT HB⟩⟩
  ·rw [if_neg c4] at H
   have c4b0 := decide_eq_false c4
   have c4b1 : decide (8000 < a0_1.size) = false := decide_eq_false (by omega)
   clear c4
   (first | rw [c4b0] | (simp only [i64_w, i32_w]; rw [c4b0]) | skip)
   have H' := Aside0.mk H
   clear H; obtain ⟨hcz6_0, hcz6_1, hcz6_2, hfz6_0, hfz6_1, hfz6_2⟩ := z3 BK262
   go_wp2
   go_meet
   case rel => exact ⟨_, (decide ((a0_2.size : Int) > 8000)), zR, H', zL, zK BK262, ⟨zT HB⟩⟩
 case rest =>
  clear HC2
  try clear c1; try clear p2; try clear c4; try clear c4b0; try clear c4b1; try clear hcz5_0; try clear hcz5_1; try clear hcz5_2; try clear hcz6_0; try clear hcz6_1; try clear hcz6_2; try clear hfz5_0; try clear hfz5_1; try clear hfz5_2; try clear hfz6_0; try clear hfz6_1; try clear hfz6_2
  obtain ⟨kq, x13_1, rfl, HA, HJ1, BK262, HB⟩ := hcut
  cases kq with
  | zero => exact absurd HA.out (by simp [gussetref03_Check.j0])
  | succ kj1 =>
   have H := HA.out
   clear HA
   simp only [gussetref03_Check.j0] at H
   by_cases c7 : x13_1 = true
   ·subst c7
    rw [if_pos rfl] at H
    obtain rfl := Option.some.inj H
    go_wp2
    go_ret
    exact ⟨zH, zT HB⟩
   ·replace c7 := Bool.eq_false_iff.mpr c7
    subst c7
    rw [if_neg zn] at H
    have HC8 := Aside0.mk H
    clear H
    go_upto_region 3 with (fail)
    go_cut [37] (fun v37 wc => ∃ (kq : Nat) (x37_7 : Bool), v37 = .bool x37_7 ∧ Aside0 (gussetref03_Check.j1 kq x37_7 = some r) ∧ Aside0 (kq ≤ kj1) ∧ Aside0 (wc.heap[gb262]? = some (.cells #[.bool a0_0, .string a0_1, .string a0_2] 27 (0, 0))) ∧ Aside0 (Below w.heap.size w wc))
    case first =>
     have H := HC8.out
     clear HC8
     obtain ⟨t263, A9, H⟩ := zo H
     by_cases c10 : t263 = 0
     ·rw [if_pos c10] at H
      have c10b0 := beq_iff_eq.mpr c10
      have c10b1 := bne_eq_false_iff_eq.mpr c10
      clear c10
      (first | rw [c10b0] | (simp only [i64_w, i32_w]; rw [c10b0]) | skip)
      obtain ⟨t264, A11, H⟩ := zo H
      by_cases c12 : t264 = true
      ·subst c12
       rw [if_pos rfl] at H
       by_cases c13 : a0_2.toList = ([] : List UInt8)
       ·rw [if_pos c13] at H
        have c13b0 := beq_iff_eq.mpr c13
        have c13b1 := bne_eq_false_iff_eq.mpr c13
        clear c13
        have H' := Aside0.mk H
        clear H
        try go_wp2
        replace BK262 := zD BK262; replace HB := zF HB
        refine start_ (n := 24) (S := fun w' => w'.cell? ⟨gb262, 0, none⟩ = some (.bool a0_0) ∧ w'.cell? ⟨gb262, 1, none⟩ = some (.string a0_1) ∧ w'.cell? ⟨gb262, 2, none⟩ = some (.string a0_2)) (ds := []) (zb 24 0) (by kernel_rfl) rfl rfl ⟨zc BK262 0, zc BK262 1, zc BK262 2⟩ (fun hHeld => ?_); refine with_tabW gussetref03_Check.tab3 gussetref03_Check.bits3 (fun HT_ HW_ => ?_)
        generalize wc.drew = w14 at BK262 HB hHeld ⊢
        refine zU (i := 0) (N := some 14) (zb 24 1) (any_of HT_.out (by kernel_rfl)) ?_
        refine zV (i := 1) (N := some 15) (zb 24 3) (take_ofW HT_.out HW_.out (by kernel_rfl)) hHeld ?_
        refine one_ (i := 2) (N := some 16) (zb 24 7) rfl rfl (one_of HT_.out (by kernel_rfl)) (by decide) (fun K hK => ?_)
        refine zJ Tryz.func48 (by kernel_rfl) (gussetref02_Check.calls a0_0 a0_1 t263 _ A9.out) fun w15 hb => ?_
        replace BK262 := zB BK262 hb; replace HB := zS HB hb
        (try clear hb)
        refine hK.out _ _ ⟨zc BK262 0, zc BK262 1, zc BK262 2⟩ (fun hHeld => ?_)
        clear hK K
        refine zW (some 16) ?_
        refine zU (i := 3) (N := some 17) (zb 24 15) (any_of HT_.out (by kernel_rfl)) ?_
        refine zU (i := 4) (N := some 18) (zb 24 31) (any_of HT_.out (by kernel_rfl)) ?_
        refine zU (i := 5) (N := some 19) (zb 24 63) (any_of HT_.out (by kernel_rfl)) ?_
        refine zV (i := 6) (N := some 20) (zb 24 127) (take_ofW HT_.out HW_.out (by kernel_rfl)) hHeld ?_
        refine one_ (i := 7) (N := some 21) (zb 24 255) rfl rfl (one_of HT_.out (by kernel_rfl)) (by decide) (fun K hK => ?_)
        refine zJ Tryz.func55 (by kernel_rfl) (gussetref01_IsNat.calls a0_2 true _ A11.out) fun w16 hb => ?_
        replace BK262 := zB BK262 hb; replace HB := zS HB hb
        (try clear hb)
        refine hK.out _ _ ⟨zc BK262 0, zc BK262 1, zc BK262 2⟩ (fun hHeld => ?_)
        clear hK K
        refine zW (some 21) ?_
        refine zU (i := 8) (N := some 22) (zb 24 511) (any_of HT_.out (by kernel_rfl)) ?_
        refine zU (i := 9) (N := some 23) (zb 24 1023) (any_of HT_.out (by kernel_rfl)) ?_
        refine zU (i := 10) (N := some 24) (zb 24 2047) (any_of HT_.out (by kernel_rfl)) ?_
        refine zU (i := 11) (N := some 25) (zb 24 4095) (any_of HT_.out (by kernel_rfl)) ?_
        refine zV (i := 12) (N := some 26) (zb 24 8191) (take_ofW HT_.out HW_.out (by kernel_rfl)) hHeld ?_
        refine zU (i := 13) (N := some 27) (zb 24 16383) (any_of HT_.out (by kernel_rfl)) ?_
        refine zU (i := 14) (N := some 28) (zb 24 32767) (any_of HT_.out (by kernel_rfl)) ?_
        refine zU (i := 15) (N := some 29) (zb 24 65535) (any_of HT_.out (by kernel_rfl)) ?_
        refine pure_ (i := 16) (N := some 30) (v := undef) (a' := ?_) (zb 24 131071) rfl rfl (any_of HT_.out (by kernel_rfl)) (fun _ _ _ h => h) (Or.inr ⟨by rfl, rfl⟩) ?_ ?_
        rotate_left
        ·simp only [Act.put, List.setIfInBounds_toArray, List.set_cons_zero, List.set_cons_succ, i64_w, i32_w]
         rfl
        refine pure_ (i := 17) (N := some 31) (v := undef) (a' := ?_) (zb 24 262143) rfl rfl (any_of HT_.out (by kernel_rfl)) (fun _ _ _ h => h) (Or.inr ⟨by rfl, rfl⟩) ?_ ?_
        rotate_left
        ·simp only [Act.put, List.setIfInBounds_toArray, List.set_cons_zero, List.set_cons_succ, i64_w, i32_w]
         rfl
        refine pure_ (i := 18) (N := some 32) (v := undef) (a' := ?_) (zb 24 524287) rfl rfl (any_of HT_.out (by kernel_rfl)) (fun _ _ _ h => h) (Or.inr ⟨by rfl, rfl⟩) ?_ ?_
        rotate_left
        ·simp only [Act.put, List.setIfInBounds_toArray, List.set_cons_zero, List.set_cons_succ, i64_w, i32_w]
         rfl
        refine pure_ (i := 19) (N := some 33) (v := undef) (a' := ?_) (zb 24 1048575) rfl rfl (any_of HT_.out (by kernel_rfl)) (fun _ _ _ h => h) (Or.inr ⟨by rfl, rfl⟩) ?_ ?_
        rotate_left
        ·simp only [Act.put, List.setIfInBounds_toArray, List.set_cons_zero, List.set_cons_succ, i64_w, i32_w]
         rfl
        refine pure_ (i := 20) (N := some 34) (v := undef) (a' := ?_) (zb 24 2097151) rfl rfl (any_of HT_.out (by kernel_rfl)) (fun _ _ _ h => h) (Or.inr ⟨by rfl, rfl⟩) ?_ ?_
        rotate_left
        ·simp only [Act.put, List.setIfInBounds_toArray, List.set_cons_zero, List.set_cons_succ, i64_w, i32_w]
         rfl
        refine pure_ (i := 21) (N := some 35) (v := undef) (a' := ?_) (zb 24 4194303) rfl rfl (any_of HT_.out (by kernel_rfl)) (fun _ _ _ h => h) (Or.inr ⟨by rfl, rfl⟩) ?_ ?_
        rotate_left
        ·simp only [Act.put, List.setIfInBounds_toArray, List.set_cons_zero, List.set_cons_succ, i64_w, i32_w]
         rfl
        refine pure_ (i := 22) (N := some 36) (v := undef) (a' := ?_) (zb 24 8388607) rfl rfl (any_of HT_.out (by kernel_rfl)) (fun _ _ _ h => h) (Or.inr ⟨by rfl, rfl⟩) ?_ ?_
        rotate_left
        ·simp only [Act.put, List.setIfInBounds_toArray, List.set_cons_zero, List.set_cons_succ, i64_w, i32_w]
         rfl
        refine zU (i := 23) (N := some 37) (zb 24 16777215) (any_of HT_.out (by kernel_rfl)) ?_
        refine done_ (done_of HT_.out (by kernel_rfl)) ?_
        try go_wp2
        go_meet
        case rel => exact ⟨_, (true), zR, H', ⟨by have := HJ1.out; first | omega | exact Nat.le_refl _⟩, zK BK262, ⟨zT HB⟩⟩
       ·rw [if_neg c13] at H
        have c13b0 := beq_eq_false_iff_ne.mpr c13
        have c13b1 := bne_iff_ne.mpr c13
        obtain ⟨⟨t265, t266⟩, A17, H⟩ := zo H; try dsimp only at H
        obtain ⟨⟨t267, t268⟩, A18, H⟩ := zo H; try dsimp only at H
        have H' := Aside0.mk H
        clear H
        try go_wp2
        replace BK262 := zD BK262; replace HB := zF HB
        refine start_ (n := 24) (S := fun w' => w'.cell? ⟨gb262, 0, none⟩ = some (.bool a0_0) ∧ w'.cell? ⟨gb262, 1, none⟩ = some (.string a0_1) ∧ w'.cell? ⟨gb262, 2, none⟩ = some (.string a0_2)) (ds := []) (zb 24 0) (by kernel_rfl) rfl rfl ⟨zc BK262 0, zc BK262 1, zc BK262 2⟩ (fun hHeld => ?_); refine with_tabW gussetref03_Check.tab3 gussetref03_Check.bits3 (fun HT_ HW_ => ?_)
        generalize wc.drew = w19 at BK262 HB hHeld ⊢
        refine zU (i := 0) (N := some 14) (zb 24 1) (any_of HT_.out (by kernel_rfl)) ?_
        refine zV (i := 1) (N := some 15) (zb 24 3) (take_ofW HT_.out HW_.out (by kernel_rfl)) hHeld ?_
        refine one_ (i := 2) (N := some 16) (zb 24 7) rfl rfl (one_of HT_.out (by kernel_rfl)) (by decide) (fun K hK => ?_)
        refine zJ Tryz.func48 (by kernel_rfl) (gussetref02_Check.calls a0_0 a0_1 t263 _ A9.out) fun w20 hb => ?_
        replace BK262 := zB BK262 hb; replace HB := zS HB hb
        (try clear hb)
        refine hK.out _ _ ⟨zc BK262 0, zc BK262 1, zc BK262 2⟩ (fun hHeld => ?_)
        clear hK K
        refine zW (some 16) ?_
        refine zU (i := 3) (N := some 17) (zb 24 15) (any_of HT_.out (by kernel_rfl)) ?_
        refine zU (i := 4) (N := some 18) (zb 24 31) (any_of HT_.out (by kernel_rfl)) ?_
        refine zU (i := 5) (N := some 19) (zb 24 63) (any_of HT_.out (by kernel_rfl)) ?_
        refine zV (i := 6) (N := some 20) (zb 24 127) (take_ofW HT_.out HW_.out (by kernel_rfl)) hHeld ?_
        refine one_ (i := 7) (N := some 21) (zb 24 255) rfl rfl (one_of HT_.out (by kernel_rfl)) (by decide) (fun K hK => ?_)
        refine zJ Tryz.func55 (by kernel_rfl) (gussetref01_IsNat.calls a0_2 true _ A11.out) fun w21 hb => ?_
        replace BK262 := zB BK262 hb; replace HB := zS HB hb
        (try clear hb)
        refine hK.out _ _ ⟨zc BK262 0, zc BK262 1, zc BK262 2⟩ (fun hHeld => ?_)
        clear hK K
        refine zW (some 21) ?_
        refine zU (i := 8) (N := some 22) (zb 24 511) (any_of HT_.out (by kernel_rfl)) ?_
        refine zU (i := 9) (N := some 23) (zb 24 1023) (any_of HT_.out (by kernel_rfl)) ?_
        refine zU (i := 10) (N := some 24) (zb 24 2047) (any_of HT_.out (by kernel_rfl)) ?_
        refine zU (i := 11) (N := some 25) (zb 24 4095) (any_of HT_.out (by kernel_rfl)) ?_
        refine zV (i := 12) (N := some 26) (zb 24 8191) (take_ofW HT_.out HW_.out (by kernel_rfl)) hHeld ?_
        refine zU (i := 13) (N := some 27) (zb 24 16383) (any_of HT_.out (by kernel_rfl)) ?_
        refine zU (i := 14) (N := some 28) (zb 24 32767) (any_of HT_.out (by kernel_rfl)) ?_
        refine zU (i := 15) (N := some 29) (zb 24 65535) (any_of HT_.out (by kernel_rfl)) ?_
        refine zU (i := 16) (N := some 30) (zb 24 131071) (any_of HT_.out (by kernel_rfl)) ?_
        refine zV (i := 17) (N := some 31) (zb 24 262143) (take_ofW HT_.out HW_.out (by kernel_rfl)) hHeld ?_
        refine zV (i := 18) (N := some 32) (zb 24 524287) (take_ofW HT_.out HW_.out (by kernel_rfl)) hHeld ?_
        refine one_ (i := 19) (N := some 33) (zb 24 1048575) rfl rfl (one_of HT_.out (by kernel_rfl)) (by decide) (fun K hK => ?_)
        refine zJ Tryz.func56 (by kernel_rfl) (gussetref03_den.calls a0_0 a0_1 a0_2 t265 t266 _ A17.out) fun w22 hb => ?_
        replace BK262 := zB BK262 hb; replace HB := zS HB hb
        (try clear hb)
        refine hK.out _ _ ⟨zc BK262 0, zc BK262 1, zc BK262 2⟩ (fun hHeld => ?_)
        clear hK K
        refine zW (some 33) ?_
        refine one_ (i := 20) (N := some 34) (zb 24 2097151) rfl rfl (one_of HT_.out (by kernel_rfl)) (by decide) (fun K hK => ?_)
        refine zJ Tryz.func49 (by kernel_rfl) (gussetref02_Common.calls a0_0 a0_1 t265 t266 t267 t268 _ A18.out) fun w23 hb => ?_
        replace BK262 := zB BK262 hb; replace HB := zS HB hb
        (try clear hb)
        refine hK.out _ _ ⟨zc BK262 0, zc BK262 1, zc BK262 2⟩ (fun hHeld => ?_)
        clear hK K
        refine zW (some 34) ?_
        refine zU (i := 21) (N := some 35) (zb 24 4194303) (any_of HT_.out (by kernel_rfl)) ?_
        refine zU (i := 22) (N := some 36) (zb 24 8388607) (any_of HT_.out (by kernel_rfl)) ?_
        refine zU (i := 23) (N := some 37) (zb 24 16777215) (any_of HT_.out (by kernel_rfl)) ?_
        refine done_ (done_of HT_.out (by kernel_rfl)) ?_
        try go_wp2
        go_meet
        case rel => exact ⟨_, ((t268.toList != ([1] : List UInt8))), zR, H', ⟨by have := HJ1.out; first | omega | exact Nat.le_refl _⟩, zK BK262, ⟨zT HB⟩⟩
      ·replace c12 := Bool.eq_false_iff.mpr c12
       subst c12
       rw [if_neg zn] at H
       have H' := Aside0.mk H
       clear H
       try go_wp2
       replace BK262 := zD BK262; replace HB := zF HB
       refine start_ (n := 24) (S := fun w' => w'.cell? ⟨gb262, 0, none⟩ = some (.bool a0_0) ∧ w'.cell? ⟨gb262, 1, none⟩ = some (.string a0_1) ∧ w'.cell? ⟨gb262, 2, none⟩ = some (.string a0_2)) (ds := []) (zb 24 0) (by kernel_rfl) rfl rfl ⟨zc BK262 0, zc BK262 1, zc BK262 2⟩ (fun hHeld => ?_); refine with_tabW gussetref03_Check.tab3 gussetref03_Check.bits3 (fun HT_ HW_ => ?_)
       generalize wc.drew = w24 at BK262 HB hHeld ⊢
       refine zU (i := 0) (N := some 14) (zb 24 1) (any_of HT_.out (by kernel_rfl)) ?_
       refine zV (i := 1) (N := some 15) (zb 24 3) (take_ofW HT_.out HW_.out (by kernel_rfl)) hHeld ?_
       refine one_ (i := 2) (N := some 16) (zb 24 7) rfl rfl (one_of HT_.out (by kernel_rfl)) (by decide) (fun K hK => ?_)
       refine zJ Tryz.func48 (by kernel_rfl) (gussetref02_Check.calls a0_0 a0_1 t263 _ A9.out) fun w25 hb => ?_
       replace BK262 := zB BK262 hb; replace HB := zS HB hb
       (try clear hb)
       refine hK.out _ _ ⟨zc BK262 0, zc BK262 1, zc BK262 2⟩ (fun hHeld => ?_)
       clear hK K
       refine zW (some 16) ?_
       refine zU (i := 3) (N := some 17) (zb 24 15) (any_of HT_.out (by kernel_rfl)) ?_
       refine zU (i := 4) (N := some 18) (zb 24 31) (any_of HT_.out (by kernel_rfl)) ?_
       refine zU (i := 5) (N := some 19) (zb 24 63) (any_of HT_.out (by kernel_rfl)) ?_
       refine zV (i := 6) (N := some 20) (zb 24 127) (take_ofW HT_.out HW_.out (by kernel_rfl)) hHeld ?_
       refine one_ (i := 7) (N := some 21) (zb 24 255) rfl rfl (one_of HT_.out (by kernel_rfl)) (by decide) (fun K hK => ?_)
       refine zJ Tryz.func55 (by kernel_rfl) (gussetref01_IsNat.calls a0_2 false _ A11.out) fun w26 hb => ?_
       replace BK262 := zB BK262 hb; replace HB := zS HB hb
       (try clear hb)
       refine hK.out _ _ ⟨zc BK262 0, zc BK262 1, zc BK262 2⟩ (fun hHeld => ?_)
       clear hK K
       refine zW (some 21) ?_
       refine zU (i := 8) (N := some 22) (zb 24 511) (any_of HT_.out (by kernel_rfl)) ?_
       refine zU (i := 9) (N := some 23) (zb 24 1023) (any_of HT_.out (by kernel_rfl)) ?_
       refine zU (i := 10) (N := some 24) (zb 24 2047) (any_of HT_.out (by kernel_rfl)) ?_
       refine pure_ (i := 11) (N := some 25) (v := undef) (a' := ?_) (zb 24 4095) rfl rfl (any_of HT_.out (by kernel_rfl)) (fun _ _ _ h => h) (Or.inr ⟨by rfl, rfl⟩) ?_ ?_
       rotate_left
       ·simp only [Act.put, List.setIfInBounds_toArray, List.set_cons_zero, List.set_cons_succ, i64_w, i32_w]
        rfl
       refine pure_ (i := 12) (N := some 26) (v := undef) (a' := ?_) (zb 24 8191) rfl rfl (any_of HT_.out (by kernel_rfl)) (fun _ _ _ h => h) (Or.inr ⟨by rfl, rfl⟩) ?_ ?_
       rotate_left
       ·simp only [Act.put, List.setIfInBounds_toArray, List.set_cons_zero, List.set_cons_succ, i64_w, i32_w]
        rfl
       refine pure_ (i := 13) (N := some 27) (v := undef) (a' := ?_) (zb 24 16383) rfl rfl (any_of HT_.out (by kernel_rfl)) (fun _ _ _ h => h) (Or.inr ⟨by rfl, rfl⟩) ?_ ?_
       rotate_left
       ·simp only [Act.put, List.setIfInBounds_toArray, List.set_cons_zero, List.set_cons_succ, i64_w, i32_w]
        rfl
       refine zU (i := 14) (N := some 28) (zb 24 32767) (any_of HT_.out (by kernel_rfl)) ?_
       refine zU (i := 15) (N := some 29) (zb 24 65535) (any_of HT_.out (by kernel_rfl)) ?_
       refine pure_ (i := 16) (N := some 30) (v := undef) (a' := ?_) (zb 24 131071) rfl rfl (any_of HT_.out (by kernel_rfl)) (fun _ _ _ h => h) (Or.inr ⟨by rfl, rfl⟩) ?_ ?_
       rotate_left
       ·simp only [Act.put, List.setIfInBounds_toArray, List.set_cons_zero, List.set_cons_succ, i64_w, i32_w]
        rfl
       refine pure_ (i := 17) (N := some 31) (v := undef) (a' := ?_) (zb 24 262143) rfl rfl (any_of HT_.out (by kernel_rfl)) (fun _ _ _ h => h) (Or.inr ⟨by rfl, rfl⟩) ?_ ?_
       rotate_left
       ·simp only [Act.put, List.setIfInBounds_toArray, List.set_cons_zero, List.set_cons_succ, i64_w, i32_w]
        rfl
       refine pure_ (i := 18) (N := some 32) (v := undef) (a' := ?_) (zb 24 524287) rfl rfl (any_of HT_.out (by kernel_rfl)) (fun _ _ _ h => h) (Or.inr ⟨by rfl, rfl⟩) ?_ ?_
       rotate_left
       ·simp only [Act.put, List.setIfInBounds_toArray, List.set_cons_zero, List.set_cons_succ, i64_w, i32_w]
        rfl
       refine pure_ (i := 19) (N := some 33) (v := undef) (a' := ?_) (zb 24 1048575) rfl rfl (any_of HT_.out (by kernel_rfl)) (fun _ _ _ h => h) (Or.inr ⟨by rfl, rfl⟩) ?_ ?_
       rotate_left
       ·simp only [Act.put, List.setIfInBounds_toArray, List.set_cons_zero, List.set_cons_succ, i64_w, i32_w]
        rfl
       refine pure_ (i := 20) (N := some 34) (v := undef) (a' := ?_) (zb 24 2097151) rfl rfl (any_of HT_.out (by kernel_rfl)) (fun _ _ _ h => h) (Or.inr ⟨by rfl, rfl⟩) ?_ ?_
       rotate_left
       ·simp only [Act.put, List.setIfInBounds_toArray, List.set_cons_zero, List.set_cons_succ, i64_w, i32_w]
        rfl
       refine pure_ (i := 21) (N := some 35) (v := undef) (a' := ?_) (zb 24 4194303) rfl rfl (any_of HT_.out (by kernel_rfl)) (fun _ _ _ h => h) (Or.inr ⟨by rfl, rfl⟩) ?_ ?_
       rotate_left
       ·simp only [Act.put, List.setIfInBounds_toArray, List.set_cons_zero, List.set_cons_succ, i64_w, i32_w]
        rfl
       refine pure_ (i := 22) (N := some 36) (v := undef) (a' := ?_) (zb 24 8388607) rfl rfl (any_of HT_.out (by kernel_rfl)) (fun _ _ _ h => h) (Or.inr ⟨by rfl, rfl⟩) ?_ ?_
       rotate_left
       ·simp only [Act.put, List.setIfInBounds_toArray, List.set_cons_zero, List.set_cons_succ, i64_w, i32_w]
        rfl
       refine zU (i := 23) (N := some 37) (zb 24 16777215) (any_of HT_.out (by kernel_rfl)) ?_
       refine done_ (done_of HT_.out (by kernel_rfl)) ?_
       try go_wp2
       go_meet
       case rel => exact ⟨_, (true), zR, H', ⟨by have := HJ1.out; first | omega | exact Nat.le_refl _⟩, zK BK262, ⟨zT HB⟩⟩
     ·rw [if_neg c10] at H
      have c10b0 := beq_eq_false_iff_ne.mpr c10
      have c10b1 := bne_iff_ne.mpr c10
      (first | rw [c10b0] | (simp only [i64_w, i32_w]; rw [c10b0]) | skip)
      have H' := Aside0.mk H
      clear H
      try go_wp2
      replace BK262 := zD BK262; replace HB := zF HB
      refine start_ (n := 24) (S := fun w' => w'.cell? ⟨gb262, 0, none⟩ = some (.bool a0_0) ∧ w'.cell? ⟨gb262, 1, none⟩ = some (.string a0_1) ∧ w'.cell? ⟨gb262, 2, none⟩ = some (.string a0_2)) (ds := []) (zb 24 0) (by kernel_rfl) rfl rfl ⟨zc BK262 0, zc BK262 1, zc BK262 2⟩ (fun hHeld => ?_); refine with_tabW gussetref03_Check.tab3 gussetref03_Check.bits3 (fun HT_ HW_ => ?_)
      generalize wc.drew = w27 at BK262 HB hHeld ⊢
      refine zU (i := 0) (N := some 14) (zb 24 1) (any_of HT_.out (by kernel_rfl)) ?_
      refine zV (i := 1) (N := some 15) (zb 24 3) (take_ofW HT_.out HW_.out (by kernel_rfl)) hHeld ?_
      refine one_ (i := 2) (N := some 16) (zb 24 7) rfl rfl (one_of HT_.out (by kernel_rfl)) (by decide) (fun K hK => ?_)
      refine zJ Tryz.func48 (by kernel_rfl) (gussetref02_Check.calls a0_0 a0_1 t263 _ A9.out) fun w28 hb => ?_
      replace BK262 := zB BK262 hb; replace HB := zS HB hb
      (try clear hb)
      refine hK.out _ _ ⟨zc BK262 0, zc BK262 1, zc BK262 2⟩ (fun hHeld => ?_)
      clear hK K
      refine zW (some 16) ?_
      refine zU (i := 3) (N := some 17) (zb 24 15) (any_of HT_.out (by kernel_rfl)) ?_
      refine zU (i := 4) (N := some 18) (zb 24 31) (any_of HT_.out (by kernel_rfl)) ?_
      refine pure_ (i := 5) (N := some 19) (v := undef) (a' := ?_) (zb 24 63) rfl rfl (any_of HT_.out (by kernel_rfl)) (fun _ _ _ h => h) (Or.inr ⟨by rfl, rfl⟩) ?_ ?_
      rotate_left
      ·simp only [Act.put, List.setIfInBounds_toArray, List.set_cons_zero, List.set_cons_succ, i64_w, i32_w]
       rfl
      refine pure_ (i := 6) (N := some 20) (v := undef) (a' := ?_) (zb 24 127) rfl rfl (any_of HT_.out (by kernel_rfl)) (fun _ _ _ h => h) (Or.inr ⟨by rfl, rfl⟩) ?_ ?_
      rotate_left
      ·simp only [Act.put, List.setIfInBounds_toArray, List.set_cons_zero, List.set_cons_succ, i64_w, i32_w]
       rfl
      refine pure_ (i := 7) (N := some 21) (v := undef) (a' := ?_) (zb 24 255) rfl rfl (any_of HT_.out (by kernel_rfl)) (fun _ _ _ h => h) (Or.inr ⟨by rfl, rfl⟩) ?_ ?_
      rotate_left
      ·simp only [Act.put, List.setIfInBounds_toArray, List.set_cons_zero, List.set_cons_succ, i64_w, i32_w]
       rfl
      refine pure_ (i := 8) (N := some 22) (v := undef) (a' := ?_) (zb 24 511) rfl rfl (any_of HT_.out (by kernel_rfl)) (fun _ _ _ h => h) (Or.inr ⟨by rfl, rfl⟩) ?_ ?_
      rotate_left
      ·simp only [Act.put, List.setIfInBounds_toArray, List.set_cons_zero, List.set_cons_succ, i64_w, i32_w]
       rfl
      refine zU (i := 9) (N := some 23) (zb 24 1023) (any_of HT_.out (by kernel_rfl)) ?_
      refine zU (i := 10) (N := some 24) (zb 24 2047) (any_of HT_.out (by kernel_rfl)) ?_
      refine pure_ (i := 11) (N := some 25) (v := undef) (a' := ?_) (zb 24 4095) rfl rfl (any_of HT_.out (by kernel_rfl)) (fun _ _ _ h => h) (Or.inr ⟨by rfl, rfl⟩) ?_ ?_
      rotate_left
      ·simp only [Act.put, List.setIfInBounds_toArray, List.set_cons_zero, List.set_cons_succ, i64_w, i32_w]
       rfl
      refine pure_ (i := 12) (N := some 26) (v := undef) (a' := ?_) (zb 24 8191) rfl rfl (any_of HT_.out (by kernel_rfl)) (fun _ _ _ h => h) (Or.inr ⟨by rfl, rfl⟩) ?_ ?_
      rotate_left
      ·simp only [Act.put, List.setIfInBounds_toArray, List.set_cons_zero, List.set_cons_succ, i64_w, i32_w]
       rfl
      refine pure_ (i := 13) (N := some 27) (v := undef) (a' := ?_) (zb 24 16383) rfl rfl (any_of HT_.out (by kernel_rfl)) (fun _ _ _ h => h) (Or.inr ⟨by rfl, rfl⟩) ?_ ?_
      rotate_left
      ·simp only [Act.put, List.setIfInBounds_toArray, List.set_cons_zero, List.set_cons_succ, i64_w, i32_w]
       rfl
      refine zU (i := 14) (N := some 28) (zb 24 32767) (any_of HT_.out (by kernel_rfl)) ?_
      refine zU (i := 15) (N := some 29) (zb 24 65535) (any_of HT_.out (by kernel_rfl)) ?_
      refine pure_ (i := 16) (N := some 30) (v := undef) (a' := ?_) (zb 24 131071) rfl rfl (any_of HT_.out (by kernel_rfl)) (fun _ _ _ h => h) (Or.inr ⟨by rfl, rfl⟩) ?_ ?_
      rotate_left
      ·simp only [Act.put, List.setIfInBounds_toArray, List.set_cons_zero, List.set_cons_succ, i64_w, i32_w]
       rfl
      refine pure_ (i := 17) (N := some 31) (v := undef) (a' := ?_) (zb 24 262143) rfl rfl (any_of HT_.out (by kernel_rfl)) (fun _ _ _ h => h) (Or.inr ⟨by rfl, rfl⟩) ?_ ?_
      rotate_left
      ·simp only [Act.put, List.setIfInBounds_toArray, List.set_cons_zero, List.set_cons_succ, i64_w, i32_w]
       rfl
      refine pure_ (i := 18) (N := some 32) (v := undef) (a' := ?_) (zb 24 524287) rfl rfl (any_of HT_.out (by kernel_rfl)) (fun _ _ _ h => h) (Or.inr ⟨by rfl, rfl⟩) ?_ ?_
      rotate_left
      ·simp only [Act.put, List.setIfInBounds_toArray, List.set_cons_zero, List.set_cons_succ, i64_w, i32_w]
       rfl
      refine pure_ (i := 19) (N := some 33) (v := undef) (a' := ?_) (zb 24 1048575) rfl rfl (any_of HT_.out (by kernel_rfl)) (fun _ _ _ h => h) (Or.inr ⟨by rfl, rfl⟩) ?_ ?_
      rotate_left
      ·simp only [Act.put, List.setIfInBounds_toArray, List.set_cons_zero, List.set_cons_succ, i64_w, i32_w]
       rfl
      refine pure_ (i := 20) (N := some 34) (v := undef) (a' := ?_) (zb 24 2097151) rfl rfl (any_of HT_.out (by kernel_rfl)) (fun _ _ _ h => h) (Or.inr ⟨by rfl, rfl⟩) ?_ ?_
      rotate_left
      ·simp only [Act.put, List.setIfInBounds_toArray, List.set_cons_zero, List.set_cons_succ, i64_w, i32_w]
       rfl
      refine pure_ (i := 21) (N := some 35) (v := undef) (a' := ?_) (zb 24 4194303) rfl rfl (any_of HT_.out (by kernel_rfl)) (fun _ _ _ h => h) (Or.inr ⟨by rfl, rfl⟩) ?_ ?_
      rotate_left
      ·simp only [Act.put, List.setIfInBounds_toArray, List.set_cons_zero, List.set_cons_succ, i64_w, i32_w]
       rfl
      refine pure_ (i := 22) (N := some 36) (v := undef) (a' := ?_) (zb 24 8388607) rfl rfl (any_of HT_.out (by kernel_rfl)) (fun _ _ _ h => h) (Or.inr ⟨by rfl, rfl⟩) ?_ ?_
      rotate_left
      ·simp only [Act.put, List.setIfInBounds_toArray, List.set_cons_zero, List.set_cons_succ, i64_w, i32_w]
       rfl
      refine zU (i := 23) (N := some 37) (zb 24 16777215) (any_of HT_.out (by kernel_rfl)) ?_
      refine done_ (done_of HT_.out (by kernel_rfl)) ?_
      try go_wp2
      go_meet
      case rel => exact ⟨_, (true), zR, H', ⟨by have := HJ1.out; first | omega | exact Nat.le_refl _⟩, zK BK262, ⟨zT HB⟩⟩
    case rest =>
     clear HC8
     try clear c1; try clear p2; try clear c4; try clear c5; try clear c10; try clear c10b0; try clear c10b1; try clear c12
     obtain ⟨kq, x37_7, rfl, HA, HJ7, BK262, HB⟩ := hcut
     cases kq with
     | zero => exact absurd HA.out (by simp [gussetref03_Check.j1])
     | succ kj7 =>
      have H := HA.out
      clear HA
      simp only [gussetref03_Check.j1] at H
      by_cases c29 : x37_7 = true
      ·subst c29
       rw [if_pos rfl] at H
       obtain rfl := Option.some.inj H
       go_wp2
       go_ret
       exact ⟨zH, zT HB⟩
      ·replace c29 := Bool.eq_false_iff.mpr c29
       subst c29
       rw [if_neg zn] at H
       obtain rfl := Option.some.inj H
       go_wp2
       go_ret
       exact ⟨zH, zT HB⟩


/-! ### gussetref03_Both: function 39 -/
def gussetref03_Both.f (k : Nat) (a0_0 : Bool) (a0_1 : ByteArray) (a0_2 : ByteArray) (a1_0 : Bool) (a1_1 : ByteArray) (a1_2 : ByteArray) : Option (Int) := (gussetref03_Check.f k a0_0 a0_1 a0_2).bind fun t390 => (if t390 = 0 then ((gussetref03_Check.f k a1_0 a1_1 a1_2).bind fun t391 => (some t391)) else (some t390))
set_option maxHeartbeats 8000000 in
set_option maxRecDepth 100000 in
theorem gussetref03_Both.calls (k : Nat) (a0_0 : Bool) (a0_1 : ByteArray) (a0_2 : ByteArray) (a1_0 : Bool) (a1_1 : ByteArray) (a1_2 : ByteArray) (r : Int) (w : World) (h : gussetref03_Both.f k a0_0 a0_1 a0_2 a1_0 a1_1 a1_2 = some r) :
  Calls Tryz.prog 39 #[.agg #[.bool a0_0, .string a0_1, .string a0_2], .agg #[.bool a1_0, .string a1_1, .string a1_2]] w fun e w' => e = .returned (.int .i64 r) ∧ Below w.heap.size w w' := by
 have hu27 := Tryz.underlying27
 have HB := Aside0.mk (Below.refl w.heap.size w)
 unfold gussetref03_Both.f at h; have H := h; clear h
 obtain ⟨t390, A3, H⟩ := zo H
 by_cases c4 : t390 = 0
 ·rw [if_pos c4] at H
  have c4b0 := beq_iff_eq.mpr c4
  have c4b1 := bne_eq_false_iff_eq.mpr c4
  clear c4
  obtain ⟨t391, A5, H⟩ := zo H
  obtain rfl := Option.some.inj H
  go_enter Tryz.func39, Tryz.ntmps39
  go_wp2_with (first | ((with_reducible refine gate_dst (N := 2) rfl ?_); refine zY 2 #[.bool a0_0, .string a0_1, .string a0_2] 27 ?_; intro gb388 hg w6 hbox hb; have BK388 := Aside0.mk (hbox); have GW388 := zG hg HB; have GE388 := zG hg HB; replace HB := zS HB hb; clear hb hbox hg) | ((with_reducible refine gate_dst (N := 3) rfl ?_); refine zY 3 #[.bool a1_0, .string a1_1, .string a1_2] 27 ?_; intro gb389 hg w7 hbox hb; have BK389 := Aside0.mk (hbox); have GW389 := zG hg HB; have GE389 := zG hg HB; obtain ⟨NB388_389, NB389_388⟩ := zQ hg BK388; replace BK388 := zB BK388 hb; replace HB := zS HB hb; clear hb hbox hg; have hnb8 := NB388_389.out; have hnc8 := NB389_388.out; obtain ⟨hcz9_0, hcz9_1, hcz9_2, hfz9_0, hfz9_1, hfz9_2⟩ := z3 BK388) | ((with_reducible refine gate_callee (f := 19) rfl ?_); refine zO Tryz.func19 (by kernel_rfl) (gussetref03_Check.calls k a0_0 a0_1 a0_2 t390 _ A3.out) fun w10 hb => ?_; obtain ⟨BK388, BK389⟩ := zB2 BK388 BK389 hb; replace HB := zS HB hb; (try clear hb); obtain ⟨hcz11_0, hcz11_1, hcz11_2, hfz11_0, hfz11_1, hfz11_2⟩ := z3 BK389) | ((with_reducible refine gate_callee (f := 19) rfl ?_); refine zO Tryz.func19 (by kernel_rfl) (gussetref03_Check.calls k a1_0 a1_1 a1_2 t391 _ A5.out) fun w12 hb => ?_; obtain ⟨BK388, BK389⟩ := zB2 BK388 BK389 hb; replace HB := zS HB hb; (try clear hb)))
  go_ret
  exact ⟨zH, zT HB⟩
 ·rw [if_neg c4] at H
  have c4b0 := beq_eq_false_iff_ne.mpr c4
  have c4b1 := bne_iff_ne.mpr c4
  obtain rfl := Option.some.inj H
  go_enter Tryz.func39, Tryz.ntmps39
  go_wp2_with (first | ((with_reducible refine gate_dst (N := 2) rfl ?_); refine zY 2 #[.bool a0_0, .string a0_1, .string a0_2] 27 ?_; intro gb388 hg w13 hbox hb; have BK388 := Aside0.mk (hbox); have GW388 := zG hg HB; have GE388 := zG hg HB; replace HB := zS HB hb; clear hb hbox hg) | ((with_reducible refine gate_dst (N := 3) rfl ?_); refine zY 3 #[.bool a1_0, .string a1_1, .string a1_2] 27 ?_; intro gb389 hg w14 hbox hb; have BK389 := Aside0.mk (hbox); have GW389 := zG hg HB; have GE389 := zG hg HB; obtain ⟨NB388_389, NB389_388⟩ := zQ hg BK388; replace BK388 := zB BK388 hb; replace HB := zS HB hb; clear hb hbox hg; have hnb15 := NB388_389.out; have hnc15 := NB389_388.out; obtain ⟨hcz16_0, hcz16_1, hcz16_2, hfz16_0, hfz16_1, hfz16_2⟩ := z3 BK388) | ((with_reducible refine gate_callee (f := 19) rfl ?_); refine zO Tryz.func19 (by kernel_rfl) (gussetref03_Check.calls k a0_0 a0_1 a0_2 t390 _ A3.out) fun w17 hb => ?_; obtain ⟨BK388, BK389⟩ := zB2 BK388 BK389 hb; replace HB := zS HB hb; (try clear hb)))
  go_ret
  exact ⟨zH, zT HB⟩

end Go.Proofs.YtoijlbcbbblbfaaGreatDoorH.R
