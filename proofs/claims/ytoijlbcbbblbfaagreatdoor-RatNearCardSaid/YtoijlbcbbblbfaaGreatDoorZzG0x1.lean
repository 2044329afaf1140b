import Derived.Test.YtoijlbcbbblbfaaGreatDoorZzG0x0
import Derived.Test.YtoijlbcbbblbfaaGreatDoorZzV1
import Derived.Test.YtoijlbcbbblbfaaGreatDoorY2Shelf
import Derived.Test.YtoijlbcbbblbfaaGreatDoorZzS6
-- printed by hp.py, sq3
namespace Go.Proofs.YtoijlbcbbblbfaaGreatDoorH.R
open Go.RowKit Go.Proofs.YtoijlbcbbblbfaaGreatDoorH.Z Go.Proofs.YtoijlbcbbblbfaaGreatDoorW.PrintWords Go.Proofs.YtoijlbcbbblbfaaGreatDoorW.PrintLast Go.Proofs.YtoijlbcbbblbfaaGreatDoorW.PrintMore
attribute [local go_sem] max2_int min2_int max_two min_two max_three min_three max_four min_four   -- for this text's walks alone
set_option linter.unusedVariables false
set_option linter.unusedSimpArgs false

/-! ### rat_Of: function 17 -/
def rat_Of.f (a0 : Int) : Option (Bool × ByteArray × ByteArray) := (whole_Of.f a0).bind fun bt130 => (some (bt130.1, bt130.2, (⟨#[1]⟩ : ByteArray)))
set_option maxHeartbeats 8000000 in
set_option maxRecDepth 100000 in
theorem rat_Of.calls (a0 : Int) (r1 : Bool) (r2 : ByteArray) (r3 : ByteArray) (w : World) (h : rat_Of.f a0 = some (r1, r2, r3)) :
  Calls Tryz.prog 17 #[.int .i64 a0] w fun e w' => e = .returned (.agg #[.bool r1, .string r2, .string r3]) ∧ Below w.heap.size w w' := by
 have hu27 := Tryz.underlying27
 have HB := Aside0.mk (Below.refl w.heap.size w)
 unfold rat_Of.f at h; have H := h; clear h
 obtain ⟨⟨t130, t131⟩, A2, H⟩ := zo H; try dsimp only at H
 simp only [Option.some.injEq, Prod.mk.injEq] at H
 obtain ⟨rfl, rfl, rfl⟩ := H
 go_enter Tryz.func17, Tryz.ntmps17
 go_wp2_with (first | ((with_reducible refine gate_dst (N := 2) rfl ?_); refine zY 2 #[.bool false, .string (⟨#[]⟩ : ByteArray), .string (⟨#[]⟩ : ByteArray)] 27 ?_; intro gb129 hg w3 hbox hb; have BK129 := Aside0.mk (hbox); have GW129 := zG hg HB; have GE129 := zG hg HB; replace HB := zS HB hb; clear hb hbox hg) | ((with_reducible refine gate_callee (f := 54) rfl ?_); refine zO Tryz.func54 (by kernel_rfl) (whole_Of.calls a0 t130 t131 _ A2.out) fun w4 hb => ?_; replace BK129 := zB BK129 hb; replace HB := zS HB hb; (try clear hb); obtain ⟨hcz5_0, hcz5_1, hcz5_2, hfz5_0, hfz5_1, hfz5_2⟩ := z3 BK129))
 refine bodyPost_ret (results_cell_row rfl _ _ gb129 27 #[.bool t130, .string t131, .string (⟨#[1]⟩ : ByteArray)] (0, 0) _ rfl (by (with_reducible repeat (first | refine blk_drewN ?_ _ | refine blk_drew ?_ | refine blk_alloc ?_ _)); refine zP (cs := #[.bool t130, .string t131, .string (⟨#[]⟩ : ByteArray)]) ?_ 2 _; (with_reducible repeat (first | refine blk_drewN ?_ _ | refine blk_drew ?_ | refine blk_alloc ?_ _)); refine zP (cs := #[.bool t130, .string (⟨#[]⟩ : ByteArray), .string (⟨#[]⟩ : ByteArray)]) ?_ 1 _; (with_reducible repeat (first | refine blk_drewN ?_ _ | refine blk_drew ?_ | refine blk_alloc ?_ _)); refine zP (cs := #[.bool false, .string (⟨#[]⟩ : ByteArray), .string (⟨#[]⟩ : ByteArray)]) ?_ 0 _; (with_reducible repeat (first | refine blk_drewN ?_ _ | refine blk_drew ?_ | refine blk_alloc ?_ _)); exact BK129.out) Tryz.underlying27 rfl (by kernel_rfl)) rfl ?_
 exact ⟨zH, zT HB⟩


theorem eqA24 (d : Nat) (w : World) (x0 y0 : Bool) (x1 y1 : ByteArray) :
  (Op.equalIn (d + 2) 24 (.agg #[.bool x0, .string x1]) (.agg #[.bool y0, .string y1])).run Tryz.prog w = .ok (x0 == y0 && (x1.toList == y1.toList)) w := by
 refine eqA_of Tryz.underlying24 (by kernel_rfl) ?_
 refine eqf_cons (by rfl) (by go_simp; rfl) (by go_simp; rfl) (by go_simp) ?_
 exact eqf_last (by rfl) (by go_simp; rfl) (by go_simp; rfl) (by go_simp)
theorem eqA27 (d : Nat) (w : World) (x0 y0 : Bool) (x1 y1 : ByteArray) (x2 y2 : ByteArray) :
  (Op.equalIn (d + 3) 27 (.agg #[.bool x0, .string x1, .string x2]) (.agg #[.bool y0, .string y1, .string y2])).run Tryz.prog w = .ok ((x0 == y0 && (x1.toList == y1.toList)) && (x2.toList == y2.toList)) w := by
 refine eqA_of Tryz.underlying27 (by kernel_rfl) ?_
 refine eqf_cons (by rfl) (by go_simp) (by go_simp) (eqA24 (d + 0) w _ _ _ _) ?_
 exact eqf_last (by rfl) (by go_simp; rfl) (by go_simp; rfl) (by go_simp)

/-! ### whole_Add: function 74 -/
open Go.Proofs.YtoijlbcbbblbfaaGreatDoor Go.Proofs.YtoijlbcbbblbfaaGreatDoor.Num in
def whole_Add.f (a0_0 : Bool) (a0_1 : ByteArray) (a1_0 : Bool) (a1_1 : ByteArray) : Option (Bool × ByteArray × Int) := if a0_1.size ≤ 15000 ∧ a1_1.size ≤ 15000 then some ((binF (· + ·) (a0_0, a0_1) (a1_0, a1_1)).1.1, (binF (· + ·) (a0_0, a0_1) (a1_0, a1_1)).1.2, (binF (· + ·) (a0_0, a0_1) (a1_0, a1_1)).2) else none
open Go.Proofs.YtoijlbcbbblbfaaGreatDoor Go.Proofs.YtoijlbcbbblbfaaGreatDoor.Num in
theorem whole_Add.calls (a0_0 : Bool) (a0_1 : ByteArray) (a1_0 : Bool) (a1_1 : ByteArray) (r1 : Bool) (r2 : ByteArray) (r3 : Int) (w : World) (h : whole_Add.f a0_0 a0_1 a1_0 a1_1 = some (r1, r2, r3)) :
  Calls Tryz.prog 74 #[.agg #[.bool a0_0, .string a0_1], .agg #[.bool a1_0, .string a1_1]] w fun e w' => e = .returned (.tuple #[.agg #[.bool r1, .string r2], .int .i64 r3]) ∧ Below w.heap.size w w' := by
 unfold whole_Add.f at h
 split at h
 ·rename_i hc
  simp only [Option.some.injEq, Prod.mk.injEq] at h
  obtain ⟨rfl, rfl, rfl⟩ := h
  exact (add_f (a0_0, a0_1) (a1_0, a1_1) hc.1 hc.2).out w
 ·exact absurd h (by simp)



/-! ### rat_do_of_whole_Add: function 9000002 -/
open Go.Proofs.YtoijlbcbbblbfaaGreatDoor Go.Proofs.YtoijlbcbbblbfaaGreatDoor.Num in
def rat_do_of_whole_Add.f (a0_0 : Bool) (a0_1 : ByteArray) (a1_0 : Bool) (a1_1 : ByteArray) : Option (Bool × ByteArray) := (whole_Add.f a0_0 a0_1 a1_0 a1_1).map fun r => (r.1, r.2.1)
open Go.Proofs.YtoijlbcbbblbfaaGreatDoor Go.Proofs.YtoijlbcbbblbfaaGreatDoor.Num in
theorem rat_do_of_whole_Add.calls (a0_0 : Bool) (a0_1 : ByteArray) (a1_0 : Bool) (a1_1 : ByteArray) (r1 : Bool) (r2 : ByteArray) (w : World) (h : rat_do_of_whole_Add.f a0_0 a0_1 a1_0 a1_1 = some (r1, r2)) :
  Calls Tryz.prog 57 #[.func (.func 74) #[] #[], .agg #[.bool a0_0, .string a0_1], .agg #[.bool a1_0, .string a1_1]] w fun e w' => e = .returned (.agg #[.bool r1, .string r2]) ∧ Below w.heap.size w w' := by
 unfold rat_do_of_whole_Add.f at h
 obtain ⟨⟨x1, x2, x3⟩, hx, he⟩ := Option.map_eq_some_iff.1 h
 simp only [Prod.mk.injEq] at he
 obtain ⟨rfl, rfl⟩ := he
 exact do_Add _ _ _ _ _ _ _ (Lib.hid fun w => whole_Add.calls _ _ _ _ _ _ _ w hx) w



/-! ### whole_Cmp: function 75 -/
open Go.Proofs.YtoijlbcbbblbfaaGreatDoor Go.Proofs.YtoijlbcbbblbfaaGreatDoor.Num in
def whole_Cmp.f (a0_0 : Bool) (a0_1 : ByteArray) (a1_0 : Bool) (a1_1 : ByteArray) : Option (Int × Int) := some ((cmpF (a0_0, a0_1) (a1_0, a1_1)).1, (cmpF (a0_0, a0_1) (a1_0, a1_1)).2)
open Go.Proofs.YtoijlbcbbblbfaaGreatDoor Go.Proofs.YtoijlbcbbblbfaaGreatDoor.Num in
theorem whole_Cmp.calls (a0_0 : Bool) (a0_1 : ByteArray) (a1_0 : Bool) (a1_1 : ByteArray) (r1 : Int) (r2 : Int) (w : World) (h : whole_Cmp.f a0_0 a0_1 a1_0 a1_1 = some (r1, r2)) :
  Calls Tryz.prog 75 #[.agg #[.bool a0_0, .string a0_1], .agg #[.bool a1_0, .string a1_1]] w fun e w' => e = .returned (.tuple #[.int .i64 r1, .int .i64 r2]) ∧ Below w.heap.size w w' := by
 unfold whole_Cmp.f at h
 simp only [Option.some.injEq, Prod.mk.injEq] at h
 obtain ⟨rfl, rfl⟩ := h
 exact (cmp_f (a0_0, a0_1) (a1_0, a1_1)).out w



/-! ### rat_rounded: function 59 -/
mutual
def rat_rounded.j0 : Nat → Bool → Bool → ByteArray → Bool → ByteArray → Bool → ByteArray → Option (Bool × ByteArray)
 | 0, _, _, _, _, _, _, _ => none
 | k + 1, x8, x147000, x147001, x154000, x154001, x155000, x155001 => (rat_do_of_whole_Add.f x155000 x155001 x155000 x155001).bind fun bt155 => ((whole_Cmp.f bt155.1 bt155.2 x147000 x147001).bind fun bt157 => (if bt157.1 = 0 then (rat_rounded.j1 k bt157.1 (!x8) x154000 x154001) else (rat_rounded.j1 k bt157.1 false x154000 x154001)))
def rat_rounded.j1 : Nat → Int → Bool → Bool → ByteArray → Option (Bool × ByteArray)
 | 0, _, _, _, _ => none
 | k + 1, x9, x40, x154000, x154001 => if x40 = true then (rat_rounded.j2 k x40 x154000 x154001) else (rat_rounded.j2 k (decide (x9 < 0)) x154000 x154001)
def rat_rounded.j2 : Nat → Bool → Bool → ByteArray → Option (Bool × ByteArray)
 | 0, _, _, _ => none
 | k + 1, x40, x154000, x154001 => if x40 = true then (some (x154000, x154001)) else ((whole_Of.f 1).bind fun bt159 => ((rat_do_of_whole_Add.f x154000 x154001 bt159.1 bt159.2).bind fun bt161 => (some (bt161.1, bt161.2))))
end
def rat_rounded.f (k : Nat) (a0_0 : Bool) (a0_1 : ByteArray) (a1_0 : Bool) (a1_1 : ByteArray) : Option (Bool × ByteArray) := (whole_Div.f a0_0 a0_1 a1_0 a1_1).bind fun bt148 => (if bt148.2.1.toList = ([] : List UInt8) then (rat_rounded.j0 k false a1_0 a1_1 bt148.1 bt148.2.1 bt148.2.2.1 bt148.2.2.2.1) else (if 0 ≤ (wrap64 ((bt148.2.1.size : Int) - 1)) then (if (wrap64 ((bt148.2.1.size : Int) - 1)) < (bt148.2.1.size : Int) then (rat_rounded.j0 k ((Go.bits .and .u8 (bt bt148.2.1 (wrap64 ((bt148.2.1.size : Int) - 1))) 1) == 1) a1_0 a1_1 bt148.1 bt148.2.1 bt148.2.2.1 bt148.2.2.2.1) else (none)) else (none)))
def rat_rounded.T3 : Bool × List (List Nat × List Nat) := (true, [([], []), ([], []), ([0, 1], [0, 1]), ([], []), ([2, 3, 2], [2, 3]), ([4], [4]), ([5], [5]), ([5], [5]), ([6, 4, 0, 1, 2, 3, 4, 5, 6], [6]), ([7, 8, 0, 1, 2, 3, 4, 5, 6, 7, 8], [7])])
def rat_rounded.B3 : List Nat := [0, 0, 3, 0, 15, 31, 63, 63, 127, 511]
theorem rat_rounded.tab3 : rtab .any (opsOf Tryz.f59 3) = rat_rounded.T3 := by kernel_rfl
theorem rat_rounded.bits3 : waitsOk rat_rounded.T3.2 rat_rounded.B3 = true := by kernel_rfl
set_option maxHeartbeats 8000000 in
set_option maxRecDepth 100000 in
theorem rat_rounded.calls (k : Nat) (a0_0 : Bool) (a0_1 : ByteArray) (a1_0 : Bool) (a1_1 : ByteArray) (r1 : Bool) (r2 : ByteArray) (w : World) (h : rat_rounded.f k a0_0 a0_1 a1_0 a1_1 = some (r1, r2)) :
  Calls Tryz.prog 59 #[.agg #[.bool a0_0, .string a0_1], .agg #[.bool a1_0, .string a1_1]] w fun e w' => e = .returned (.agg #[.bool r1, .string r2]) ∧ Below w.heap.size w w' := by
 have hu24 := Tryz.underlying24; have hf0 := zf240; have hf1 := zf241; have hf2 := zf270; have hf3 := zf271
 have HB := Aside0.mk (Below.refl w.heap.size w)
 unfold rat_rounded.f at h; have H := h; clear h
 obtain ⟨⟨t148, t149, t150, t151, t152⟩, A3, H⟩ := zo H; try dsimp only at H
 have HC4 := Aside0.mk H
 clear H
 go_enter Tryz.func59, Tryz.ntmps59
 go_upto_region 2 with (first | ((with_reducible refine gate_dst (N := 2) rfl ?_); (try (refine gate_guard (by rfl) ?_; dsimp only)); refine zY 2 #[.bool a0_0, .string a0_1] 24 ?_; intro gb145 hg w5 hbox hb; have BK145 := Aside0.mk (hbox); have GW145 := zG hg HB; have GE145 := zG hg HB; replace HB := zS HB hb; clear hb hbox hg) | ((with_reducible refine gate_dst (N := 3) rfl ?_); (try (refine gate_guard (by rfl) ?_; dsimp only)); refine zY 3 #[.bool a1_0, .string a1_1] 24 ?_; intro gb146 hg w6 hbox hb; have BK146 := Aside0.mk (hbox); have GW146 := zG hg HB; have GE146 := zG hg HB; obtain ⟨NB145_146, NB146_145⟩ := zQ hg BK145; replace BK145 := zB BK145 hb; replace HB := zS HB hb; clear hb hbox hg) | ((with_reducible refine gate_dst (N := 4) rfl ?_); (try (refine gate_guard (by rfl) ?_; dsimp only)); refine zY 4 #[.bool false, .string (⟨#[]⟩ : ByteArray)] 24 ?_; intro gb147 hg w7 hbox hb; have BK147 := Aside0.mk (hbox); have GW147 := zG hg HB; have GE147 := zG hg HB; obtain ⟨NB145_147, NB147_145⟩ := zQ hg BK145; obtain ⟨NB146_147, NB147_146⟩ := zQ hg BK146; obtain ⟨BK145, BK146⟩ := zB2 BK145 BK146 hb; replace HB := zS HB hb; clear hb hbox hg; have hnb8 := NB145_146.out; have hnc8 := NB146_145.out; have hnb9 := NB145_147.out; have hnc9 := NB147_145.out; obtain ⟨hcz10_0, hcz10_1, hfz10_0, hfz10_1⟩ := z2 BK145; have hnb11 := NB146_147.out; have hnc11 := NB147_146.out; obtain ⟨hcz12_0, hcz12_1, hfz12_0, hfz12_1⟩ := z2 BK146) | ((with_reducible refine gate_callee (f := 81) rfl ?_); refine zO Tryz.func81 (by kernel_rfl) (whole_Div.calls a0_0 a0_1 a1_0 a1_1 t148 t149 t150 t151 t152 _ A3.out) fun w13 hb => ?_; obtain ⟨BK145, BK146, BK147⟩ := zB3 BK145 BK146 BK147 hb; replace HB := zS HB hb; (try clear hb)) | ((with_reducible refine gate_dst (N := 5) rfl ?_); (try (refine gate_guard (by rfl) ?_; dsimp only)); refine zY 5 #[.bool false, .string (⟨#[]⟩ : ByteArray)] 24 ?_; intro gb153 hg w14 hbox hb; have BK153 := Aside0.mk (hbox); have GW153 := zG hg HB; have GE153 := zG hg HB; obtain ⟨NB145_153, NB153_145⟩ := zQ hg BK145; obtain ⟨NB146_153, NB153_146⟩ := zQ hg BK146; obtain ⟨NB147_153, NB153_147⟩ := zQ hg BK147; obtain ⟨BK145, BK146, BK147⟩ := zB3 BK145 BK146 BK147 hb; replace HB := zS HB hb; clear hb hbox hg) | ((with_reducible refine gate_dst (N := 6) rfl ?_); (try (refine gate_guard (by rfl) ?_; dsimp only)); refine zY 6 #[.bool false, .string (⟨#[]⟩ : ByteArray)] 24 ?_; intro gb154 hg w15 hbox hb; have BK154 := Aside0.mk (hbox); have GW154 := zG hg HB; have GE154 := zG hg HB; obtain ⟨NB145_154, NB154_145⟩ := zQ hg BK145; obtain ⟨NB146_154, NB154_146⟩ := zQ hg BK146; obtain ⟨NB147_154, NB154_147⟩ := zQ hg BK147; obtain ⟨NB153_154, NB154_153⟩ := zQ hg BK153; obtain ⟨BK145, BK146, BK147, BK153⟩ := zB4 BK145 BK146 BK147 BK153 hb; replace HB := zS HB hb; clear hb hbox hg; have hnb16 := NB153_145.out; have hnc16 := NB145_153.out; have hnb17 := NB153_146.out; have hnc17 := NB146_153.out; have hnb18 := NB153_147.out; have hnc18 := NB147_153.out; have hnb19 := NB153_154.out; have hnc19 := NB154_153.out; obtain ⟨hcz20_0, hcz20_1, hfz20_0, hfz20_1⟩ := z2 BK153; have hnb21 := NB154_145.out; have hnc21 := NB145_154.out; have hnb22 := NB154_146.out; have hnc22 := NB146_154.out; have hnb23 := NB154_147.out; have hnc23 := NB147_154.out; obtain ⟨hcz24_0, hcz24_1, hfz24_0, hfz24_1⟩ := z2 BK154))
 (try simp only [Act.put, List.setIfInBounds_toArray, List.set_cons_zero, List.set_cons_succ])
 go_cut [8] (fun v8 wc => ∃ (kq : Nat) (x8_3 : Bool), v8 = .bool x8_3 ∧ Aside0 (rat_rounded.j0 kq x8_3 a1_0 a1_1 t148 t149 t150 t151 = some (r1, r2)) ∧ Aside0 (kq ≤ k) ∧ Aside0 (wc.heap[gb145]? = some (.cells #[.bool a0_0, .string a0_1] 24 (0, 0))) ∧ Aside0 (wc.heap[gb146]? = some (.cells #[.bool a1_0, .string a1_1] 24 (0, 0))) ∧ Aside0 (wc.heap[gb147]? = some (.cells #[.bool false, .string (⟨#[]⟩ : ByteArray)] 24 (0, 0))) ∧ Aside0 (wc.heap[gb153]? = some (.cells #[.bool t148, .string t149] 24 (0, 0))) ∧ Aside0 (wc.heap[gb154]? = some (.cells #[.bool t150, .string t151] 24 (0, 0))) ∧ Aside0 (Below w.heap.size w wc))
 case first =>
  have H := HC4.out
  clear HC4
  by_cases c25 : t149.toList = ([] : List UInt8)
  ·rw [if_pos c25] at H
   have c25b0 := beq_iff_eq.mpr c25
   have c25b1 := bne_eq_false_iff_eq.mpr c25
   clear c25
   (first | rw [c25b0] | (simp only [i64_w, i32_w]; rw [c25b0]) | skip)
   have H' := Aside0.mk H
   clear H; have hnb26 := NB153_145.out; have hnc26 := NB145_153.out; have hnb27 := NB153_146.out; have hnc27 := NB146_153.out; have hnb28 := NB153_147.out; have hnc28 := NB147_153.out; have hnb29 := NB153_154.out; have hnc29 := NB154_153.out; obtain ⟨hcz30_0, hcz30_1, hfz30_0, hfz30_1⟩ := z2 BK153
   go_wp2
   go_meet
   case rel => exact ⟨_, (false), zR, H', zL, zK BK145, zK BK146, zK BK147, ⟨by (with_reducible repeat (first | refine blk_drewN ?_ _ | refine blk_drew ?_ | refine blk_alloc ?_ _)); refine blk_far ?_ NB153_154.out _; (with_reducible repeat (first | refine blk_drewN ?_ _ | refine blk_drew ?_ | refine blk_alloc ?_ _)); refine blk_far ?_ NB153_154.out _; (with_reducible repeat (first | refine blk_drewN ?_ _ | refine blk_drew ?_ | refine blk_alloc ?_ _)); refine zP (cs := #[.bool t148, .string (⟨#[]⟩ : ByteArray)]) ?_ 1 _; (with_reducible repeat (first | refine blk_drewN ?_ _ | refine blk_drew ?_ | refine blk_alloc ?_ _)); refine zP (cs := #[.bool false, .string (⟨#[]⟩ : ByteArray)]) ?_ 0 _; (with_reducible repeat (first | refine blk_drewN ?_ _ | refine blk_drew ?_ | refine blk_alloc ?_ _)); exact BK153.out⟩, ⟨by (with_reducible repeat (first | refine blk_drewN ?_ _ | refine blk_drew ?_ | refine blk_alloc ?_ _)); refine zP (cs := #[.bool t150, .string (⟨#[]⟩ : ByteArray)]) ?_ 1 _; (with_reducible repeat (first | refine blk_drewN ?_ _ | refine blk_drew ?_ | refine blk_alloc ?_ _)); refine zP (cs := #[.bool false, .string (⟨#[]⟩ : ByteArray)]) ?_ 0 _; (with_reducible repeat (first | refine blk_drewN ?_ _ | refine blk_drew ?_ | refine blk_alloc ?_ _)); refine blk_far ?_ NB154_153.out _; (with_reducible repeat (first | refine blk_drewN ?_ _ | refine blk_drew ?_ | refine blk_alloc ?_ _)); refine blk_far ?_ NB154_153.out _; (with_reducible repeat (first | refine blk_drewN ?_ _ | refine blk_drew ?_ | refine blk_alloc ?_ _)); exact BK154.out⟩, ⟨zT HB⟩⟩
  ·rw [if_neg c25] at H
   have c25b0 := beq_eq_false_iff_ne.mpr c25
   have c25b1 := bne_iff_ne.mpr c25
   (first | rw [c25b0] | (simp only [i64_w, i32_w]; rw [c25b0]) | skip)
   obtain ⟨ji31, hji31⟩ : ∃ j_ : Int, (wrap64 ((t149.size : Int) - 1)) = j_ := ⟨_, rfl⟩
   replace H : (if 0 ≤ (ji31) then (if (ji31) < (t149.size : Int) then (rat_rounded.j0 k ((Go.bits .and .u8 (bt t149 (ji31)) 1) == 1) a1_0 a1_1 t148 t149 t150 t151) else (none)) else (none)) = some (r1, r2) := by first | (rw [hji31] at H; exact H) | (simp only [hji31] at H ⊢; exact H)
   have hji31w : (IntKind.i64.wrap ((t149.size : Int) - 1)) = ji31 := (i64_w _).trans hji31
   by_cases c32 : 0 ≤ (ji31)
   ·rw [if_pos c32] at H
    have c32b0 := decide_eq_true c32
    clear c32
    by_cases c33 : (ji31) < (t149.size : Int)
    ·rw [if_pos c33] at H
     have c33b0 := decide_eq_true c33
     clear c33
     have H' := Aside0.mk H
     clear H; have hnb35 := NB153_145.out; have hnc35 := NB145_153.out; have hnb36 := NB153_146.out; have hnc36 := NB146_153.out; have hnb37 := NB153_147.out; have hnc37 := NB147_153.out; have hnb38 := NB153_154.out; have hnc38 := NB154_153.out; obtain ⟨hcz39_0, hcz39_1, hfz39_0, hfz39_1⟩ := z2 BK153
     have p34 : 0 ≤ ((ji31) : Int) := of_decide_eq_true (by first | (with_reducible assumption) | assumption)
     have q34 : (ji31) < (t149.size : Int) := of_decide_eq_true (by first | (with_reducible assumption) | assumption)
     have hx34 := bt_at t149 (ji31)
     replace p34 := eq_true p34
     replace q34 := eq_true q34
     go_wp2
     go_meet
     case rel => exact ⟨_, (((Go.bits .and .u8 (bt t149 (ji31)) 1) == 1)), (by first | rfl | (simp; done) | (simp only [← hji31] <;> (first | rfl | simp)) | (simp [*]; done)), H', zL, zK BK145, zK BK146, zK BK147, ⟨by (with_reducible repeat (first | refine blk_drewN ?_ _ | refine blk_drew ?_ | refine blk_alloc ?_ _)); refine blk_far ?_ NB153_154.out _; (with_reducible repeat (first | refine blk_drewN ?_ _ | refine blk_drew ?_ | refine blk_alloc ?_ _)); refine blk_far ?_ NB153_154.out _; (with_reducible repeat (first | refine blk_drewN ?_ _ | refine blk_drew ?_ | refine blk_alloc ?_ _)); refine zP (cs := #[.bool t148, .string (⟨#[]⟩ : ByteArray)]) ?_ 1 _; (with_reducible repeat (first | refine blk_drewN ?_ _ | refine blk_drew ?_ | refine blk_alloc ?_ _)); refine zP (cs := #[.bool false, .string (⟨#[]⟩ : ByteArray)]) ?_ 0 _; (with_reducible repeat (first | refine blk_drewN ?_ _ | refine blk_drew ?_ | refine blk_alloc ?_ _)); exact BK153.out⟩, ⟨by (with_reducible repeat (first | refine blk_drewN ?_ _ | refine blk_drew ?_ | refine blk_alloc ?_ _)); refine zP (cs := #[.bool t150, .string (⟨#[]⟩ : ByteArray)]) ?_ 1 _; (with_reducible repeat (first | refine blk_drewN ?_ _ | refine blk_drew ?_ | refine blk_alloc ?_ _)); refine zP (cs := #[.bool false, .string (⟨#[]⟩ : ByteArray)]) ?_ 0 _; (with_reducible repeat (first | refine blk_drewN ?_ _ | refine blk_drew ?_ | refine blk_alloc ?_ _)); refine blk_far ?_ NB154_153.out _; (with_reducible repeat (first | refine blk_drewN ?_ _ | refine blk_drew ?_ | refine blk_alloc ?_ _)); refine blk_far ?_ NB154_153.out _; (with_reducible repeat (first | refine blk_drewN ?_ _ | refine blk_drew ?_ | refine blk_alloc ?_ _)); exact BK154.out⟩, ⟨zT HB⟩⟩
    ·rw [if_neg c33] at H
     exact absurd H (by simp)
   ·rw [if_neg c32] at H
    exact absurd H (by simp)
 case rest =>
  clear HC4
  try clear c1; try clear c2; try clear p2; try clear c3; try clear p3; try clear q3; try clear hx3; try clear c5; try clear p6; try clear c8; try clear c9; try clear c11; try clear c16; try clear c17; try clear c18; try clear c19; try clear c21; try clear c22; try clear c23; try clear c25; try clear c25b0; try clear c25b1; try clear c26; try clear c27; try clear c28; try clear c29; try clear c32; try clear c32b0; try clear c33; try clear c33b0; try clear p34; try clear q34; try clear hx34; try clear c35; try clear c36; try clear c37; try clear c38; try clear hcz10_0; try clear hcz10_1; try clear hcz12_0; try clear hcz12_1; try clear hcz20_0; try clear hcz20_1; try clear hcz24_0; try clear hcz24_1; try clear hcz30_0; try clear hcz30_1; try clear hcz39_0; try clear hcz39_1; try clear hfz10_0; try clear hfz10_1; try clear hfz12_0; try clear hfz12_1; try clear hfz20_0; try clear hfz20_1; try clear hfz24_0; try clear hfz24_1; try clear hfz30_0; try clear hfz30_1; try clear hfz39_0; try clear hfz39_1; try clear p34; try clear q34
  obtain ⟨kq, x8_3, rfl, HA, HJ3, BK145, BK146, BK147, BK153, BK154, HB⟩ := hcut
  cases kq with
  | zero => exact absurd HA.out (by simp [rat_rounded.j0])
  | succ kj3 =>
   have H := HA.out
   clear HA
   simp only [rat_rounded.j0] at H
   obtain ⟨⟨t155, t156⟩, A40, H⟩ := zo H; try dsimp only at H
   obtain ⟨⟨t157, t158⟩, A41, H⟩ := zo H; try dsimp only at H
   have HC42 := Aside0.mk H
   clear H
   try go_wp2
   replace BK145 := zD BK145; replace BK146 := zD BK146; replace BK147 := zD BK147; replace BK153 := zD BK153; replace BK154 := zD BK154; replace HB := zF HB
   refine start_ (n := 10) (S := fun w' => w'.cell? ⟨gb154, 0, none⟩ = some (.bool t150) ∧ w'.cell? ⟨gb154, 1, none⟩ = some (.string t151) ∧ w'.cell? ⟨gb146, 0, none⟩ = some (.bool a1_0) ∧ w'.cell? ⟨gb146, 1, none⟩ = some (.string a1_1)) (ds := []) (zb 10 0) (by kernel_rfl) rfl rfl ⟨zc BK154 0, zc BK154 1, zc BK146 0, zc BK146 1⟩ (fun hHeld => ?_); refine with_tabW rat_rounded.tab3 rat_rounded.bits3 (fun HT_ HW_ => ?_)
   generalize wc.drew = w43 at BK145 BK146 BK147 BK153 BK154 HB hHeld ⊢
   refine zV (i := 0) (N := some 33) (zb 10 1) (take_ofW HT_.out HW_.out (by kernel_rfl)) hHeld ?_
   refine zV (i := 1) (N := some 34) (zb 10 3) (take_ofW HT_.out HW_.out (by kernel_rfl)) hHeld ?_
   refine zV (i := 3) (N := some 36) (zb 10 11) (take_ofW HT_.out HW_.out (by kernel_rfl)) hHeld ?_
   refine one_ (i := 2) (N := some 35) (zb 10 15) rfl rfl (one_of HT_.out (by kernel_rfl)) (by decide) (fun K hK => ?_)
   refine zJ Tryz.func57 (by kernel_rfl) (rat_do_of_whole_Add.calls t150 t151 t150 t151 t155 t156 _ A40.out) fun w44 hb => ?_
   obtain ⟨BK145, BK146, BK147, BK153, BK154⟩ := zB5 BK145 BK146 BK147 BK153 BK154 hb; replace HB := zS HB hb
   (try clear hb)
   refine hK.out _ _ ⟨zc BK154 0, zc BK154 1, zc BK146 0, zc BK146 1⟩ (fun hHeld => ?_)
   clear hK K
   refine zW (some 35) ?_
   refine one_ (i := 4) (N := some 37) (zb 10 31) rfl rfl (one_of HT_.out (by kernel_rfl)) (by decide) (fun K hK => ?_)
   refine zJ Tryz.func75 (by kernel_rfl) (whole_Cmp.calls t155 t156 a1_0 a1_1 t157 t158 _ A41.out) fun w45 hb => ?_
   obtain ⟨BK145, BK146, BK147, BK153, BK154⟩ := zB5 BK145 BK146 BK147 BK153 BK154 hb; replace HB := zS HB hb
   (try clear hb)
   refine hK.out _ _ ⟨zc BK154 0, zc BK154 1, zc BK146 0, zc BK146 1⟩ (fun hHeld => ?_)
   clear hK K
   refine zW (some 37) ?_
   refine zU (i := 5) (N := some 32) (zb 10 63) (any_of HT_.out (by kernel_rfl)) ?_
   refine zU (i := 6) (N := some 38) (zb 10 127) (any_of HT_.out (by kernel_rfl)) ?_
   refine zU (i := 7) (N := some 39) (zb 10 255) (any_of HT_.out (by kernel_rfl)) ?_
   refine zU (i := 8) (N := some 9) (zb 10 511) (any_of HT_.out (by kernel_rfl)) ?_
   refine zU (i := 9) (N := some 10) (zb 10 1023) (any_of HT_.out (by kernel_rfl)) ?_
   refine done_ (done_of HT_.out (by kernel_rfl)) ?_
   go_upto_region 4 with (fail)
   go_cut [40] (fun v40 wc => ∃ (kq : Nat) (x40_41 : Bool), v40 = .bool x40_41 ∧ Aside0 (rat_rounded.j1 kq t157 x40_41 t148 t149 = some (r1, r2)) ∧ Aside0 (kq ≤ kj3) ∧ Aside0 (wc.heap[gb145]? = some (.cells #[.bool a0_0, .string a0_1] 24 (0, 0))) ∧ Aside0 (wc.heap[gb146]? = some (.cells #[.bool a1_0, .string a1_1] 24 (0, 0))) ∧ Aside0 (wc.heap[gb147]? = some (.cells #[.bool false, .string (⟨#[]⟩ : ByteArray)] 24 (0, 0))) ∧ Aside0 (wc.heap[gb153]? = some (.cells #[.bool t148, .string t149] 24 (0, 0))) ∧ Aside0 (wc.heap[gb154]? = some (.cells #[.bool t150, .string t151] 24 (0, 0))) ∧ Aside0 (Below w.heap.size w wc))
   case first =>
    have H := HC42.out
    clear HC42
    by_cases c46 : t157 = 0
    ·rw [if_pos c46] at H
     have c46b0 := beq_iff_eq.mpr c46
     have c46b1 := bne_eq_false_iff_eq.mpr c46
     clear c46
     (first | rw [c46b0] | (simp only [i64_w, i32_w]; rw [c46b0]) | skip)
     have H' := Aside0.mk H
     clear H
     go_wp2
     go_meet
     case rel => exact ⟨_, (!x8_3), zR, H', ⟨by have := HJ3.out; first | omega | exact Nat.le_refl _⟩, zK BK145, zK BK146, zK BK147, zK BK153, zK BK154, ⟨zT HB⟩⟩
    ·rw [if_neg c46] at H
     have c46b0 := beq_eq_false_iff_ne.mpr c46
     have c46b1 := bne_iff_ne.mpr c46
     (first | rw [c46b0] | (simp only [i64_w, i32_w]; rw [c46b0]) | skip)
     have H' := Aside0.mk H
     clear H
     go_wp2
     go_meet
     case rel => exact ⟨_, (false), zR, H', ⟨by have := HJ3.out; first | omega | exact Nat.le_refl _⟩, zK BK145, zK BK146, zK BK147, zK BK153, zK BK154, ⟨zT HB⟩⟩
   case rest =>
    clear HC42
    try clear c1; try clear c2; try clear p2; try clear c3; try clear p3; try clear q3; try clear hx3; try clear c4; try clear c5; try clear p6; try clear c7; try clear c8; try clear c9; try clear c11; try clear c16; try clear c17; try clear c18; try clear c19; try clear c21; try clear c22; try clear c23; try clear c25; try clear c25b0; try clear c25b1; try clear c26; try clear c27; try clear c28; try clear c29; try clear c32; try clear c32b0; try clear c33; try clear c33b0; try clear p34; try clear q34; try clear hx34; try clear c35; try clear c36; try clear c37; try clear c38; try clear c46; try clear c46b0; try clear c46b1; try clear hcz10_0; try clear hcz10_1; try clear hcz12_0; try clear hcz12_1; try clear hcz20_0; try clear hcz20_1; try clear hcz24_0; try clear hcz24_1; try clear hcz30_0; try clear hcz30_1; try clear hcz39_0; try clear hcz39_1; try clear hfz10_0; try clear hfz10_1; try clear hfz12_0; try clear hfz12_1; try clear hfz20_0; try clear hfz20_1; try clear hfz24_0; try clear hfz24_1; try clear hfz30_0; try clear hfz30_1; try clear hfz39_0; try clear hfz39_1; try clear p2; try clear p3; try clear p34; try clear p6; try clear q3; try clear q34
    obtain ⟨kq, x40_41, rfl, HA, HJ41, BK145, BK146, BK147, BK153, BK154, HB⟩ := hcut
    cases kq with
    | zero => exact absurd HA.out (by simp [rat_rounded.j1])
    | succ kj41 =>
     have H := HA.out
     clear HA
     simp only [rat_rounded.j1] at H
     have HC47 := Aside0.mk H
     clear H
     go_upto_if 40 with (fail)
     go_cut [40] (fun v40 wc => ∃ (kq : Nat) (x40_46 : Bool), v40 = .bool x40_46 ∧ Aside0 (rat_rounded.j2 kq x40_46 t148 t149 = some (r1, r2)) ∧ Aside0 (kq ≤ kj41) ∧ Aside0 (wc.heap[gb145]? = some (.cells #[.bool a0_0, .string a0_1] 24 (0, 0))) ∧ Aside0 (wc.heap[gb146]? = some (.cells #[.bool a1_0, .string a1_1] 24 (0, 0))) ∧ Aside0 (wc.heap[gb147]? = some (.cells #[.bool false, .string (⟨#[]⟩ : ByteArray)] 24 (0, 0))) ∧ Aside0 (wc.heap[gb153]? = some (.cells #[.bool t148, .string t149] 24 (0, 0))) ∧ Aside0 (wc.heap[gb154]? = some (.cells #[.bool t150, .string t151] 24 (0, 0))) ∧ Aside0 (Below w.heap.size w wc))
     case first =>
      have H := HC47.out
      clear HC47
      by_cases c48 : x40_41 = true
      ·subst c48
       rw [if_pos rfl] at H
       have H' := Aside0.mk H
       clear H
       go_wp2
       go_meet
       case rel => exact ⟨_, (true), zR, H', ⟨by have := HJ3.out; have := HJ41.out; first | omega | exact Nat.le_refl _⟩, zK BK145, zK BK146, zK BK147, zK BK153, zK BK154, ⟨zT HB⟩⟩
      ·replace c48 := Bool.eq_false_iff.mpr c48
       subst c48
       rw [if_neg zn] at H
       have H' := Aside0.mk H
       clear H
       go_wp2
       go_meet
       case rel => exact ⟨_, (decide (t157 < 0)), zR, H', ⟨by have := HJ3.out; have := HJ41.out; first | omega | exact Nat.le_refl _⟩, zK BK145, zK BK146, zK BK147, zK BK153, zK BK154, ⟨zT HB⟩⟩
     case rest =>
      clear HC47
      try clear c1; try clear c2; try clear p2; try clear c3; try clear p3; try clear q3; try clear hx3; try clear c4; try clear c5; try clear p6; try clear c7; try clear c8; try clear c9; try clear c11; try clear c16; try clear c17; try clear c18; try clear c19; try clear c21; try clear c22; try clear c23; try clear c25; try clear c25b0; try clear c25b1; try clear c26; try clear c27; try clear c28; try clear c29; try clear c32; try clear c32b0; try clear c33; try clear c33b0; try clear p34; try clear q34; try clear hx34; try clear c35; try clear c36; try clear c37; try clear c38; try clear c46; try clear c46b0; try clear c46b1; try clear c48; try clear hcz10_0; try clear hcz10_1; try clear hcz12_0; try clear hcz12_1; try clear hcz20_0; try clear hcz20_1; try clear hcz24_0; try clear hcz24_1; try clear hcz30_0; try clear hcz30_1; try clear hcz39_0; try clear hcz39_1; try clear hfz10_0; try clear hfz10_1; try clear hfz12_0; try clear hfz12_1; try clear hfz20_0; try clear hfz20_1; try clear hfz24_0; try clear hfz24_1; try clear hfz30_0; try clear hfz30_1; try clear hfz39_0; try clear hfz39_1; try clear p2; try clear p3; try clear p34; try clear p6; try clear q3; try clear q34
      obtain ⟨kq, x40_46, rfl, HA, HJ46, BK145, BK146, BK147, BK153, BK154, HB⟩ := hcut
      cases kq with
      | zero => exact absurd HA.out (by simp [rat_rounded.j2])
      | succ kj46 =>
       have H := HA.out
       clear HA
       simp only [rat_rounded.j2] at H
       by_cases c49 : x40_46 = true
       ·subst c49
        rw [if_pos rfl] at H
        simp only [Option.some.injEq, Prod.mk.injEq] at H
        obtain ⟨rfl, rfl⟩ := H
        have hnb50 := NB153_145.out; have hnc50 := NB145_153.out; have hnb51 := NB153_146.out; have hnc51 := NB146_153.out; have hnb52 := NB153_147.out; have hnc52 := NB147_153.out; have hnb53 := NB153_154.out; have hnc53 := NB154_153.out; obtain ⟨hcz54_0, hcz54_1, hfz54_0, hfz54_1⟩ := z2 BK153; have hnb55 := NB147_145.out; have hnc55 := NB145_147.out; have hnb56 := NB147_146.out; have hnc56 := NB146_147.out; have hnb57 := NB147_154.out; have hnc57 := NB154_147.out; obtain ⟨hcz58_0, hcz58_1, hfz58_0, hfz58_1⟩ := z2 BK147
        go_wp2
        refine bodyPost_ret (results_cell_row rfl _ _ gb147 24 #[.bool t148, .string t149] (0, 0) _ rfl (by (with_reducible repeat (first | refine blk_drewN ?_ _ | refine blk_drew ?_ | refine blk_alloc ?_ _)); refine zP (cs := #[.bool t148, .string (⟨#[]⟩ : ByteArray)]) ?_ 1 _; (with_reducible repeat (first | refine blk_drewN ?_ _ | refine blk_drew ?_ | refine blk_alloc ?_ _)); refine zP (cs := #[.bool false, .string (⟨#[]⟩ : ByteArray)]) ?_ 0 _; (with_reducible repeat (first | refine blk_drewN ?_ _ | refine blk_drew ?_ | refine blk_alloc ?_ _)); exact BK147.out) Tryz.underlying24 rfl (by kernel_rfl)) rfl ?_
        exact ⟨zH, zT HB⟩
       ·replace c49 := Bool.eq_false_iff.mpr c49
        subst c49
        rw [if_neg zn] at H
        obtain ⟨⟨t159, t160⟩, A59, H⟩ := zo H; try dsimp only at H
        obtain ⟨⟨t161, t162⟩, A60, H⟩ := zo H; try dsimp only at H
        simp only [Option.some.injEq, Prod.mk.injEq] at H
        obtain ⟨rfl, rfl⟩ := H
        try go_wp2
        replace BK145 := zD BK145; replace BK146 := zD BK146; replace BK147 := zD BK147; replace BK153 := zD BK153; replace BK154 := zD BK154; replace HB := zF HB
        refine start_ (n := 4) (S := fun w' => w'.cell? ⟨gb153, 0, none⟩ = some (.bool t148) ∧ w'.cell? ⟨gb153, 1, none⟩ = some (.string t149)) (ds := []) (zb 4 0) (by kernel_rfl) rfl rfl ⟨zc BK153 0, zc BK153 1⟩ (fun hHeld => ?_)
        generalize wc.drew = w61 at BK145 BK146 BK147 BK153 BK154 HB hHeld ⊢
        refine take_ (i := 0) (N := some 50) (v := ?_) (a' := ?_) (zb 4 1) rfl rfl (by kernel_rfl) (fun _ _ _ h => h) (Or.inl ⟨by rfl, ?_⟩) hHeld ?_ ?_
        rotate_left
        ·rintro w' ⟨s0, s1⟩
         go_simp
         with_reducible rfl
        rotate_left
        ·simp only [Act.put, List.setIfInBounds_toArray, List.set_cons_zero, List.set_cons_succ, i64_w, i32_w]
         rfl
        refine one_ (i := 1) (N := some 51) (zb 4 3) rfl rfl (by kernel_rfl) (by decide) (fun K hK => ?_)
        refine zJ Tryz.func54 (by kernel_rfl) (whole_Of.calls 1 t159 t160 _ A59.out) fun w62 hb => ?_
        obtain ⟨BK145, BK146, BK147, BK153, BK154⟩ := zB5 BK145 BK146 BK147 BK153 BK154 hb; replace HB := zS HB hb
        (try clear hb)
        refine hK.out _ _ ⟨zc BK153 0, zc BK153 1⟩ (fun hHeld => ?_)
        clear hK K
        refine zW (some 51) ?_
        refine one_ (i := 2) (N := some 52) (zb 4 7) rfl rfl (by kernel_rfl) (by decide) (fun K hK => ?_)
        refine zJ Tryz.func57 (by kernel_rfl) (rat_do_of_whole_Add.calls t148 t149 t159 t160 t161 t162 _ A60.out) fun w63 hb => ?_
        obtain ⟨BK145, BK146, BK147, BK153, BK154⟩ := zB5 BK145 BK146 BK147 BK153 BK154 hb; replace HB := zS HB hb
        (try clear hb)
        refine hK.out _ _ ⟨zc BK153 0, zc BK153 1⟩ (fun hHeld => ?_)
        clear hK K
        refine zW (some 52) ?_
        refine one_ (i := 3) (N := none) (zb 4 15) rfl rfl (by kernel_rfl) (by decide) (fun K hK => ?_)
        have hs64 : w63.cell? ⟨gb147, 0, none⟩ = some (.bool false) := zc BK147 0
        have hfs64 := blk_frozen BK147.out 0
        have hns64_0 := NB145_147.out
        have hns64_1 := NB146_147.out
        have hns64_3 := NB153_147.out
        have hns64_4 := NB154_147.out
        have hms64_0 := NB147_145.out
        have hms64_1 := NB147_146.out
        have hms64_3 := NB147_153.out
        have hms64_4 := NB147_154.out
        have hs65 : w63.cell? ⟨gb147, 1, none⟩ = some (.string (⟨#[]⟩ : ByteArray)) := zc BK147 1
        have hfs65 := blk_frozen BK147.out 1
        have hns65_0 := NB145_147.out
        have hns65_1 := NB146_147.out
        have hns65_3 := NB153_147.out
        have hns65_4 := NB154_147.out
        have hms65_0 := NB147_145.out
        have hms65_1 := NB147_146.out
        have hms65_3 := NB147_153.out
        have hms65_4 := NB147_154.out
        refine skip_ (w1 := ?_) (by rfl) rfl ?_ ?_
        rotate_left
        ·go_simp
         rfl
        refine hK.out _ _ ⟨((cell_far (p := ⟨gb147, _, none⟩) NB153_147.out _).trans (((cell_far (p := ⟨gb147, _, none⟩) NB153_147.out _).trans (hHeld.1)))), ((cell_far (p := ⟨gb147, _, none⟩) NB153_147.out _).trans (((cell_far (p := ⟨gb147, _, none⟩) NB153_147.out _).trans (hHeld.2))))⟩ (fun hHeld => ?_)
        clear hK K
        refine done_ (by kernel_rfl) ?_
        try go_wp2
        refine bodyPost_ret (results_cell_row rfl _ _ gb147 24 #[.bool t161, .string t162] (0, 0) _ rfl (by (with_reducible repeat (first | refine blk_drewN ?_ _ | refine blk_drew ?_ | refine blk_alloc ?_ _)); refine zP (cs := #[.bool t161, .string (⟨#[]⟩ : ByteArray)]) ?_ 1 _; (with_reducible repeat (first | refine blk_drewN ?_ _ | refine blk_drew ?_ | refine blk_alloc ?_ _)); refine zP (cs := #[.bool false, .string (⟨#[]⟩ : ByteArray)]) ?_ 0 _; (with_reducible repeat (first | refine blk_drewN ?_ _ | refine blk_drew ?_ | refine blk_alloc ?_ _)); exact BK147.out) Tryz.underlying24 rfl (by kernel_rfl)) rfl ?_
        exact ⟨zH, zT HB⟩


/-! ### strings_Repeat: function 62 -/
open Go.Proofs.YtoijlbcbbblbfaaGreatDoor Go.Proofs.YtoijlbcbbblbfaaGreatDoor.Num in
def strings_Repeat.f (a0 : ByteArray) (a1 : Int) : Option ByteArray := if a0.size ≤ 100000 ∧ 0 ≤ a1 ∧ a1 ≤ 100000 then some ⟨(Lib.repeatL a0.data.toList a1.toNat).toArray⟩ else none
open Go.Proofs.YtoijlbcbbblbfaaGreatDoor Go.Proofs.YtoijlbcbbblbfaaGreatDoor.Num in
theorem strings_Repeat.calls (a0 : ByteArray) (a1 : Int) (r : ByteArray) (w : World) (h : strings_Repeat.f a0 a1 = some r) :
  Calls Tryz.prog 62 #[.string a0, .int .i64 a1] w fun e w' => e = .returned (.string r) ∧ Below w.heap.size w w' := by
 unfold strings_Repeat.f at h
 split at h
 ·rename_i hc
  obtain rfl := Option.some.inj h
  obtain ⟨n, rfl⟩ := Int.eq_ofNat_of_zero_le hc.2.1
  rw [Int.toNat_natCast]
  exact Tryz.strings_Repeat a0 n w (by omega) (by
   have h1 : a0.size * n ≤ 100000 * 100000 := Nat.mul_le_mul hc.1 (by omega)
   omega)
 ·exact absurd h (by simp)



/-! ### rat_Decimal: function 20 -/
mutual
def rat_Decimal.j0 : Nat → Int → Bool → Bool → ByteArray → ByteArray → Option (ByteArray × Int)
 | 0, _, _, _, _, _ => none
 | k + 1, x1, x18, x164000, x164001, x164002 => if x18 = true then (some ((⟨#[]⟩ : ByteArray), 1)) else (rat_Decimal.l0 k x1 x1 0 x164000 x164001 x164002 false x164001)
def rat_Decimal.l0 : Nat → Int → Int → Int → Bool → ByteArray → ByteArray → Bool → ByteArray → Option (ByteArray × Int)
 | 0, _, _, _, _, _, _, _, _ => none
 | k + 1, x1, x29, x30, x164000, x164001, x164002, x166000, x166001 => if x30 < x29 then ((whole_Of.f 10).bind fun bt166 => ((rat_do_of_whole_Mul.f x166000 x166001 bt166.1 bt166.2).bind fun bt168 => (rat_Decimal.l0 k x1 x29 (wrap64 (x30 + 1)) x164000 x164001 x164002 bt168.1 bt168.2))) else ((rat_den.f x164000 x164001 x164002).bind fun bt170 => ((rat_rounded.f k x166000 x166001 bt170.1 bt170.2).bind fun bt172 => ((whole_Print.f bt172.1 bt172.2).bind fun bt175 => ((strings_Repeat.f (⟨#[48]⟩ : ByteArray) (mx 0 (wrap64 ((wrap64 (x1 + 1)) - (bt175.1.size : Int))))).bind fun t177 => (if t177.size + bt175.1.size ≤ 9223372036854775807 then (if x1 > 0 then (if 0 ≤ (wrap64 (((t177 ++ bt175.1).size : Int) - x1)) then (if (wrap64 (((t177 ++ bt175.1).size : Int) - x1)) ≤ ((t177 ++ bt175.1).size : Int) then (if ((t177 ++ bt175.1).extract 0 ((wrap64 (((t177 ++ bt175.1).size : Int) - x1)) : Int).toNat).size + 1 ≤ 9223372036854775807 then (if (((t177 ++ bt175.1).extract 0 ((wrap64 (((t177 ++ bt175.1).size : Int) - x1)) : Int).toNat) ++ (⟨#[46]⟩ : ByteArray)).size + ((t177 ++ bt175.1).extract ((wrap64 (((t177 ++ bt175.1).size : Int) - x1)) : Int).toNat (t177 ++ bt175.1).size).size ≤ 9223372036854775807 then (rat_Decimal.j2 k ((((t177 ++ bt175.1).extract 0 ((wrap64 (((t177 ++ bt175.1).size : Int) - x1)) : Int).toNat) ++ (⟨#[46]⟩ : ByteArray)) ++ ((t177 ++ bt175.1).extract ((wrap64 (((t177 ++ bt175.1).size : Int) - x1)) : Int).toNat (t177 ++ bt175.1).size)) x164000 x164001 x164002 bt172.1 bt172.2) else (none)) else (none)) else (none)) else (none)) else (rat_Decimal.j2 k (t177 ++ bt175.1) x164000 x164001 x164002 bt172.1 bt172.2)) else (none))))))
def rat_Decimal.j2 : Nat → ByteArray → Bool → ByteArray → ByteArray → Bool → ByteArray → Option (ByteArray × Int)
 | 0, _, _, _, _, _, _ => none
 | k + 1, x9, x164000, x164001, x164002, x175000, x175001 => if x164000 = true then (rat_Decimal.j3 k x9 (x175001.toList != ([] : List UInt8))) else (rat_Decimal.j3 k x9 false)
def rat_Decimal.j3 : Nat → ByteArray → Bool → Option (ByteArray × Int)
 | 0, _, _ => none
 | k + 1, x9, x75 => if x75 = true then (if 1 + x9.size ≤ 9223372036854775807 then (some ((⟨#[45]⟩ : ByteArray) ++ x9, 0)) else (none)) else (some (x9, 0))
end
def rat_Decimal.f (k : Nat) (a0_0 : Bool) (a0_1 : ByteArray) (a0_2 : ByteArray) (a1 : Int) : Option (ByteArray × Int) := (rat_Check.f k a0_0 a0_1 a0_2).bind fun t164 => (if t164 = 0 then (if a1 < 0 then (rat_Decimal.j0 k a1 true a0_0 a0_1 a0_2) else (rat_Decimal.j0 k a1 (decide (a1 > 100)) a0_0 a0_1 a0_2)) else (some ((⟨#[]⟩ : ByteArray), t164)))
def rat_Decimal.T16 : Bool × List (List Nat × List Nat) := (true, [([], []), ([], []), ([0, 1], [0, 1]), ([2], [2]), ([], []), ([], []), ([4, 5], [4, 5]), ([3, 6], [3, 6]), ([7, 0, 1, 2, 3, 4, 5, 6, 7], [0, 4, 7])])
def rat_Decimal.B16 : List Nat := [0, 0, 3, 7, 0, 0, 48, 127, 255]
theorem rat_Decimal.tab16 : rtab .any (opsOf Tryz.f20 16) = rat_Decimal.T16 := by kernel_rfl
theorem rat_Decimal.bits16 : waitsOk rat_Decimal.T16.2 rat_Decimal.B16 = true := by kernel_rfl
set_option maxHeartbeats 8000000 in
set_option maxRecDepth 100000 in
theorem rat_Decimal.calls (k : Nat) (a0_0 : Bool) (a0_1 : ByteArray) (a0_2 : ByteArray) (a1 : Int) (r1 : ByteArray) (r2 : Int) (w : World) (h : rat_Decimal.f k a0_0 a0_1 a0_2 a1 = some (r1, r2)) :
  Calls Tryz.prog 20 #[.agg #[.bool a0_0, .string a0_1, .string a0_2], .int .i64 a1] w fun e w' => e = .returned (.tuple #[.string r1, .int .i64 r2]) ∧ Below w.heap.size w w' := by
 have hu27 := Tryz.underlying27
 have hu24 := Tryz.underlying24; have hf0 := zf240; have hf1 := zf241; have hf2 := zf270; have hf3 := zf271
 have HB := Aside0.mk (Below.refl w.heap.size w)
 unfold rat_Decimal.f at h; have H := h; clear h
 obtain ⟨t164, A3, H⟩ := zo H
 by_cases c4 : t164 = 0
 ·rw [if_pos c4] at H
  have c4b0 := beq_iff_eq.mpr c4
  have c4b1 := bne_eq_false_iff_eq.mpr c4
  clear c4
  have HC5 := Aside0.mk H
  clear H
  go_enter Tryz.func20, Tryz.ntmps20
  go_upto_region 4 with (first | ((with_reducible refine gate_dst (N := 2) rfl ?_); refine zY 2 #[.bool a0_0, .string a0_1, .string a0_2] 27 ?_; intro gb163 hg w6 hbox hb; have BK163 := Aside0.mk (hbox); have GW163 := zG hg HB; have GE163 := zG hg HB; replace HB := zS HB hb; clear hb hbox hg; obtain ⟨hcz7_0, hcz7_1, hcz7_2, hfz7_0, hfz7_1, hfz7_2⟩ := z3 BK163) | ((with_reducible refine gate_callee (f := 41) rfl ?_); refine zO Tryz.func41 (by kernel_rfl) (rat_Check.calls k a0_0 a0_1 a0_2 t164 _ A3.out) fun w8 hb => ?_; replace BK163 := zB BK163 hb; replace HB := zS HB hb; (try clear hb)))
  (try simp only [Act.put, List.setIfInBounds_toArray, List.set_cons_zero, List.set_cons_succ])
  go_cut [18] (fun v18 wc => ∃ (kq : Nat) (x18_4 : Bool), v18 = .bool x18_4 ∧ Aside0 (rat_Decimal.j0 kq a1 x18_4 a0_0 a0_1 a0_2 = some (r1, r2)) ∧ Aside0 (kq ≤ k) ∧ Aside0 (wc.heap[gb163]? = some (.cells #[.bool a0_0, .string a0_1, .string a0_2] 27 (0, 0))) ∧ Aside0 (Below w.heap.size w wc))
  case first =>
   have H := HC5.out
   clear HC5
   by_cases c9 : a1 < 0
   ·rw [if_pos c9] at H
    have c9b0 := decide_eq_true c9
    clear c9
    (first | rw [c9b0] | (simp only [i64_w, i32_w]; rw [c9b0]) | skip)
    have H' := Aside0.mk H
    clear H
    go_wp2
    go_meet
    case rel => exact ⟨_, (true), zR, H', zL, zK BK163, ⟨zT HB⟩⟩
   ·rw [if_neg c9] at H
    have c9b0 := decide_eq_false c9
    clear c9
    (first | rw [c9b0] | (simp only [i64_w, i32_w]; rw [c9b0]) | skip)
    have H' := Aside0.mk H
    clear H
    go_wp2
    go_meet
    case rel => exact ⟨_, (decide (a1 > 100)), zR, H', zL, zK BK163, ⟨zT HB⟩⟩
  case rest =>
   clear HC5
   try clear c2; try clear p2; try clear c4; try clear c4b0; try clear c4b1; try clear c9; try clear c9b0; try clear hcz7_0; try clear hcz7_1; try clear hcz7_2; try clear hfz7_0; try clear hfz7_1; try clear hfz7_2
   obtain ⟨kq, x18_4, rfl, HA, HJ4, BK163, HB⟩ := hcut
   cases kq with
   | zero => exact absurd HA.out (by simp [rat_Decimal.j0])
   | succ kj4 =>
    have H := HA.out
    clear HA
    simp only [rat_Decimal.j0] at H
    by_cases c10 : x18_4 = true
    ·subst c10
     rw [if_pos rfl] at H
     simp only [Option.some.injEq, Prod.mk.injEq] at H
     obtain ⟨rfl, rfl⟩ := H
     go_wp2
     go_ret2
     exact ⟨zH, zT HB⟩
    ·replace c10 := Bool.eq_false_iff.mpr c10
     subst c10
     rw [if_neg zn] at H
     have H' := Aside0.mk H
     clear H; obtain ⟨hcz11_0, hcz11_1, hcz11_2, hfz11_0, hfz11_1, hfz11_2⟩ := z3 BK163
     go_wp2_with (first | ((with_reducible refine gate_dst (N := 7) rfl ?_); refine zY 7 #[.bool false, .string (⟨#[]⟩ : ByteArray)] 24 ?_; intro gb165 hg w12 hbox hb; have BK165 := Aside0.mk (hbox); have GW165 := zG hg HB; have GE165 := zG hg HB; obtain ⟨NB163_165, NB165_163⟩ := zQ hg BK163; replace BK163 := zB BK163 hb; replace HB := zS HB hb; clear hb hbox hg; have hnb13 := NB165_163.out; have hnc13 := NB163_165.out; obtain ⟨hcz14_0, hcz14_1, hfz14_0, hfz14_1⟩ := z2 BK165))
     go_loopg [30] kj4 (fun kq v30 w' => ∃ (x30_2 : Int) (x166000_2 : Bool) (x166001_2 : ByteArray), v30 = .int .i64 x30_2 ∧ Aside0 (rat_Decimal.l0 kq a1 a1 x30_2 a0_0 a0_1 a0_2 x166000_2 x166001_2 = some (r1, r2)) ∧ Aside0 (kq ≤ kj4) ∧ Aside0 (w'.heap[gb163]? = some (.cells #[.bool a0_0, .string a0_1, .string a0_2] 27 (0, 0))) ∧ Aside0 (w'.heap[gb165]? = some (.cells #[.bool x166000_2, .string x166001_2] 24 (0, 0))) ∧ Aside0 (Below w.heap.size w w'))
     case atStart => exact ⟨(0), (false), (a0_1), zR, H', ⟨Nat.le_refl _⟩, zK BK163, ⟨by (with_reducible repeat (first | refine blk_drewN ?_ _ | refine blk_drew ?_ | refine blk_alloc ?_ _)); refine zP (cs := #[.bool false, .string (⟨#[]⟩ : ByteArray)]) ?_ 1 _; (with_reducible repeat (first | refine blk_drewN ?_ _ | refine blk_drew ?_ | refine blk_alloc ?_ _)); refine zP (cs := #[.bool false, .string (⟨#[]⟩ : ByteArray)]) ?_ 0 _; (with_reducible repeat (first | refine blk_drewN ?_ _ | refine blk_drew ?_ | refine blk_alloc ?_ _)); exact BK165.out⟩, ⟨zT HB⟩⟩
     case round =>
      clear H'
      try clear c1; try clear c2; try clear p2; try clear c4; try clear c4b0; try clear c4b1; try clear c9; try clear c9b0; try clear c10; try clear c13; try clear hcz11_0; try clear hcz11_1; try clear hcz11_2; try clear hcz14_0; try clear hcz14_1; try clear hcz7_0; try clear hcz7_1; try clear hcz7_2; try clear hfz11_0; try clear hfz11_1; try clear hfz11_2; try clear hfz14_0; try clear hfz14_1; try clear hfz7_0; try clear hfz7_1; try clear hfz7_2; try clear p2
      obtain ⟨x30_2, x166000_2, x166001_2, rfl, HA, HK2, BK163, BK165, HB⟩ := hrel
      cases gk with
      | zero => exact absurd HA.out (by simp [rat_Decimal.l0])
      | succ k2 =>
       have H := HA.out
       clear HA
       simp only [rat_Decimal.l0] at H
       by_cases c15 : x30_2 < a1
       ·rw [if_pos c15] at H
        have c15b0 := decide_eq_true c15
        clear c15
        obtain ⟨⟨t166, t167⟩, A16, H⟩ := zo H; try dsimp only at H
        obtain ⟨⟨t168, t169⟩, A17, H⟩ := zo H; try dsimp only at H
        have H' := Aside0.mk H
        clear H
        try go_wp2
        replace BK163 := zD BK163; replace BK165 := zD BK165; replace HB := zF HB
        refine start_ (n := 4) (S := fun w' => w'.cell? ⟨gb165, 0, none⟩ = some (.bool x166000_2) ∧ w'.cell? ⟨gb165, 1, none⟩ = some (.string x166001_2)) (ds := [3]) (zb 4 0) (by kernel_rfl) rfl rfl ⟨zc BK165 0, zc BK165 1⟩ (fun hHeld => ?_)
        generalize wr.drew = w18 at BK163 BK165 HB hHeld ⊢
        refine take_ (i := 0) (N := some 32) (v := ?_) (a' := ?_) (zb 4 1) rfl rfl (by kernel_rfl) (fun _ _ _ h => h) (Or.inl ⟨by rfl, ?_⟩) hHeld ?_ ?_
        rotate_left
        ·rintro w' ⟨s0, s1⟩
         go_simp
         with_reducible rfl
        rotate_left
        ·simp only [Act.put, List.setIfInBounds_toArray, List.set_cons_zero, List.set_cons_succ, i64_w, i32_w]
         rfl
        refine one_ (i := 1) (N := some 33) (zb 4 3) rfl rfl (by kernel_rfl) (by decide) (fun K hK => ?_)
        refine zJ Tryz.func54 (by kernel_rfl) (whole_Of.calls 10 t166 t167 _ A16.out) fun w19 hb => ?_
        obtain ⟨BK163, BK165⟩ := zB2 BK163 BK165 hb; replace HB := zS HB hb
        (try clear hb)
        refine hK.out _ _ ⟨zc BK165 0, zc BK165 1⟩ (fun hHeld => ?_)
        clear hK K
        refine zW (some 33) ?_
        refine one_ (i := 2) (N := some 34) (zb 4 7) rfl rfl (by kernel_rfl) (by decide) (fun K hK => ?_)
        refine zJ Tryz.func57 (by kernel_rfl) (rat_do_of_whole_Mul.calls x166000_2 x166001_2 t166 t167 t168 t169 _ A17.out) fun w20 hb => ?_
        obtain ⟨BK163, BK165⟩ := zB2 BK163 BK165 hb; replace HB := zS HB hb
        (try clear hb)
        refine hK.out _ _ ⟨zc BK165 0, zc BK165 1⟩ (fun hHeld => ?_)
        clear hK K
        refine zW (some 34) ?_
        refine last_ (i := 3) (N := none) (zb 4 15) rfl rfl (by kernel_rfl) (by decide) (fun K hK => ?_)
        have hs21 : w20.cell? ⟨gb165, 0, none⟩ = some (.bool x166000_2) := zc BK165 0
        have hfs21 := blk_frozen BK165.out 0
        have hns21_0 := NB163_165.out
        have hms21_0 := NB165_163.out
        have hs22 : w20.cell? ⟨gb165, 1, none⟩ = some (.string x166001_2) := zc BK165 1
        have hfs22 := blk_frozen BK165.out 1
        have hns22_0 := NB163_165.out
        have hms22_0 := NB165_163.out
        refine skip_ (w1 := ?_) (by rfl) rfl ?_ ?_
        rotate_left
        ·go_simp
         rfl
        refine hK.out _ _ ?_
        clear hK K
        refine done_ (by kernel_rfl) ?_
        try go_wp2
        go_roundg k2
        case measure => have := HJ4.out; have := HK2.out; omega
        case rel => exact ⟨(wrap64 (x30_2 + 1)), (t168), (t169), zR, H', ⟨by have := HJ4.out; have := HK2.out; omega⟩, zK BK163, ⟨by (with_reducible repeat (first | refine blk_drewN ?_ _ | refine blk_drew ?_ | refine blk_alloc ?_ _)); refine zP (cs := #[.bool t168, .string x166001_2]) ?_ 1 _; (with_reducible repeat (first | refine blk_drewN ?_ _ | refine blk_drew ?_ | refine blk_alloc ?_ _)); refine zP (cs := #[.bool x166000_2, .string x166001_2]) ?_ 0 _; (with_reducible repeat (first | refine blk_drewN ?_ _ | refine blk_drew ?_ | refine blk_alloc ?_ _)); exact BK165.out⟩, ⟨zT HB⟩⟩
       ·rw [if_neg c15] at H
        have c15b0 := decide_eq_false c15
        clear c15
        obtain ⟨⟨t170, t171⟩, A23, H⟩ := zo H; try dsimp only at H
        obtain ⟨⟨t172, t173⟩, A24, H⟩ := zo H; try dsimp only at H
        obtain ⟨⟨t175, t176⟩, A25, H⟩ := zo H; try dsimp only at H
        obtain ⟨ji26, hji26⟩ : ∃ j_ : Int, (mx 0 (wrap64 ((wrap64 (a1 + 1)) - (t175.size : Int)))) = j_ := ⟨_, rfl⟩
        replace H : ((strings_Repeat.f (⟨#[48]⟩ : ByteArray) (ji26)).bind fun t177 => (if t177.size + t175.size ≤ 9223372036854775807 then (if a1 > 0 then (if 0 ≤ (wrap64 (((t177 ++ t175).size : Int) - a1)) then (if (wrap64 (((t177 ++ t175).size : Int) - a1)) ≤ ((t177 ++ t175).size : Int) then (if ((t177 ++ t175).extract 0 ((wrap64 (((t177 ++ t175).size : Int) - a1)) : Int).toNat).size + 1 ≤ 9223372036854775807 then (if (((t177 ++ t175).extract 0 ((wrap64 (((t177 ++ t175).size : Int) - a1)) : Int).toNat) ++ (⟨#[46]⟩ : ByteArray)).size + ((t177 ++ t175).extract ((wrap64 (((t177 ++ t175).size : Int) - a1)) : Int).toNat (t177 ++ t175).size).size ≤ 9223372036854775807 then (rat_Decimal.j2 k2 ((((t177 ++ t175).extract 0 ((wrap64 (((t177 ++ t175).size : Int) - a1)) : Int).toNat) ++ (⟨#[46]⟩ : ByteArray)) ++ ((t177 ++ t175).extract ((wrap64 (((t177 ++ t175).size : Int) - a1)) : Int).toNat (t177 ++ t175).size)) a0_0 a0_1 a0_2 t172 t173) else (none)) else (none)) else (none)) else (none)) else (rat_Decimal.j2 k2 (t177 ++ t175) a0_0 a0_1 a0_2 t172 t173)) else (none))) = some (r1, r2) := by first | (rw [hji26] at H; exact H) | (simp only [hji26] at H ⊢; exact H)
        (try rw [hji26] at A23)
        (try rw [hji26] at A24)
        (try rw [hji26] at A25)
        have hji26_ : (if 0 < (wrap64 ((wrap64 (a1 + 1)) - (t175.size : Int))) then (wrap64 ((wrap64 (a1 + 1)) - (t175.size : Int))) else 0) = ji26 := hji26
        obtain ⟨t177, A27, H⟩ := zo H
        by_cases c28 : t177.size + t175.size ≤ 9223372036854775807
        ·rw [if_pos c28] at H
         have c28b0 := eq_true c28
         have c28b1 := decide_eq_true c28
         try have c28b2 : (9223372036854775807 < t177.size + t175.size) = False := eq_false (Nat.not_lt.2 c28)
         have HC29 := Aside0.mk H
         clear H
         try go_wp2
         replace BK163 := zD BK163; replace BK165 := zD BK165; replace HB := zF HB
         refine start_ (n := 6) (S := fun w' => w'.cell? ⟨gb165, 0, none⟩ = some (.bool x166000_2) ∧ w'.cell? ⟨gb165, 1, none⟩ = some (.string x166001_2) ∧ w'.cell? ⟨gb163, 0, none⟩ = some (.bool a0_0) ∧ w'.cell? ⟨gb163, 1, none⟩ = some (.string a0_1) ∧ w'.cell? ⟨gb163, 2, none⟩ = some (.string a0_2)) (ds := []) (zb 6 0) (by kernel_rfl) rfl rfl ⟨zc BK165 0, zc BK165 1, zc BK163 0, zc BK163 1, zc BK163 2⟩ (fun hHeld => ?_)
         generalize wr.drew = w30 at BK163 BK165 HB hHeld ⊢
         refine take_ (i := 0) (N := some 36) (v := ?_) (a' := ?_) (zb 6 1) rfl rfl (by kernel_rfl) (fun _ _ _ h => h) (Or.inl ⟨by rfl, ?_⟩) hHeld ?_ ?_
         rotate_left
         ·rintro w' ⟨s0, s1, s2, s3, s4⟩
          go_simp
          with_reducible rfl
         rotate_left
         ·simp only [Act.put, List.setIfInBounds_toArray, List.set_cons_zero, List.set_cons_succ, i64_w, i32_w]
          rfl
         refine take_ (i := 1) (N := some 37) (v := ?_) (a' := ?_) (zb 6 3) rfl rfl (by kernel_rfl) (fun _ _ _ h => h) (Or.inl ⟨by rfl, ?_⟩) hHeld ?_ ?_
         rotate_left
         ·rintro w' ⟨s0, s1, s2, s3, s4⟩
          go_simp
          with_reducible rfl
         rotate_left
         ·simp only [Act.put, List.setIfInBounds_toArray, List.set_cons_zero, List.set_cons_succ, i64_w, i32_w]
          rfl
         refine join_ (σ := Nat) 1 (zb 6 31) (fun s_ => [(38, .agg #[.bool t170, .string t171]), (39, .agg #[.bool t172, .string t173]), (8, .pointer (some ⟨s_, 0, none⟩))]) (fun s_ w' => (w'.cell? ⟨gb165, 0, none⟩ = some (.bool x166000_2) ∧ w'.cell? ⟨gb165, 1, none⟩ = some (.string x166001_2) ∧ w'.cell? ⟨gb163, 0, none⟩ = some (.bool a0_0) ∧ w'.cell? ⟨gb163, 1, none⟩ = some (.string a0_1) ∧ w'.cell? ⟨gb163, 2, none⟩ = some (.string a0_2)) ∧ (w'.heap[gb163]? = some (.cells #[.bool a0_0, .string a0_1, .string a0_2] 27 (0, 0))) ∧ (w'.heap[gb165]? = some (.cells #[.bool x166000_2, .string x166001_2] 24 (0, 0))) ∧ (w'.heap[s_]? = some (.cells #[.bool false, .string (⟨#[]⟩ : ByteArray)] 24 (0, 0))) ∧ (w.heap.size ≤ s_) ∧ (w.heap.size ≤ s_) ∧ (gb163 ≠ s_) ∧ (s_ ≠ gb163) ∧ (gb165 ≠ s_) ∧ (s_ ≠ gb165) ∧ (Below w.heap.size w w')) ?_ ?_
         rotate_left
         ·intro hCont
          refine two_ (i := 2) (j := 4) (Ni := some 38) (Nj := some 8) (zb 6 7) (zb 6 19) rfl rfl rfl rfl (by kernel_rfl) (by decide) (by decide) (fun K hK => ?_) (fun K hK => ?_)
          ·skip
           refine zJ Tryz.func60 (by kernel_rfl) (rat_den.calls a0_0 a0_1 a0_2 t170 t171 _ A23.out) fun w31 hb => ?_
           obtain ⟨BK163, BK165⟩ := zB2 BK163 BK165 hb; replace HB := zS HB hb
           (try clear hb)
           refine hK.out _ _ ⟨zc BK165 0, zc BK165 1, zc BK163 0, zc BK163 1, zc BK163 2⟩ (fun hHeld => ?_)
           clear hK K
           refine zW (some 38) ?_
           refine two_ (i := 3) (j := 4) (Ni := some 39) (Nj := some 8) (zb 6 15) (zb 6 23) rfl rfl rfl rfl (by kernel_rfl) (by decide) (by decide) (fun K hK => ?_) (fun K hK => ?_)
           ·skip
            refine zJ Tryz.func59 (by kernel_rfl) (rat_rounded.calls k2 x166000_2 x166001_2 t170 t171 t172 t173 _ A24.out) fun w32 hb => ?_
            obtain ⟨BK163, BK165⟩ := zB2 BK163 BK165 hb; replace HB := zS HB hb
            (try clear hb)
            refine hK.out _ _ ⟨zc BK165 0, zc BK165 1, zc BK163 0, zc BK163 1, zc BK163 2⟩ (fun hHeld => ?_)
            clear hK K
            refine zW (some 39) ?_
            refine one_ (i := 4) (N := some 8) (zb 6 31) rfl rfl (by kernel_rfl) (by decide) (fun K hK => ?_)
            refine box_step ?hg (N := 8) ?hd (cs := #[.bool false, .string (⟨#[]⟩ : ByteArray)]) (t := 24) ?hr ?_; (case hd => rfl); (case hg => rfl); (case hr => first | (go_simp; done) | (go_simp; rfl))
            intro gb174 hg w33 hbox hb
            have BK174 := Aside0.mk (hbox); have GW174 := zG hg HB; have GE174 := zG hg HB; obtain ⟨NB163_174, NB174_163⟩ := zQ hg BK163; obtain ⟨NB165_174, NB174_165⟩ := zQ hg BK165; obtain ⟨BK163, BK165⟩ := zB2 BK163 BK165 hb; replace HB := zS HB hb; clear hb hbox hg
            refine hK.out _ _ ⟨zc BK165 0, zc BK165 1, zc BK163 0, zc BK163 1, zc BK163 2⟩ (fun hHeld => ?_)
            clear hK K
            refine zW (some 8) ?_
            exact norm_ (by simp only [putAll, Act.put, List.setIfInBounds_toArray, List.set_cons_zero, List.set_cons_succ]) (hCont (gb174) _ ⟨hHeld, (zK BK163).out, (zK BK165).out, (zK BK174).out, GW174.out, GE174.out, NB163_174.out, NB174_163.out, NB165_174.out, NB174_165.out, (zT HB)⟩)
           ·skip
            refine box_step ?hg (N := 8) ?hd (cs := #[.bool false, .string (⟨#[]⟩ : ByteArray)]) (t := 24) ?hr ?_; (case hd => rfl); (case hg => rfl); (case hr => first | (go_simp; done) | (go_simp; rfl))
            intro gb174 hg w32 hbox hb
            have BK174 := Aside0.mk (hbox); have GW174 := zG hg HB; have GE174 := zG hg HB; obtain ⟨NB163_174, NB174_163⟩ := zQ hg BK163; obtain ⟨NB165_174, NB174_165⟩ := zQ hg BK165; obtain ⟨BK163, BK165⟩ := zB2 BK163 BK165 hb; replace HB := zS HB hb; clear hb hbox hg
            refine hK.out _ _ ⟨zc BK165 0, zc BK165 1, zc BK163 0, zc BK163 1, zc BK163 2⟩ (fun hHeld => ?_)
            clear hK K
            refine zW (some 8) ?_
            refine one_ (i := 3) (N := some 39) (zb 6 31) rfl rfl (by kernel_rfl) (by decide) (fun K hK => ?_)
            refine zJ Tryz.func59 (by kernel_rfl) (rat_rounded.calls k2 x166000_2 x166001_2 t170 t171 t172 t173 _ A24.out) fun w33 hb => ?_
            obtain ⟨BK163, BK165, BK174⟩ := zB3 BK163 BK165 BK174 hb; replace HB := zS HB hb
            (try clear hb)
            refine hK.out _ _ ⟨zc BK165 0, zc BK165 1, zc BK163 0, zc BK163 1, zc BK163 2⟩ (fun hHeld => ?_)
            clear hK K
            refine zW (some 39) ?_
            exact norm_ (by simp only [putAll, Act.put, List.setIfInBounds_toArray, List.set_cons_zero, List.set_cons_succ]) (hCont (gb174) _ ⟨hHeld, (zK BK163).out, (zK BK165).out, (zK BK174).out, GW174.out, GE174.out, NB163_174.out, NB174_163.out, NB165_174.out, NB174_165.out, (zT HB)⟩)
          ·skip
           refine box_step ?hg (N := 8) ?hd (cs := #[.bool false, .string (⟨#[]⟩ : ByteArray)]) (t := 24) ?hr ?_; (case hd => rfl); (case hg => rfl); (case hr => first | (go_simp; done) | (go_simp; rfl))
           intro gb174 hg w31 hbox hb
           have BK174 := Aside0.mk (hbox); have GW174 := zG hg HB; have GE174 := zG hg HB; obtain ⟨NB163_174, NB174_163⟩ := zQ hg BK163; obtain ⟨NB165_174, NB174_165⟩ := zQ hg BK165; obtain ⟨BK163, BK165⟩ := zB2 BK163 BK165 hb; replace HB := zS HB hb; clear hb hbox hg
           refine hK.out _ _ ⟨zc BK165 0, zc BK165 1, zc BK163 0, zc BK163 1, zc BK163 2⟩ (fun hHeld => ?_)
           clear hK K
           refine zW (some 8) ?_
           refine one_ (i := 2) (N := some 38) (zb 6 23) rfl rfl (by kernel_rfl) (by decide) (fun K hK => ?_)
           refine zJ Tryz.func60 (by kernel_rfl) (rat_den.calls a0_0 a0_1 a0_2 t170 t171 _ A23.out) fun w32 hb => ?_
           obtain ⟨BK163, BK165, BK174⟩ := zB3 BK163 BK165 BK174 hb; replace HB := zS HB hb
           (try clear hb)
           refine hK.out _ _ ⟨zc BK165 0, zc BK165 1, zc BK163 0, zc BK163 1, zc BK163 2⟩ (fun hHeld => ?_)
           clear hK K
           refine zW (some 38) ?_
           refine one_ (i := 3) (N := some 39) (zb 6 31) rfl rfl (by kernel_rfl) (by decide) (fun K hK => ?_)
           refine zJ Tryz.func59 (by kernel_rfl) (rat_rounded.calls k2 x166000_2 x166001_2 t170 t171 t172 t173 _ A24.out) fun w33 hb => ?_
           obtain ⟨BK163, BK165, BK174⟩ := zB3 BK163 BK165 BK174 hb; replace HB := zS HB hb
           (try clear hb)
           refine hK.out _ _ ⟨zc BK165 0, zc BK165 1, zc BK163 0, zc BK163 1, zc BK163 2⟩ (fun hHeld => ?_)
           clear hK K
           refine zW (some 39) ?_
           exact norm_ (by simp only [putAll, Act.put, List.setIfInBounds_toArray, List.set_cons_zero, List.set_cons_succ]) (hCont (gb174) _ ⟨hHeld, (zK BK163).out, (zK BK165).out, (zK BK174).out, GW174.out, GE174.out, NB163_174.out, NB174_163.out, NB165_174.out, NB174_165.out, (zT HB)⟩)
         rintro gb174 w34 ⟨hS_, h0_, h1_, h2_, h3_, h4_, h5_, h6_, h7_, h8_, h9_⟩
         replace BK163 := Aside0.mk h0_; replace BK165 := Aside0.mk h1_; have BK174 := Aside0.mk h2_; have GW174 := Aside0.mk h3_; have GE174 := Aside0.mk h4_; have NB163_174 := Aside0.mk h5_; have NB174_163 := Aside0.mk h6_; have NB165_174 := Aside0.mk h7_; have NB174_165 := Aside0.mk h8_; replace HB := Aside0.mk h9_; clear h0_ h1_ h2_ h3_ h4_ h5_ h6_ h7_ h8_ h9_
         have hHeld := hS_
         refine norm_ (a' := ?_) ?_ ?_
         rotate_left
         ·simp only [putAll, Act.put, List.setIfInBounds_toArray, List.set_cons_zero, List.set_cons_succ]
          rfl
         refine one_ (i := 5) (N := none) (zb 6 63) rfl rfl (by kernel_rfl) (by decide) (fun K hK => ?_)
         have hs35 : w34.cell? ⟨gb174, 0, none⟩ = some (.bool false) := zc BK174 0
         have hfs35 := blk_frozen BK174.out 0
         have hns35_0 := NB163_174.out
         have hns35_1 := NB165_174.out
         have hms35_0 := NB174_163.out
         have hms35_1 := NB174_165.out
         have hs36 : w34.cell? ⟨gb174, 1, none⟩ = some (.string (⟨#[]⟩ : ByteArray)) := zc BK174 1
         have hfs36 := blk_frozen BK174.out 1
         have hns36_0 := NB163_174.out
         have hns36_1 := NB165_174.out
         have hms36_0 := NB174_163.out
         have hms36_1 := NB174_165.out
         refine skip_ (w1 := ?_) (by rfl) rfl ?_ ?_
         rotate_left
         ·go_simp
          rfl
         refine hK.out _ _ ⟨((cell_far (p := ⟨gb174, _, none⟩) NB165_174.out _).trans (((cell_far (p := ⟨gb174, _, none⟩) NB165_174.out _).trans (hHeld.1)))), ((cell_far (p := ⟨gb174, _, none⟩) NB165_174.out _).trans (((cell_far (p := ⟨gb174, _, none⟩) NB165_174.out _).trans (hHeld.2.1)))), ((cell_far (p := ⟨gb174, _, none⟩) NB163_174.out _).trans (((cell_far (p := ⟨gb174, _, none⟩) NB163_174.out _).trans (hHeld.2.2.1)))), ((cell_far (p := ⟨gb174, _, none⟩) NB163_174.out _).trans (((cell_far (p := ⟨gb174, _, none⟩) NB163_174.out _).trans (hHeld.2.2.2.1)))), ((cell_far (p := ⟨gb174, _, none⟩) NB163_174.out _).trans (((cell_far (p := ⟨gb174, _, none⟩) NB163_174.out _).trans (hHeld.2.2.2.2))))⟩ (fun hHeld => ?_)
         clear hK K
         refine done_ (by kernel_rfl) ?_
         have hnb37 := NB174_163.out; have hnc37 := NB163_174.out; have hnb38 := NB174_165.out; have hnc38 := NB165_174.out; obtain ⟨hcz39_0, hcz39_1, hfz39_0, hfz39_1⟩ := z2 BK174
         go_upto_if 55 with (first | ((with_reducible refine gate_callee (f := 61) rfl ?_); refine zO Tryz.func61 (by kernel_rfl) (whole_Print.calls t172 t173 t175 t176 _ A25.out) fun w40 hb => ?_; obtain ⟨BK163, BK165⟩ := zB2 BK163 BK165 hb; replace BK174 := Aside0.mk (blk_below (g := gb174) (o := .cells #[.bool t172, .string t173] 24 (0, 0)) (by (with_reducible repeat (first | refine blk_drewN ?_ _ | refine blk_drew ?_ | refine blk_alloc ?_ _)); refine zP (cs := #[.bool t172, .string (⟨#[]⟩ : ByteArray)]) ?_ 1 _; (with_reducible repeat (first | refine blk_drewN ?_ _ | refine blk_drew ?_ | refine blk_alloc ?_ _)); refine zP (cs := #[.bool false, .string (⟨#[]⟩ : ByteArray)]) ?_ 0 _; (with_reducible repeat (first | refine blk_drewN ?_ _ | refine blk_drew ?_ | refine blk_alloc ?_ _)); exact BK174.out) hb); replace HB := zS HB hb; (try clear hb)) | ((with_reducible refine gate_callee (f := 62) rfl ?_); refine goesL_ (some 51) rfl rfl Tryz.func62 (by kernel_rfl) rfl #[.string (⟨#[48]⟩ : ByteArray), .int .i64 ji26] rfl (by (try simp only [List.map_toArray, List.map_cons, List.map_nil]); first | done | (simp only [hji26]; rfl) | rfl | (simp only [List.length_drop, List.length_take]; rfl)) ?_; (with_reducible refine (strings_Repeat.calls (⟨#[48]⟩ : ByteArray) ji26 t177 _ A27.out).mono ?_); rintro e w41 ⟨rfl, hb⟩; refine ⟨_, rfl, ?_⟩; obtain ⟨BK163, BK165, BK174⟩ := zB3 BK163 BK165 BK174 hb; replace HB := zS HB hb; (try clear hb)))
         (try simp only [Act.put, List.setIfInBounds_toArray, List.set_cons_zero, List.set_cons_succ])
         go_cut [9] (fun v9 wc => ∃ (kq : Nat) (x9_28 : ByteArray), v9 = .string x9_28 ∧ Aside0 (rat_Decimal.j2 kq x9_28 a0_0 a0_1 a0_2 t172 t173 = some (r1, r2)) ∧ Aside0 (kq ≤ k2) ∧ Aside0 (wc.heap[gb163]? = some (.cells #[.bool a0_0, .string a0_1, .string a0_2] 27 (0, 0))) ∧ Aside0 (wc.heap[gb165]? = some (.cells #[.bool x166000_2, .string x166001_2] 24 (0, 0))) ∧ Aside0 (wc.heap[gb174]? = some (.cells #[.bool t172, .string t173] 24 (0, 0))) ∧ Aside0 (Below w.heap.size w wc))
         case first =>
          have H := HC29.out
          clear HC29
          by_cases c42 : a1 > 0
          ·rw [if_pos c42] at H
           have c42b0 := decide_eq_true c42
           clear c42
           (first | rw [c42b0] | (simp only [i64_w, i32_w]; rw [c42b0]) | skip)
           obtain ⟨ji43, hji43⟩ : ∃ j_ : Int, (wrap64 (((t177 ++ t175).size : Int) - a1)) = j_ := ⟨_, rfl⟩
           replace H : (if 0 ≤ (ji43) then (if (ji43) ≤ ((t177 ++ t175).size : Int) then (if ((t177 ++ t175).extract 0 ((ji43) : Int).toNat).size + 1 ≤ 9223372036854775807 then (if (((t177 ++ t175).extract 0 ((ji43) : Int).toNat) ++ (⟨#[46]⟩ : ByteArray)).size + ((t177 ++ t175).extract ((ji43) : Int).toNat (t177 ++ t175).size).size ≤ 9223372036854775807 then (rat_Decimal.j2 k2 ((((t177 ++ t175).extract 0 ((ji43) : Int).toNat) ++ (⟨#[46]⟩ : ByteArray)) ++ ((t177 ++ t175).extract ((ji43) : Int).toNat (t177 ++ t175).size)) a0_0 a0_1 a0_2 t172 t173) else (none)) else (none)) else (none)) else (none)) = some (r1, r2) := by first | (rw [hji43] at H; exact H) | (simp only [hji43] at H ⊢; exact H)
           have hji43w : (IntKind.i64.wrap (((t177 ++ t175).size : Int) - a1)) = ji43 := (i64_w _).trans hji43
           have hji43y : (IntKind.i64.wrap ((t177.size : Int) + (t175.size : Int) - a1)) = ji43 := by have h_ := hji43w; rw [ByteArray.size_append, Int.natCast_add] at h_; exact h_
           have hji43z : (wrap64 ((t177.size : Int) + (t175.size : Int) - a1)) = ji43 := by have h_ := hji43; rw [ByteArray.size_append, Int.natCast_add] at h_; exact h_
           by_cases c44 : 0 ≤ (ji43)
           ·rw [if_pos c44] at H
            have c44b0 := eq_true c44
            have c44b1 := decide_eq_true c44
            clear c44
            by_cases c45 : (ji43) ≤ ((t177 ++ t175).size : Int)
            ·rw [if_pos c45] at H
             have c45b0 := eq_true c45
             have c45b1 := decide_eq_true c45
             by_cases c46 : ((t177 ++ t175).extract 0 ((ji43) : Int).toNat).size + 1 ≤ 9223372036854775807
             ·rw [if_pos c46] at H
              have c46b0 := eq_true c46
              have c46b1 := decide_eq_true c46
              try have c46b2 : (9223372036854775807 < ((t177 ++ t175).extract 0 ((ji43) : Int).toNat).size + 1) = False := eq_false (Nat.not_lt.2 c46)
              have c47b0 := eq_true (of_decide_eq_true (by first | (with_reducible assumption) | assumption) : 0 ≤ (ji43))
              have c48b0 := eq_true (of_decide_eq_true (by first | (with_reducible assumption) | assumption) : (ji43) ≤ ((t177 ++ t175).size : Int))
              have c46y : (9223372036854775807 < ji43.toNat + 1) = False := eq_false (by have h_ := of_eq_true c46b0; have g_ := of_eq_true c48b0; rw [ByteArray.size_extract] at h_; omega)
              have c48b0y : ((ji43) ≤ (t177.size : Int) + (t175.size : Int)) = True := eq_true (by have h_ := of_eq_true c48b0; rw [ByteArray.size_append, Int.natCast_add] at h_; exact h_)
              by_cases c49 : (((t177 ++ t175).extract 0 ((ji43) : Int).toNat) ++ (⟨#[46]⟩ : ByteArray)).size + ((t177 ++ t175).extract ((ji43) : Int).toNat (t177 ++ t175).size).size ≤ 9223372036854775807
              ·rw [if_pos c49] at H
               have c49b0 := eq_true c49
               have c49b1 := decide_eq_true c49
               try have c49b2 : (9223372036854775807 < (((t177 ++ t175).extract 0 ((ji43) : Int).toNat) ++ (⟨#[46]⟩ : ByteArray)).size + ((t177 ++ t175).extract ((ji43) : Int).toNat (t177 ++ t175).size).size) = False := eq_false (Nat.not_lt.2 c49)
               have c49y : (9223372036854775807 < ji43.toNat + 1 + (t177.size + t175.size - ji43.toNat)) = False := eq_false (by have h_ := of_eq_true c49b0; have g_ := of_eq_true c48b0; have e_ : (⟨#[46]⟩ : ByteArray).size = 1 := rfl; simp only [ByteArray.size_append, ByteArray.size_extract, e_, Int.natCast_add] at h_ g_; omega)
               have H' := Aside0.mk H
               clear H
               try go_wp2
               replace BK163 := zD BK163; replace BK165 := zD BK165; replace BK174 := zD BK174; replace HB := zF HB
               refine start_ (n := 9) (S := fun w' => True) (ds := []) (zb 9 0) (by kernel_rfl) rfl rfl trivial (fun hHeld => ?_); refine with_tabW rat_Decimal.tab16 rat_Decimal.bits16 (fun HT_ HW_ => ?_)
               generalize w41.drew = w50 at BK163 BK165 BK174 HB hHeld ⊢
               refine zU (i := 0) (N := some 60) (zb 9 1) (any_of HT_.out (by kernel_rfl)) ?_
               refine zU (i := 1) (N := some 61) (zb 9 3) (any_of HT_.out (by kernel_rfl)) ?_
               refine zU (i := 2) (N := some 62) (zb 9 7) (any_of HT_.out (by kernel_rfl)) ?_
               refine zU (i := 3) (N := some 63) (zb 9 15) (any_of HT_.out (by kernel_rfl)) ?_
               refine zU (i := 4) (N := some 64) (zb 9 31) (any_of HT_.out (by kernel_rfl)) ?_
               refine zU (i := 5) (N := some 65) (zb 9 63) (any_of HT_.out (by kernel_rfl)) ?_
               refine zU (i := 6) (N := some 66) (zb 9 127) (any_of HT_.out (by kernel_rfl)) ?_
               refine zU (i := 7) (N := some 67) (zb 9 255) (any_of HT_.out (by kernel_rfl)) ?_
               refine zU (i := 8) (N := some 9) (zb 9 511) (any_of HT_.out (by kernel_rfl)) ?_
               refine done_ (done_of HT_.out (by kernel_rfl)) ?_
               try go_wp2
               go_meet
               case rel => exact ⟨_, ((((t177 ++ t175).extract 0 ((ji43) : Int).toNat) ++ (⟨#[46]⟩ : ByteArray)) ++ ((t177 ++ t175).extract ((ji43) : Int).toNat (t177 ++ t175).size)), (by first | rfl | (simp; done) | (simp only [← hji43] <;> (first | rfl | simp)) | (simp [*]; done)), H', ⟨by have := HJ4.out; have := HK2.out; first | omega | exact Nat.le_refl _⟩, zK BK163, zK BK165, zK BK174, ⟨zT HB⟩⟩
              ·rw [if_neg c49] at H
               exact absurd H (by simp)
             ·rw [if_neg c46] at H
              exact absurd H (by simp)
            ·rw [if_neg c45] at H
             exact absurd H (by simp)
           ·rw [if_neg c44] at H
            exact absurd H (by simp)
          ·rw [if_neg c42] at H
           have c42b0 := decide_eq_false c42
           clear c42
           (first | rw [c42b0] | (simp only [i64_w, i32_w]; rw [c42b0]) | skip)
           have H' := Aside0.mk H
           clear H
           go_wp2
           go_meet
           case rel => exact ⟨_, (t177 ++ t175), zR, H', ⟨by have := HJ4.out; have := HK2.out; first | omega | exact Nat.le_refl _⟩, zK BK163, zK BK165, zK BK174, ⟨zT HB⟩⟩
         case rest =>
          clear HC29
          try clear c1; try clear c2; try clear p2; try clear c3; try clear c4; try clear c5; try clear c6; try clear p6; try clear c9; try clear c15; try clear c15b0; try clear c28; try clear c28b0; try clear c28b1; try clear c28b2; try clear c37; try clear c38; try clear c42; try clear c42b0; try clear c44; try clear c44b0; try clear c44b1; try clear c45; try clear c45b0; try clear c45b1; try clear c46; try clear c46b0; try clear c46b1; try clear c46b2; try clear c47; try clear c47b0; try clear c48; try clear c48b0; try clear c49; try clear c49b0; try clear c49b1; try clear c49b2; try clear hcz39_0; try clear hcz39_1; try clear hfz39_0; try clear hfz39_1
          obtain ⟨kq, x9_28, rfl, HA, HJ28, BK163, BK165, BK174, HB⟩ := hcut
          cases kq with
          | zero => exact absurd HA.out (by simp [rat_Decimal.j2])
          | succ kj28 =>
           have H := HA.out
           clear HA
           simp only [rat_Decimal.j2] at H
           have HC51 := Aside0.mk H
           clear H
           go_upto_region 17 with (fail)
           go_cut [75] (fun v75 wc => ∃ (kq : Nat) (x75_50 : Bool), v75 = .bool x75_50 ∧ Aside0 (rat_Decimal.j3 kq x9_28 x75_50 = some (r1, r2)) ∧ Aside0 (kq ≤ kj28) ∧ Aside0 (wc.heap[gb163]? = some (.cells #[.bool a0_0, .string a0_1, .string a0_2] 27 (0, 0))) ∧ Aside0 (wc.heap[gb165]? = some (.cells #[.bool x166000_2, .string x166001_2] 24 (0, 0))) ∧ Aside0 (wc.heap[gb174]? = some (.cells #[.bool t172, .string t173] 24 (0, 0))) ∧ Aside0 (Below w.heap.size w wc))
           case first =>
            have H := HC51.out
            clear HC51
            by_cases c52 : a0_0 = true
            ·subst c52
             rw [if_pos rfl] at H
             have H' := Aside0.mk H
             clear H; have hnb53 := NB163_165.out; have hnc53 := NB165_163.out; have hnb54 := NB163_174.out; have hnc54 := NB174_163.out; obtain ⟨hcz55_0, hcz55_1, hcz55_2, hfz55_0, hfz55_1, hfz55_2⟩ := z3 BK163; have hnb56 := NB174_165.out; have hnc56 := NB165_174.out; obtain ⟨hcz57_0, hcz57_1, hfz57_0, hfz57_1⟩ := z2 BK174
             go_wp2
             go_meet
             case rel => exact ⟨_, ((t173.toList != ([] : List UInt8))), zR, H', ⟨by have := HJ4.out; have := HK2.out; have := HJ28.out; first | omega | exact Nat.le_refl _⟩, zK BK163, zK BK165, zK BK174, ⟨zT HB⟩⟩
            ·replace c52 := Bool.eq_false_iff.mpr c52
             subst c52
             rw [if_neg zn] at H
             have H' := Aside0.mk H
             clear H; have hnb58 := NB163_165.out; have hnc58 := NB165_163.out; have hnb59 := NB163_174.out; have hnc59 := NB174_163.out; obtain ⟨hcz60_0, hcz60_1, hcz60_2, hfz60_0, hfz60_1, hfz60_2⟩ := z3 BK163
             go_wp2
             go_meet
             case rel => exact ⟨_, (false), zR, H', ⟨by have := HJ4.out; have := HK2.out; have := HJ28.out; first | omega | exact Nat.le_refl _⟩, zK BK163, zK BK165, zK BK174, ⟨zT HB⟩⟩
           case rest =>
            clear HC51
            try clear c1; try clear c2; try clear p2; try clear c3; try clear c4; try clear c5; try clear c6; try clear p6; try clear c9; try clear c15; try clear c15b0; try clear c28; try clear c28b0; try clear c28b1; try clear c28b2; try clear c37; try clear c38; try clear c42; try clear c42b0; try clear c44; try clear c44b0; try clear c44b1; try clear c45; try clear c45b0; try clear c45b1; try clear c46; try clear c46b0; try clear c46b1; try clear c46b2; try clear c47; try clear c47b0; try clear c48; try clear c48b0; try clear c49; try clear c49b0; try clear c49b1; try clear c49b2; try clear c52; try clear c53; try clear c54; try clear c56; try clear c58; try clear c59; try clear c60; try clear hcz39_0; try clear hcz39_1; try clear hcz55_0; try clear hcz55_1; try clear hcz55_2; try clear hcz57_0; try clear hcz57_1; try clear hcz60_0; try clear hcz60_1; try clear hcz60_2; try clear hfz39_0; try clear hfz39_1; try clear hfz55_0; try clear hfz55_1; try clear hfz55_2; try clear hfz57_0; try clear hfz57_1; try clear hfz60_0; try clear hfz60_1; try clear hfz60_2; try clear p2; try clear p6
            obtain ⟨kq, x75_50, rfl, HA, HJ50, BK163, BK165, BK174, HB⟩ := hcut
            cases kq with
            | zero => exact absurd HA.out (by simp [rat_Decimal.j3])
            | succ kj50 =>
             have H := HA.out
             clear HA
             simp only [rat_Decimal.j3] at H
             by_cases c61 : x75_50 = true
             ·subst c61
              rw [if_pos rfl] at H
              by_cases c62 : 1 + x9_28.size ≤ 9223372036854775807
              ·rw [if_pos c62] at H
               have c62b0 := eq_true c62
               have c62b1 := decide_eq_true c62
               try have c62b2 : (9223372036854775807 < 1 + x9_28.size) = False := eq_false (Nat.not_lt.2 c62)
               simp only [Option.some.injEq, Prod.mk.injEq] at H
               obtain ⟨rfl, rfl⟩ := H
               go_wp2
               go_ret2
               exact ⟨by first | rfl | (simp [errW_none, errW_some] <;> rfl) | (simp only [← hji26]; first | rfl | (simp [errW_none, errW_some] <;> rfl)) | (simp [*, errW_none, errW_some] <;> rfl), zT HB⟩
              ·rw [if_neg c62] at H
               exact absurd H (by simp)
             ·replace c61 := Bool.eq_false_iff.mpr c61
              subst c61
              rw [if_neg zn] at H
              simp only [Option.some.injEq, Prod.mk.injEq] at H
              obtain ⟨rfl, rfl⟩ := H
              go_wp2
              go_ret2
              exact ⟨by first | rfl | (simp [errW_none, errW_some] <;> rfl) | (simp only [← hji26]; first | rfl | (simp [errW_none, errW_some] <;> rfl)) | (simp [*, errW_none, errW_some] <;> rfl), zT HB⟩
        ·rw [if_neg c28] at H
         exact absurd H (by simp)
 ·rw [if_neg c4] at H
  have c4b0 := beq_eq_false_iff_ne.mpr c4
  have c4b1 := bne_iff_ne.mpr c4
  simp only [Option.some.injEq, Prod.mk.injEq] at H
  obtain ⟨rfl, rfl⟩ := H
  go_enter Tryz.func20, Tryz.ntmps20
  go_wp2_with (first | ((with_reducible refine gate_dst (N := 2) rfl ?_); refine zY 2 #[.bool a0_0, .string a0_1, .string a0_2] 27 ?_; intro gb163 hg w63 hbox hb; have BK163 := Aside0.mk (hbox); have GW163 := zG hg HB; have GE163 := zG hg HB; replace HB := zS HB hb; clear hb hbox hg; obtain ⟨hcz64_0, hcz64_1, hcz64_2, hfz64_0, hfz64_1, hfz64_2⟩ := z3 BK163) | ((with_reducible refine gate_callee (f := 41) rfl ?_); refine zO Tryz.func41 (by kernel_rfl) (rat_Check.calls k a0_0 a0_1 a0_2 t164 _ A3.out) fun w65 hb => ?_; replace BK163 := zB BK163 hb; replace HB := zS HB hb; (try clear hb)))
  go_ret2
  exact ⟨zH, zT HB⟩


/-! ### gussetref02_Of: function 23 -/
open Go.Proofs.YtoijlbcbbblbfaaGreatDoor Go.Proofs.YtoijlbcbbblbfaaGreatDoor.Num in
def gussetref02_Of.f (a0 : Int) : Option (Bool × ByteArray) := if -9223372036854775808 ≤ a0 ∧ a0 ≤ 9223372036854775807 then some ((pv a0).1, (pv a0).2) else none
open Go.Proofs.YtoijlbcbbblbfaaGreatDoor Go.Proofs.YtoijlbcbbblbfaaGreatDoor.Num in
theorem gussetref02_Of.calls (a0 : Int) (r1 : Bool) (r2 : ByteArray) (w : World) (h : gussetref02_Of.f a0 = some (r1, r2)) :
  Calls Tryz.prog 23 #[.int .i64 a0] w fun e w' => e = .returned (.agg #[.bool r1, .string r2]) ∧ Below w.heap.size w w' := by
 unfold gussetref02_Of.f at h
 split at h
 ·rename_i hc
  simp only [Option.some.injEq, Prod.mk.injEq] at h
  obtain ⟨rfl, rfl⟩ := h
  exact of_r a0 hc.1 hc.2 w
 ·exact absurd h (by simp)



/-! ### gussetref03_Lowest: function 16 -/
open Go.Proofs.YtoijlbcbbblbfaaGreatDoor Go.Proofs.YtoijlbcbbblbfaaGreatDoor.Num in
def gussetref03_Lowest.f (a0_0 : Bool) (a0_1 : ByteArray) (a1_0 : Bool) (a1_1 : ByteArray) : Option (Bool × ByteArray × ByteArray) := if a0_1.size ≤ 1000 ∧ a1_1.size ≤ 1000 ∧ chk a0_0 a0_1 = 0 ∧ chk a1_0 a1_1 = 0 ∧ ival a1_0 a1_1 ≠ 0 then some ((pq (Rat.divInt (ival a0_0 a0_1) (ival a1_0 a1_1))).1, (pq (Rat.divInt (ival a0_0 a0_1) (ival a1_0 a1_1))).2.1, (pq (Rat.divInt (ival a0_0 a0_1) (ival a1_0 a1_1))).2.2) else none
open Go.Proofs.YtoijlbcbbblbfaaGreatDoor Go.Proofs.YtoijlbcbbblbfaaGreatDoor.Num in
theorem gussetref03_Lowest.calls (a0_0 : Bool) (a0_1 : ByteArray) (a1_0 : Bool) (a1_1 : ByteArray) (r1 : Bool) (r2 : ByteArray) (r3 : ByteArray) (w : World) (h : gussetref03_Lowest.f a0_0 a0_1 a1_0 a1_1 = some (r1, r2, r3)) :
  Calls Tryz.prog 16 #[.agg #[.bool a0_0, .string a0_1], .agg #[.bool a1_0, .string a1_1]] w fun e w' => e = .returned (.agg #[.bool r1, .string r2, .string r3]) ∧ Below w.heap.size w w' := by
 unfold gussetref03_Lowest.f at h
 split at h
 ·rename_i hc
  simp only [Option.some.injEq, Prod.mk.injEq] at h
  obtain ⟨rfl, rfl, rfl⟩ := h
  exact lowest_r _ _ _ _ hc.1 hc.2.1 (chk_ok.1 hc.2.2.1) (chk_ok.1 hc.2.2.2.1) hc.2.2.2.2 w
 ·exact absurd h (by simp)



/-! ### gussetref03_Frac: function 45 -/
def gussetref03_Frac.f (a0 : Int) (a1 : Int) : Option (Bool × ByteArray × ByteArray) := (gussetref02_Of.f a0).bind fun bt206 => ((gussetref02_Of.f a1).bind fun bt208 => ((gussetref03_Lowest.f bt206.1 bt206.2 bt208.1 bt208.2).bind fun bt210 => (some (bt210.1, bt210.2.1, bt210.2.2))))
set_option maxHeartbeats 8000000 in
set_option maxRecDepth 100000 in
theorem gussetref03_Frac.calls (a0 : Int) (a1 : Int) (r1 : Bool) (r2 : ByteArray) (r3 : ByteArray) (w : World) (h : gussetref03_Frac.f a0 a1 = some (r1, r2, r3)) :
  Calls Tryz.prog 45 #[.int .i64 a0, .int .i64 a1] w fun e w' => e = .returned (.agg #[.bool r1, .string r2, .string r3]) ∧ Below w.heap.size w w' := by
 have hu27 := Tryz.underlying27
 have HB := Aside0.mk (Below.refl w.heap.size w)
 unfold gussetref03_Frac.f at h; have H := h; clear h
 obtain ⟨⟨t206, t207⟩, A3, H⟩ := zo H; try dsimp only at H
 obtain ⟨⟨t208, t209⟩, A4, H⟩ := zo H; try dsimp only at H
 obtain ⟨⟨t210, t211, t212⟩, A5, H⟩ := zo H; try dsimp only at H
 simp only [Option.some.injEq, Prod.mk.injEq] at H
 obtain ⟨rfl, rfl, rfl⟩ := H
 go_enter Tryz.func45, Tryz.ntmps45
 go_wp2_with (first | ((with_reducible refine gate_dst (N := 4) rfl ?_); refine zY 4 #[.bool false, .string (⟨#[]⟩ : ByteArray), .string (⟨#[]⟩ : ByteArray)] 27 ?_; intro gb205 hg w6 hbox hb; have BK205 := Aside0.mk (hbox); have GW205 := zG hg HB; have GE205 := zG hg HB; replace HB := zS HB hb; clear hb hbox hg) | ((with_reducible refine gate_callee (f := 23) rfl ?_); refine zO Tryz.func23 (by kernel_rfl) (gussetref02_Of.calls a0 t206 t207 _ A3.out) fun w7 hb => ?_; replace BK205 := zB BK205 hb; replace HB := zS HB hb; (try clear hb)) | ((with_reducible refine gate_callee (f := 23) rfl ?_); refine zO Tryz.func23 (by kernel_rfl) (gussetref02_Of.calls a1 t208 t209 _ A4.out) fun w8 hb => ?_; replace BK205 := zB BK205 hb; replace HB := zS HB hb; (try clear hb)) | ((with_reducible refine gate_callee (f := 16) rfl ?_); refine zO Tryz.func16 (by kernel_rfl) (gussetref03_Lowest.calls t206 t207 t208 t209 t210 t211 t212 _ A5.out) fun w9 hb => ?_; replace BK205 := zB BK205 hb; replace HB := zS HB hb; (try clear hb); obtain ⟨hcz10_0, hcz10_1, hcz10_2, hfz10_0, hfz10_1, hfz10_2⟩ := z3 BK205))
 refine bodyPost_ret (results_cell_row rfl _ _ gb205 27 #[.bool t210, .string t211, .string t212] (0, 0) _ rfl (by (with_reducible repeat (first | refine blk_drewN ?_ _ | refine blk_drew ?_ | refine blk_alloc ?_ _)); refine zP (cs := #[.bool t210, .string t211, .string (⟨#[]⟩ : ByteArray)]) ?_ 2 _; (with_reducible repeat (first | refine blk_drewN ?_ _ | refine blk_drew ?_ | refine blk_alloc ?_ _)); refine zP (cs := #[.bool t210, .string (⟨#[]⟩ : ByteArray), .string (⟨#[]⟩ : ByteArray)]) ?_ 1 _; (with_reducible repeat (first | refine blk_drewN ?_ _ | refine blk_drew ?_ | refine blk_alloc ?_ _)); refine zP (cs := #[.bool false, .string (⟨#[]⟩ : ByteArray), .string (⟨#[]⟩ : ByteArray)]) ?_ 0 _; (with_reducible repeat (first | refine blk_drewN ?_ _ | refine blk_drew ?_ | refine blk_alloc ?_ _)); exact BK205.out) Tryz.underlying27 rfl (by kernel_rfl)) rfl ?_
 exact ⟨zH, zT HB⟩


attribute [local go_sem high] eqA27
/-! ### gussetlaw03_live: function 13 -/
def gussetlaw03_live.f (k : Nat)  : Option (Bool) := (gussetref02_Of.f 6).bind fun bt213 => ((gussetref02_Of.f (-4)).bind fun bt215 => ((rat_Make.f k bt213.1 bt213.2 bt215.1 bt215.2).bind fun bt217 => ((rat_Decimal.f k bt217.1 bt217.2.1 bt217.2.2.1 0).bind fun bt222 => ((rat_Print.f k bt217.1 bt217.2.1 bt217.2.2.1).bind fun bt224 => ((rat_Of.f 0).bind fun bt226 => ((rat_Div.f k bt217.1 bt217.2.1 bt217.2.2.1 bt226.1 bt226.2.1 bt226.2.2).bind fun bt229 => ((gussetref03_Frac.f (-3) 2).bind fun bt234 => (if ((bt217.1 == bt234.1 && (bt217.2.1.toList == bt234.2.1.toList)) && (bt217.2.2.1.toList == bt234.2.2.toList)) = true then (if bt217.2.2.2 = 0 then (if bt222.1.toList = ([45, 50] : List UInt8) then (if bt222.2 = 0 then (if bt224.1.toList = ([45, 51, 47, 50] : List UInt8) then (if bt224.2 = 0 then (some (bt229.2.2.2 == 3)) else (none)) else (none)) else (none)) else (none)) else (none)) else (none)))))))))
def gussetlaw03_live.T4 : Bool × List (List Nat × List Nat) := (true, [([], []), ([], []), ([0, 1, 1], [0, 1]), ([2], [2]), ([3], [3]), ([3], [3]), ([], []), ([6, 4, 2, 0, 1, 2, 3, 4, 6], [4, 6]), ([5, 7, 0, 1, 2, 3, 4, 5, 6, 7], [5])])
def gussetlaw03_live.B4 : List Nat := [0, 0, 3, 7, 15, 15, 0, 95, 255]
theorem gussetlaw03_live.tab4 : rtab .any (opsOf Tryz.f13 4) = gussetlaw03_live.T4 := by kernel_rfl
theorem gussetlaw03_live.bits4 : waitsOk gussetlaw03_live.T4.2 gussetlaw03_live.B4 = true := by kernel_rfl
def gussetlaw03_live.T5 : Bool × List (List Nat × List Nat) := (true, [([], []), ([], []), ([0, 1], [0, 1]), ([2, 1], [2]), ([3], [3]), ([4, 3], [3, 4]), ([3, 5], [3, 5]), ([6, 3], [6]), ([7], [7]), ([8, 7], [7, 8]), ([7, 9], [7, 9]), ([10, 7], [10]), ([11], [11]), ([12, 11], [11, 12]), ([11, 13], [11, 13]), ([14, 11], [14]), ([15], [15]), ([16, 15], [15, 16]), ([15, 17], [15, 17]), ([18, 15], [18]), ([19], [19]), ([20, 19], [19, 20]), ([19, 21], [19, 21]), ([22, 19], [22]), ([23], [23]), ([24, 23], [23, 24]), ([23, 25], [23, 25]), ([26, 23, 0, 1, 2, 3, 4, 5, 6, 7, 8, 9, 10, 11, 12, 13, 14, 15, 16, 17, 18, 19, 20, 21, 22, 23, 24, 25, 26], [26])])
def gussetlaw03_live.B5 : List Nat := [0, 0, 3, 7, 15, 31, 63, 127, 255, 511, 1023, 2047, 4095, 8191, 16383, 32767, 65535, 131071, 262143, 524287, 1048575, 2097151, 4194303, 8388607, 16777215, 33554431, 67108863, 134217727]
theorem gussetlaw03_live.tab5 : rtab .any (opsOf Tryz.f13 5) = gussetlaw03_live.T5 := by kernel_rfl
theorem gussetlaw03_live.bits5 : waitsOk gussetlaw03_live.T5.2 gussetlaw03_live.B5 = true := by kernel_rfl
set_option maxHeartbeats 8000000 in
set_option maxRecDepth 100000 in
theorem gussetlaw03_live.calls (k : Nat)  (r : Bool) (w : World) (h : gussetlaw03_live.f k  = some r) :
  Calls Tryz.prog 13 #[] w fun e w' => e = .returned (.bool r) ∧ Below w.heap.size w w' := by
 have hu27 := Tryz.underlying27
 have HB := Aside0.mk (Below.refl w.heap.size w)
 unfold gussetlaw03_live.f at h; have H := h; clear h
 obtain ⟨⟨t213, t214⟩, A1, H⟩ := zo H; try dsimp only at H
 obtain ⟨⟨t215, t216⟩, A2, H⟩ := zo H; try dsimp only at H
 obtain ⟨⟨t217, t218, t219, t220⟩, A3, H⟩ := zo H; try dsimp only at H
 obtain ⟨⟨t222, t223⟩, A4, H⟩ := zo H; try dsimp only at H
 obtain ⟨⟨t224, t225⟩, A5, H⟩ := zo H; try dsimp only at H
 obtain ⟨⟨t226, t227, t228⟩, A6, H⟩ := zo H; try dsimp only at H
 obtain ⟨⟨t229, t230, t231, t232⟩, A7, H⟩ := zo H; try dsimp only at H
 obtain ⟨⟨t234, t235, t236⟩, A8, H⟩ := zo H; try dsimp only at H
 by_cases c9 : ((t217 == t234 && (t218.toList == t235.toList)) && (t219.toList == t236.toList)) = true
 ·rw [if_pos c9] at H
  have c9b0 : ((t217 == t234 && (t218.toList == t235.toList)) && (t219.toList == t236.toList)) = true := c9
  clear c9
  by_cases c10 : t220 = 0
  ·rw [if_pos c10] at H
   have c10b0 := beq_iff_eq.mpr c10
   have c10b1 := bne_eq_false_iff_eq.mpr c10
   clear c10
   by_cases c11 : t222.toList = ([45, 50] : List UInt8)
   ·rw [if_pos c11] at H
    have c11b0 := beq_iff_eq.mpr c11
    have c11b1 := bne_eq_false_iff_eq.mpr c11
    clear c11
    by_cases c12 : t223 = 0
    ·rw [if_pos c12] at H
     have c12b0 := beq_iff_eq.mpr c12
     have c12b1 := bne_eq_false_iff_eq.mpr c12
     clear c12
     by_cases c13 : t224.toList = ([45, 51, 47, 50] : List UInt8)
     ·rw [if_pos c13] at H
      have c13b0 := beq_iff_eq.mpr c13
      have c13b1 := bne_eq_false_iff_eq.mpr c13
      clear c13
      by_cases c14 : t225 = 0
      ·rw [if_pos c14] at H
       have c14b0 := beq_iff_eq.mpr c14
       have c14b1 := bne_eq_false_iff_eq.mpr c14
       clear c14
       obtain rfl := Option.some.inj H
       go_enter Tryz.func13, Tryz.ntmps13
       try go_wp2_with (first | ((with_reducible refine gate_callee (f := 23) rfl ?_); refine zO Tryz.func23 (by kernel_rfl) (gussetref02_Of.calls 6 t213 t214 _ A1.out) fun w15 hb => ?_; replace HB := zS HB hb; (try clear hb)) | ((with_reducible refine gate_callee (f := 23) rfl ?_); refine zO Tryz.func23 (by kernel_rfl) (gussetref02_Of.calls (-4) t215 t216 _ A2.out) fun w16 hb => ?_; replace HB := zS HB hb; (try clear hb)) | ((with_reducible refine gate_callee (f := 14) rfl ?_); refine zO Tryz.func14 (by kernel_rfl) (rat_Make.calls k t213 t214 t215 t216 t217 t218 t219 t220 _ A3.out) fun w17 hb => ?_; replace HB := zS HB hb; (try clear hb)) | ((with_reducible refine gate_dst (N := 1) rfl ?_); refine zY 1 #[.bool false, .string (⟨#[]⟩ : ByteArray), .string (⟨#[]⟩ : ByteArray)] 27 ?_; intro gb221 hg w18 hbox hb; have BK221 := Aside0.mk (hbox); have GW221 := zG hg HB; have GE221 := zG hg HB; replace HB := zS HB hb; clear hb hbox hg; obtain ⟨hcz19_0, hcz19_1, hcz19_2, hfz19_0, hfz19_1, hfz19_2⟩ := z3 BK221) | ((with_reducible refine gate_callee (f := 20) rfl ?_); refine zO Tryz.func20 (by kernel_rfl) (rat_Decimal.calls k t217 t218 t219 0 t222 t223 _ A4.out) fun w20 hb => ?_; replace BK221 := Aside0.mk (blk_below (g := gb221) (o := .cells #[.bool t217, .string t218, .string t219] 27 (0, 0)) (by (with_reducible repeat (first | refine blk_drewN ?_ _ | refine blk_drew ?_ | refine blk_alloc ?_ _)); refine zP (cs := #[.bool t217, .string t218, .string (⟨#[]⟩ : ByteArray)]) ?_ 2 _; (with_reducible repeat (first | refine blk_drewN ?_ _ | refine blk_drew ?_ | refine blk_alloc ?_ _)); refine zP (cs := #[.bool t217, .string (⟨#[]⟩ : ByteArray), .string (⟨#[]⟩ : ByteArray)]) ?_ 1 _; (with_reducible repeat (first | refine blk_drewN ?_ _ | refine blk_drew ?_ | refine blk_alloc ?_ _)); refine zP (cs := #[.bool false, .string (⟨#[]⟩ : ByteArray), .string (⟨#[]⟩ : ByteArray)]) ?_ 0 _; (with_reducible repeat (first | refine blk_drewN ?_ _ | refine blk_drew ?_ | refine blk_alloc ?_ _)); exact BK221.out) hb); replace HB := zS HB hb; (try clear hb); obtain ⟨hcz21_0, hcz21_1, hcz21_2, hfz21_0, hfz21_1, hfz21_2⟩ := z3 BK221) | ((with_reducible refine gate_callee (f := 40) rfl ?_); refine zO Tryz.func40 (by kernel_rfl) (rat_Print.calls k t217 t218 t219 t224 t225 _ A5.out) fun w22 hb => ?_; replace BK221 := zB BK221 hb; replace HB := zS HB hb; (try clear hb)))
       replace BK221 := zD BK221; replace HB := zF HB
       refine start_ (n := 9) (S := fun w' => w'.cell? ⟨gb221, 0, none⟩ = some (.bool t217) ∧ w'.cell? ⟨gb221, 1, none⟩ = some (.string t218) ∧ w'.cell? ⟨gb221, 2, none⟩ = some (.string t219)) (ds := []) (zb 9 0) (by kernel_rfl) rfl rfl ⟨zc BK221 0, zc BK221 1, zc BK221 2⟩ (fun hHeld => ?_); refine with_tabW gussetlaw03_live.tab4 gussetlaw03_live.bits4 (fun HT_ HW_ => ?_)
       generalize w22.drew = w23 at BK221 HB hHeld ⊢
       refine zV (i := 0) (N := some 26) (zb 9 1) (take_ofW HT_.out HW_.out (by kernel_rfl)) hHeld ?_
       refine join_ (σ := Nat) 2 (zb 9 127) (fun s_ => [(27, .agg #[.bool t226, .string t227, .string t228]), (28, .tuple #[.agg #[.bool t229, .string t230, .string t231], .int .i64 t232]), (7, .pointer (some ⟨s_, 0, none⟩)), (25, .tuple #[.agg #[.bool t229, .string t230, .string t231], .int .i64 t232]), (29, .agg #[.bool t229, .string t230, .string t231]), (30, .int .i64 t232)]) (fun s_ w' => (w'.cell? ⟨gb221, 0, none⟩ = some (.bool t217) ∧ w'.cell? ⟨gb221, 1, none⟩ = some (.string t218) ∧ w'.cell? ⟨gb221, 2, none⟩ = some (.string t219)) ∧ (w'.heap[gb221]? = some (.cells #[.bool t217, .string t218, .string t219] 27 (0, 0))) ∧ (w'.heap[s_]? = some (.cells #[.bool false, .string (⟨#[]⟩ : ByteArray), .string (⟨#[]⟩ : ByteArray)] 27 (0, 0))) ∧ (w.heap.size ≤ s_) ∧ (w.heap.size ≤ s_) ∧ (gb221 ≠ s_) ∧ (s_ ≠ gb221) ∧ (Below w.heap.size w w')) ?_ ?_
       rotate_left
       ·intro hCont
        refine two_ (i := 1) (j := 6) (Ni := some 27) (Nj := some 7) (zb 9 3) (zb 9 65) rfl rfl rfl rfl (two_of HT_.out (by kernel_rfl)) (by decide) (by decide) (fun K hK => ?_) (fun K hK => ?_)
        ·skip
         refine zJ Tryz.func17 (by kernel_rfl) (rat_Of.calls 0 t226 t227 t228 _ A6.out) fun w24 hb => ?_
         replace BK221 := zB BK221 hb; replace HB := zS HB hb
         (try clear hb)
         refine hK.out _ _ ⟨zc BK221 0, zc BK221 1, zc BK221 2⟩ (fun hHeld => ?_)
         clear hK K
         refine zW (some 27) ?_
         refine two_ (i := 2) (j := 6) (Ni := some 28) (Nj := some 7) (zb 9 7) (zb 9 67) rfl rfl rfl rfl (two_of HT_.out (by kernel_rfl)) (by decide) (by decide) (fun K hK => ?_) (fun K hK => ?_)
         ·skip
          refine zJ Tryz.func29 (by kernel_rfl) (rat_Div.calls k t217 t218 t219 t226 t227 t228 t229 t230 t231 t232 _ A7.out) fun w25 hb => ?_
          replace BK221 := zB BK221 hb; replace HB := zS HB hb
          (try clear hb)
          refine hK.out _ _ ⟨zc BK221 0, zc BK221 1, zc BK221 2⟩ (fun hHeld => ?_)
          clear hK K
          refine zW (some 28) ?_
          refine zU (i := 3) (N := some 25) (zb 9 15) (any_of HT_.out (by kernel_rfl)) ?_
          refine zU (i := 4) (N := some 29) (zb 9 31) (any_of HT_.out (by kernel_rfl)) ?_
          refine zU (i := 5) (N := some 30) (zb 9 63) (any_of HT_.out (by kernel_rfl)) ?_
          refine one_ (i := 6) (N := some 7) (zb 9 127) rfl rfl (one_of HT_.out (by kernel_rfl)) (by decide) (fun K hK => ?_)
          refine box_step ?hg (N := 7) ?hd (cs := #[.bool false, .string (⟨#[]⟩ : ByteArray), .string (⟨#[]⟩ : ByteArray)]) (t := 27) ?hr ?_; (case hd => rfl); (case hg => rfl); (case hr => first | (go_simp; done) | (go_simp; rfl))
          intro gb233 hg w26 hbox hb
          have BK233 := Aside0.mk (hbox); have GW233 := zG hg HB; have GE233 := zG hg HB; obtain ⟨NB221_233, NB233_221⟩ := zQ hg BK221; replace BK221 := zB BK221 hb; replace HB := zS HB hb; clear hb hbox hg
          refine hK.out _ _ ⟨zc BK221 0, zc BK221 1, zc BK221 2⟩ (fun hHeld => ?_)
          clear hK K
          refine zW (some 7) ?_
          exact norm_ (by simp only [putAll, Act.put, List.setIfInBounds_toArray, List.set_cons_zero, List.set_cons_succ]) (hCont (gb233) _ ⟨hHeld, (zK BK221).out, (zK BK233).out, GW233.out, GE233.out, NB221_233.out, NB233_221.out, (zT HB)⟩)
         ·skip
          refine box_step ?hg (N := 7) ?hd (cs := #[.bool false, .string (⟨#[]⟩ : ByteArray), .string (⟨#[]⟩ : ByteArray)]) (t := 27) ?hr ?_; (case hd => rfl); (case hg => rfl); (case hr => first | (go_simp; done) | (go_simp; rfl))
          intro gb233 hg w25 hbox hb
          have BK233 := Aside0.mk (hbox); have GW233 := zG hg HB; have GE233 := zG hg HB; obtain ⟨NB221_233, NB233_221⟩ := zQ hg BK221; replace BK221 := zB BK221 hb; replace HB := zS HB hb; clear hb hbox hg
          refine hK.out _ _ ⟨zc BK221 0, zc BK221 1, zc BK221 2⟩ (fun hHeld => ?_)
          clear hK K
          refine zW (some 7) ?_
          refine one_ (i := 2) (N := some 28) (zb 9 71) rfl rfl (one_of HT_.out (by kernel_rfl)) (by decide) (fun K hK => ?_)
          refine zJ Tryz.func29 (by kernel_rfl) (rat_Div.calls k t217 t218 t219 t226 t227 t228 t229 t230 t231 t232 _ A7.out) fun w26 hb => ?_
          obtain ⟨BK221, BK233⟩ := zB2 BK221 BK233 hb; replace HB := zS HB hb
          (try clear hb)
          refine hK.out _ _ ⟨zc BK221 0, zc BK221 1, zc BK221 2⟩ (fun hHeld => ?_)
          clear hK K
          refine zW (some 28) ?_
          refine zU (i := 3) (N := some 25) (zb 9 79) (any_of HT_.out (by kernel_rfl)) ?_
          refine zU (i := 4) (N := some 29) (zb 9 95) (any_of HT_.out (by kernel_rfl)) ?_
          refine zU (i := 5) (N := some 30) (zb 9 127) (any_of HT_.out (by kernel_rfl)) ?_
          exact norm_ (by simp only [putAll, Act.put, List.setIfInBounds_toArray, List.set_cons_zero, List.set_cons_succ]) (hCont (gb233) _ ⟨hHeld, (zK BK221).out, (zK BK233).out, GW233.out, GE233.out, NB221_233.out, NB233_221.out, (zT HB)⟩)
        ·skip
         refine box_step ?hg (N := 7) ?hd (cs := #[.bool false, .string (⟨#[]⟩ : ByteArray), .string (⟨#[]⟩ : ByteArray)]) (t := 27) ?hr ?_; (case hd => rfl); (case hg => rfl); (case hr => first | (go_simp; done) | (go_simp; rfl))
         intro gb233 hg w24 hbox hb
         have BK233 := Aside0.mk (hbox); have GW233 := zG hg HB; have GE233 := zG hg HB; obtain ⟨NB221_233, NB233_221⟩ := zQ hg BK221; replace BK221 := zB BK221 hb; replace HB := zS HB hb; clear hb hbox hg
         refine hK.out _ _ ⟨zc BK221 0, zc BK221 1, zc BK221 2⟩ (fun hHeld => ?_)
         clear hK K
         refine zW (some 7) ?_
         refine one_ (i := 1) (N := some 27) (zb 9 67) rfl rfl (one_of HT_.out (by kernel_rfl)) (by decide) (fun K hK => ?_)
         refine zJ Tryz.func17 (by kernel_rfl) (rat_Of.calls 0 t226 t227 t228 _ A6.out) fun w25 hb => ?_
         obtain ⟨BK221, BK233⟩ := zB2 BK221 BK233 hb; replace HB := zS HB hb
         (try clear hb)
         refine hK.out _ _ ⟨zc BK221 0, zc BK221 1, zc BK221 2⟩ (fun hHeld => ?_)
         clear hK K
         refine zW (some 27) ?_
         refine one_ (i := 2) (N := some 28) (zb 9 71) rfl rfl (one_of HT_.out (by kernel_rfl)) (by decide) (fun K hK => ?_)
         refine zJ Tryz.func29 (by kernel_rfl) (rat_Div.calls k t217 t218 t219 t226 t227 t228 t229 t230 t231 t232 _ A7.out) fun w26 hb => ?_
         obtain ⟨BK221, BK233⟩ := zB2 BK221 BK233 hb; replace HB := zS HB hb
         (try clear hb)
         refine hK.out _ _ ⟨zc BK221 0, zc BK221 1, zc BK221 2⟩ (fun hHeld => ?_)
         clear hK K
         refine zW (some 28) ?_
         refine zU (i := 3) (N := some 25) (zb 9 79) (any_of HT_.out (by kernel_rfl)) ?_
         refine zU (i := 4) (N := some 29) (zb 9 95) (any_of HT_.out (by kernel_rfl)) ?_
         refine zU (i := 5) (N := some 30) (zb 9 127) (any_of HT_.out (by kernel_rfl)) ?_
         exact norm_ (by simp only [putAll, Act.put, List.setIfInBounds_toArray, List.set_cons_zero, List.set_cons_succ]) (hCont (gb233) _ ⟨hHeld, (zK BK221).out, (zK BK233).out, GW233.out, GE233.out, NB221_233.out, NB233_221.out, (zT HB)⟩)
       rintro gb233 w27 ⟨hS_, h0_, h1_, h2_, h3_, h4_, h5_, h6_⟩
       replace BK221 := Aside0.mk h0_; have BK233 := Aside0.mk h1_; have GW233 := Aside0.mk h2_; have GE233 := Aside0.mk h3_; have NB221_233 := Aside0.mk h4_; have NB233_221 := Aside0.mk h5_; replace HB := Aside0.mk h6_; clear h0_ h1_ h2_ h3_ h4_ h5_ h6_
       have hHeld := hS_
       refine norm_ (a' := ?_) ?_ ?_
       rotate_left
       ·simp only [putAll, Act.put, List.setIfInBounds_toArray, List.set_cons_zero, List.set_cons_succ]
        rfl
       refine one_ (i := 7) (N := none) (zb 9 255) rfl rfl (one_of HT_.out (by kernel_rfl)) (by decide) (fun K hK => ?_)
       have hs28 : w27.cell? ⟨gb233, 0, none⟩ = some (.bool false) := zc BK233 0
       have hfs28 := blk_frozen BK233.out 0
       have hns28_0 := NB221_233.out
       have hms28_0 := NB233_221.out
       have hs29 : w27.cell? ⟨gb233, 1, none⟩ = some (.string (⟨#[]⟩ : ByteArray)) := zc BK233 1
       have hfs29 := blk_frozen BK233.out 1
       have hns29_0 := NB221_233.out
       have hms29_0 := NB233_221.out
       have hs30 : w27.cell? ⟨gb233, 2, none⟩ = some (.string (⟨#[]⟩ : ByteArray)) := zc BK233 2
       have hfs30 := blk_frozen BK233.out 2
       have hns30_0 := NB221_233.out
       have hms30_0 := NB233_221.out
       refine skip_ (w1 := ?_) (by rfl) rfl ?_ ?_
       rotate_left
       ·go_simp
        rfl
       refine hK.out _ _ ⟨((cell_far (p := ⟨gb233, _, none⟩) NB221_233.out _).trans (((cell_far (p := ⟨gb233, _, none⟩) NB221_233.out _).trans (((cell_far (p := ⟨gb233, _, none⟩) NB221_233.out _).trans (hHeld.1)))))), ((cell_far (p := ⟨gb233, _, none⟩) NB221_233.out _).trans (((cell_far (p := ⟨gb233, _, none⟩) NB221_233.out _).trans (((cell_far (p := ⟨gb233, _, none⟩) NB221_233.out _).trans (hHeld.2.1)))))), ((cell_far (p := ⟨gb233, _, none⟩) NB221_233.out _).trans (((cell_far (p := ⟨gb233, _, none⟩) NB221_233.out _).trans (((cell_far (p := ⟨gb233, _, none⟩) NB221_233.out _).trans (hHeld.2.2))))))⟩ (fun hHeld => ?_)
       clear hK K
       refine zU (i := 8) (N := some 8) (zb 9 511) (any_of HT_.out (by kernel_rfl)) ?_
       refine done_ (done_of HT_.out (by kernel_rfl)) ?_
       try go_wp2
       have n0_ : Aside0 ((((w27.setCell ⟨gb233, 0, none⟩ (.bool t229)).setCell ⟨gb233, 1, none⟩ (.string t230)).setCell ⟨gb233, 2, none⟩ (.string t231)).heap[gb221]? = some (.cells #[.bool t217, .string t218, .string t219] 27 (0, 0))) := zK BK221; have n1_ : Aside0 ((((w27.setCell ⟨gb233, 0, none⟩ (.bool t229)).setCell ⟨gb233, 1, none⟩ (.string t230)).setCell ⟨gb233, 2, none⟩ (.string t231)).heap[gb233]? = some (.cells #[.bool t229, .string t230, .string t231] 27 (0, 0))) := ⟨by (with_reducible repeat (first | refine blk_drewN ?_ _ | refine blk_drew ?_ | refine blk_alloc ?_ _)); refine zP (cs := #[.bool t229, .string t230, .string (⟨#[]⟩ : ByteArray)]) ?_ 2 _; (with_reducible repeat (first | refine blk_drewN ?_ _ | refine blk_drew ?_ | refine blk_alloc ?_ _)); refine zP (cs := #[.bool t229, .string (⟨#[]⟩ : ByteArray), .string (⟨#[]⟩ : ByteArray)]) ?_ 1 _; (with_reducible repeat (first | refine blk_drewN ?_ _ | refine blk_drew ?_ | refine blk_alloc ?_ _)); refine zP (cs := #[.bool false, .string (⟨#[]⟩ : ByteArray), .string (⟨#[]⟩ : ByteArray)]) ?_ 0 _; (with_reducible repeat (first | refine blk_drewN ?_ _ | refine blk_drew ?_ | refine blk_alloc ?_ _)); exact BK233.out⟩; have n2_ : Aside0 (Below w.heap.size w (((w27.setCell ⟨gb233, 0, none⟩ (.bool t229)).setCell ⟨gb233, 1, none⟩ (.string t230)).setCell ⟨gb233, 2, none⟩ (.string t231))) := ⟨zT HB⟩
       (try clear BK221)
       (try clear BK233)
       (try clear HB)
       generalize (((w27.setCell ⟨gb233, 0, none⟩ (.bool t229)).setCell ⟨gb233, 1, none⟩ (.string t230)).setCell ⟨gb233, 2, none⟩ (.string t231)) = w31 at n0_ n1_ n2_ ⊢
       have BK221 := n0_; have BK233 := n1_
       have HB := n2_; clear n0_ n1_ n2_
       replace BK221 := zD BK221; replace BK233 := zD BK233; replace HB := zF HB
       refine start_ (n := 28) (S := fun w' => w'.cell? ⟨gb221, 0, none⟩ = some (.bool t217) ∧ w'.cell? ⟨gb221, 1, none⟩ = some (.string t218) ∧ w'.cell? ⟨gb221, 2, none⟩ = some (.string t219)) (ds := []) (zb 28 0) (by kernel_rfl) rfl rfl ⟨zc BK221 0, zc BK221 1, zc BK221 2⟩ (fun hHeld => ?_); refine with_tabW gussetlaw03_live.tab5 gussetlaw03_live.bits5 (fun HT_ HW_ => ?_)
       generalize w31.drew = w32 at BK221 BK233 HB hHeld ⊢
       refine zV (i := 0) (N := some 31) (zb 28 1) (take_ofW HT_.out HW_.out (by kernel_rfl)) hHeld ?_
       refine one_ (i := 1) (N := some 32) (zb 28 3) rfl rfl (one_of HT_.out (by kernel_rfl)) (by decide) (fun K hK => ?_)
       refine zJ Tryz.func45 (by kernel_rfl) (gussetref03_Frac.calls (-3) 2 t234 t235 t236 _ A8.out) fun w33 hb => ?_
       obtain ⟨BK221, BK233⟩ := zB2 BK221 BK233 hb; replace HB := zS HB hb
       (try clear hb)
       refine hK.out _ _ ⟨zc BK221 0, zc BK221 1, zc BK221 2⟩ (fun hHeld => ?_)
       clear hK K
       refine zW (some 32) ?_
       refine zU (i := 2) (N := some 33) (zb 28 7) (any_of HT_.out (by kernel_rfl)) ?_
       refine zU (i := 3) (N := some 34) (zb 28 15) (any_of HT_.out (by kernel_rfl)) ?_
       refine zU (i := 4) (N := some 35) (zb 28 31) (any_of HT_.out (by kernel_rfl)) ?_
       refine zU (i := 5) (N := some 36) (zb 28 63) (any_of HT_.out (by kernel_rfl)) ?_
       refine zU (i := 6) (N := some 37) (zb 28 127) (any_of HT_.out (by kernel_rfl)) ?_
       refine zU (i := 7) (N := some 38) (zb 28 255) (any_of HT_.out (by kernel_rfl)) ?_
       refine zU (i := 8) (N := some 39) (zb 28 511) (any_of HT_.out (by kernel_rfl)) ?_
       refine zU (i := 9) (N := some 40) (zb 28 1023) (any_of HT_.out (by kernel_rfl)) ?_
       refine zU (i := 10) (N := some 41) (zb 28 2047) (any_of HT_.out (by kernel_rfl)) ?_
       refine zU (i := 11) (N := some 42) (zb 28 4095) (any_of HT_.out (by kernel_rfl)) ?_
       refine zU (i := 12) (N := some 43) (zb 28 8191) (any_of HT_.out (by kernel_rfl)) ?_
       refine zU (i := 13) (N := some 44) (zb 28 16383) (any_of HT_.out (by kernel_rfl)) ?_
       refine zU (i := 14) (N := some 45) (zb 28 32767) (any_of HT_.out (by kernel_rfl)) ?_
       refine zU (i := 15) (N := some 46) (zb 28 65535) (any_of HT_.out (by kernel_rfl)) ?_
       refine zU (i := 16) (N := some 47) (zb 28 131071) (any_of HT_.out (by kernel_rfl)) ?_
       refine zU (i := 17) (N := some 48) (zb 28 262143) (any_of HT_.out (by kernel_rfl)) ?_
       refine zU (i := 18) (N := some 49) (zb 28 524287) (any_of HT_.out (by kernel_rfl)) ?_
       refine zU (i := 19) (N := some 50) (zb 28 1048575) (any_of HT_.out (by kernel_rfl)) ?_
       refine zU (i := 20) (N := some 51) (zb 28 2097151) (any_of HT_.out (by kernel_rfl)) ?_
       refine zU (i := 21) (N := some 52) (zb 28 4194303) (any_of HT_.out (by kernel_rfl)) ?_
       refine zU (i := 22) (N := some 53) (zb 28 8388607) (any_of HT_.out (by kernel_rfl)) ?_
       refine zU (i := 23) (N := some 54) (zb 28 16777215) (any_of HT_.out (by kernel_rfl)) ?_
       refine zU (i := 24) (N := some 55) (zb 28 33554431) (any_of HT_.out (by kernel_rfl)) ?_
       refine zU (i := 25) (N := some 56) (zb 28 67108863) (any_of HT_.out (by kernel_rfl)) ?_
       refine zU (i := 26) (N := some 57) (zb 28 134217727) (any_of HT_.out (by kernel_rfl)) ?_
       refine zU (i := 27) (N := some 0) (zb 28 268435455) (any_of HT_.out (by kernel_rfl)) ?_
       refine done_ (done_of HT_.out (by kernel_rfl)) ?_
       try go_wp2
       go_ret
       exact ⟨zH, zT HB⟩
      ·rw [if_neg c14] at H
       have c14b0 := beq_eq_false_iff_ne.mpr c14
       have c14b1 := bne_iff_ne.mpr c14
       exact absurd H (by simp)
     ·rw [if_neg c13] at H
      have c13b0 := beq_eq_false_iff_ne.mpr c13
      have c13b1 := bne_iff_ne.mpr c13
      exact absurd H (by simp)
    ·rw [if_neg c12] at H
     have c12b0 := beq_eq_false_iff_ne.mpr c12
     have c12b1 := bne_iff_ne.mpr c12
     exact absurd H (by simp)
   ·rw [if_neg c11] at H
    have c11b0 := beq_eq_false_iff_ne.mpr c11
    have c11b1 := bne_iff_ne.mpr c11
    exact absurd H (by simp)
  ·rw [if_neg c10] at H
   have c10b0 := beq_eq_false_iff_ne.mpr c10
   have c10b1 := bne_iff_ne.mpr c10
   exact absurd H (by simp)
 ·rw [if_neg c9] at H
  have c9b0 : ((t217 == t234 && (t218.toList == t235.toList)) && (t219.toList == t236.toList)) = false := by simpa using c9
  clear c9
  exact absurd H (by simp)

end Go.Proofs.YtoijlbcbbblbfaaGreatDoorH.R
