import Derived.Test.YtoijlbcbbblbfaaGreatDoorZzG0x0
import Derived.Test.YtoijlbcbbblbfaaGreatDoorZzG0x1
import Derived.Test.YtoijlbcbbblbfaaGreatDoorZzV1
-- printed by hp.py, sq3
namespace Go.Proofs.YtoijlbcbbblbfaaGreatDoorH.R
open Go.RowKit Go.Proofs.YtoijlbcbbblbfaaGreatDoorH.Z Go.Proofs.YtoijlbcbbblbfaaGreatDoorW.PrintWords Go.Proofs.YtoijlbcbbblbfaaGreatDoorW.PrintLast Go.Proofs.YtoijlbcbbblbfaaGreatDoorW.PrintMore
attribute [local go_sem] max2_int min2_int max_two min_two max_three min_three max_four min_four   -- for this text's walks alone
set_option linter.unusedVariables false
set_option linter.unusedSimpArgs false

/-! ### rat_over_gen: function 73 -/
def rat_over_gen.j0 (F : Bool → ByteArray → Bool → ByteArray → Option (Bool × ByteArray)) : Nat → Bool → Bool → ByteArray → ByteArray → Bool → ByteArray → ByteArray → Option (Bool × ByteArray × ByteArray × Int)
 | 0, _, _, _, _, _, _, _ => none
 | k + 1, x24, x467000, x467001, x467002, x468000, x468001, x468002 => if x24 = true then ((F x467000 x467001 x468000 x468001).bind fun bt470 => (some (bt470.1, bt470.2, (⟨#[1]⟩ : ByteArray), 0))) else ((rat_den.f x468000 x468001 x468002).bind fun bt472 => ((rat_do_of_whole_Mul.f x467000 x467001 bt472.1 bt472.2).bind fun bt474 => ((rat_den.f x467000 x467001 x467002).bind fun bt476 => ((rat_do_of_whole_Mul.f x468000 x468001 bt476.1 bt476.2).bind fun bt478 => ((F bt474.1 bt474.2 bt478.1 bt478.2).bind fun bt480 => ((rat_den.f x467000 x467001 x467002).bind fun bt483 => ((rat_den.f x468000 x468001 x468002).bind fun bt485 => ((rat_do_of_whole_Mul.f bt483.1 bt483.2 bt485.1 bt485.2).bind fun bt487 => ((rat_lowest.f k bt480.1 bt480.2 bt487.1 bt487.2).bind fun bt489 => (some (bt489.1, bt489.2.1, bt489.2.2, 0)))))))))))
def rat_over_gen.f (F : Bool → ByteArray → Bool → ByteArray → Option (Bool × ByteArray)) (k : Nat) (a0_0 : Bool) (a0_1 : ByteArray) (a0_2 : ByteArray) (a1_0 : Bool) (a1_1 : ByteArray) (a1_2 : ByteArray) : Option (Bool × ByteArray × ByteArray × Int) := (rat_both.f k a0_0 a0_1 a0_2 a1_0 a1_1 a1_2).bind fun t469 => (if t469 = 0 then (if a0_2.toList = ([1] : List UInt8) then (rat_over_gen.j0 F k (a1_2.toList == ([1] : List UInt8)) a0_0 a0_1 a0_2 a1_0 a1_1 a1_2) else (rat_over_gen.j0 F k false a0_0 a0_1 a0_2 a1_0 a1_1 a1_2)) else (some (false, (⟨#[]⟩ : ByteArray), (⟨#[]⟩ : ByteArray), t469)))
def rat_over_gen.T6 : Bool × List (List Nat × List Nat) := (true, [([], []), ([], []), ([1], [1]), ([], []), ([3], [3]), ([2, 4, 4], [2, 4]), ([], []), ([6], [6]), ([], []), ([8, 5], [8]), ([7, 9, 9], [7, 9]), ([0, 5, 10, 10], [0, 5, 10]), ([], []), ([12, 11, 11, 0, 1, 2, 3, 4, 5, 6, 7, 8, 9, 10, 11, 12], [11, 12])])
def rat_over_gen.B6 : List Nat := [0, 0, 2, 0, 8, 30, 0, 64, 0, 318, 1022, 2047, 0, 8191]
theorem rat_over_gen.tab6 : rtab .any (opsOf Tryz.f73 6) = rat_over_gen.T6 := by kernel_rfl
theorem rat_over_gen.bits6 : waitsOk rat_over_gen.T6.2 rat_over_gen.B6 = true := by kernel_rfl
def rat_over_gen.T7 : Bool × List (List Nat × List Nat) := (true, [([], []), ([], []), ([1], [1]), ([], []), ([3, 2], [3]), ([2, 4, 4], [2, 4]), ([0, 5, 5], [0, 5]), ([6, 6, 0, 1, 2, 3, 4, 5, 6], [6]), ([7, 0, 1, 2, 3, 4, 5, 6, 7], [])])
def rat_over_gen.B7 : List Nat := [0, 0, 2, 0, 14, 30, 63, 127, 255]
theorem rat_over_gen.tab7 : rtab .any (opsOf Tryz.f73 7) = rat_over_gen.T7 := by kernel_rfl
theorem rat_over_gen.bits7 : waitsOk rat_over_gen.T7.2 rat_over_gen.B7 = true := by kernel_rfl
set_option maxHeartbeats 8000000 in
set_option maxRecDepth 100000 in
theorem rat_over_gen.calls (G : Nat) (F : Bool → ByteArray → Bool → ByteArray → Option (Bool × ByteArray)) (hF : Aside0 (∀ (n : Bool) (s : ByteArray) (m : Bool) (t : ByteArray) (r1 : Bool) (r2 : ByteArray) (w : World), F n s m t = some (r1, r2) → Calls Tryz.prog 57 #[.func (.func G) #[] #[], .agg #[.bool n, .string s], .agg #[.bool m, .string t]] w fun e w' => e = .returned (.agg #[.bool r1, .string r2]) ∧ Below w.heap.size w w')) (k : Nat) (a0_0 : Bool) (a0_1 : ByteArray) (a0_2 : ByteArray) (a1_0 : Bool) (a1_1 : ByteArray) (a1_2 : ByteArray) (r1 : Bool) (r2 : ByteArray) (r3 : ByteArray) (r4 : Int) (w : World) (h : rat_over_gen.f F k a0_0 a0_1 a0_2 a1_0 a1_1 a1_2 = some (r1, r2, r3, r4)) :
  Calls Tryz.prog 73 #[.agg #[.bool a0_0, .string a0_1, .string a0_2], .agg #[.bool a1_0, .string a1_1, .string a1_2], .func (.func G) #[] #[]] w fun e w' => e = .returned (.tuple #[.agg #[.bool r1, .string r2, .string r3], .int .i64 r4]) ∧ Below w.heap.size w w' := by
 have hu27 := Tryz.underlying27
 have hu24 := Tryz.underlying24; have hf0 := zf240; have hf1 := zf241; have hf2 := zf270; have hf3 := zf271
 have HB := Aside0.mk (Below.refl w.heap.size w)
 unfold rat_over_gen.f at h; have H := h; clear h
 obtain ⟨t469, A3, H⟩ := zo H
 by_cases c4 : t469 = 0
 ·rw [if_pos c4] at H
  have c4b0 := beq_iff_eq.mpr c4
  have c4b1 := bne_eq_false_iff_eq.mpr c4
  clear c4
  have HC5 := Aside0.mk H
  clear H
  go_enter Tryz.func73, Tryz.ntmps73
  go_upto_region 4 with (first | ((with_reducible refine gate_dst (N := 3) rfl ?_); refine zY 3 #[.bool a0_0, .string a0_1, .string a0_2] 27 ?_; intro gb466 hg w6 hbox hb; have BK466 := Aside0.mk (hbox); have GW466 := zG hg HB; have GE466 := zG hg HB; replace HB := zS HB hb; clear hb hbox hg) | ((with_reducible refine gate_dst (N := 4) rfl ?_); refine zY 4 #[.bool a1_0, .string a1_1, .string a1_2] 27 ?_; intro gb467 hg w7 hbox hb; have BK467 := Aside0.mk (hbox); have GW467 := zG hg HB; have GE467 := zG hg HB; obtain ⟨NB466_467, NB467_466⟩ := zQ hg BK466; replace BK466 := zB BK466 hb; replace HB := zS HB hb; clear hb hbox hg) | ((with_reducible refine gate_dst (N := 6) rfl ?_); refine zY 6 #[.bool false, .string (⟨#[]⟩ : ByteArray), .string (⟨#[]⟩ : ByteArray)] 27 ?_; intro gb468 hg w8 hbox hb; have BK468 := Aside0.mk (hbox); have GW468 := zG hg HB; have GE468 := zG hg HB; obtain ⟨NB466_468, NB468_466⟩ := zQ hg BK466; obtain ⟨NB467_468, NB468_467⟩ := zQ hg BK467; obtain ⟨BK466, BK467⟩ := zB2 BK466 BK467 hb; replace HB := zS HB hb; clear hb hbox hg; have hnb9 := NB466_467.out; have hnc9 := NB467_466.out; have hnb10 := NB466_468.out; have hnc10 := NB468_466.out; obtain ⟨hcz11_0, hcz11_1, hcz11_2, hfz11_0, hfz11_1, hfz11_2⟩ := z3 BK466; have hnb12 := NB467_468.out; have hnc12 := NB468_467.out; obtain ⟨hcz13_0, hcz13_1, hcz13_2, hfz13_0, hfz13_1, hfz13_2⟩ := z3 BK467) | ((with_reducible refine gate_callee (f := 72) rfl ?_); refine zO Tryz.func72 (by kernel_rfl) (rat_both.calls k a0_0 a0_1 a0_2 a1_0 a1_1 a1_2 t469 _ A3.out) fun w14 hb => ?_; obtain ⟨BK466, BK467, BK468⟩ := zB3 BK466 BK467 BK468 hb; replace HB := zS HB hb; (try clear hb)))
  (try simp only [Act.put, List.setIfInBounds_toArray, List.set_cons_zero, List.set_cons_succ])
  go_cut [24] (fun v24 wc => ∃ (kq : Nat) (x24_4 : Bool), v24 = .bool x24_4 ∧ Aside0 (rat_over_gen.j0 F kq x24_4 a0_0 a0_1 a0_2 a1_0 a1_1 a1_2 = some (r1, r2, r3, r4)) ∧ Aside0 (kq ≤ k) ∧ Aside0 (wc.heap[gb466]? = some (.cells #[.bool a0_0, .string a0_1, .string a0_2] 27 (0, 0))) ∧ Aside0 (wc.heap[gb467]? = some (.cells #[.bool a1_0, .string a1_1, .string a1_2] 27 (0, 0))) ∧ Aside0 (wc.heap[gb468]? = some (.cells #[.bool false, .string (⟨#[]⟩ : ByteArray), .string (⟨#[]⟩ : ByteArray)] 27 (0, 0))) ∧ Aside0 (Below w.heap.size w wc))
  case first =>
   have H := HC5.out
   clear HC5
   by_cases c15 : a0_2.toList = ([1] : List UInt8)
   ·rw [if_pos c15] at H
    have c15b0 := beq_iff_eq.mpr c15
    have c15b1 := bne_eq_false_iff_eq.mpr c15
    clear c15
    (first | rw [c15b0] | (simp only [i64_w, i32_w]; rw [c15b0]) | skip)
    have H' := Aside0.mk H
    clear H; have hnb16 := NB466_467.out; have hnc16 := NB467_466.out; have hnb17 := NB466_468.out; have hnc17 := NB468_466.out; obtain ⟨hcz18_0, hcz18_1, hcz18_2, hfz18_0, hfz18_1, hfz18_2⟩ := z3 BK466; have hnb19 := NB467_468.out; have hnc19 := NB468_467.out; obtain ⟨hcz20_0, hcz20_1, hcz20_2, hfz20_0, hfz20_1, hfz20_2⟩ := z3 BK467
    go_wp2
    go_meet
    case rel => exact ⟨_, ((a1_2.toList == ([1] : List UInt8))), zR, H', zL, zK BK466, zK BK467, zK BK468, ⟨zT HB⟩⟩
   ·rw [if_neg c15] at H
    have c15b0 := beq_eq_false_iff_ne.mpr c15
    have c15b1 := bne_iff_ne.mpr c15
    (first | rw [c15b0] | (simp only [i64_w, i32_w]; rw [c15b0]) | skip)
    have H' := Aside0.mk H
    clear H; have hnb21 := NB466_467.out; have hnc21 := NB467_466.out; have hnb22 := NB466_468.out; have hnc22 := NB468_466.out; obtain ⟨hcz23_0, hcz23_1, hcz23_2, hfz23_0, hfz23_1, hfz23_2⟩ := z3 BK466
    go_wp2
    go_meet
    case rel => exact ⟨_, (false), zR, H', zL, zK BK466, zK BK467, zK BK468, ⟨zT HB⟩⟩
  case rest =>
   clear HC5
   try clear c1; try clear c2; try clear p2; try clear c4; try clear c4b0; try clear c4b1; try clear c7; try clear c9; try clear c10; try clear c12; try clear c15; try clear c15b0; try clear c15b1; try clear c16; try clear c17; try clear c19; try clear c21; try clear c22; try clear hcz11_0; try clear hcz11_1; try clear hcz11_2; try clear hcz13_0; try clear hcz13_1; try clear hcz13_2; try clear hcz18_0; try clear hcz18_1; try clear hcz18_2; try clear hcz20_0; try clear hcz20_1; try clear hcz20_2; try clear hcz23_0; try clear hcz23_1; try clear hcz23_2; try clear hfz11_0; try clear hfz11_1; try clear hfz11_2; try clear hfz13_0; try clear hfz13_1; try clear hfz13_2; try clear hfz18_0; try clear hfz18_1; try clear hfz18_2; try clear hfz20_0; try clear hfz20_1; try clear hfz20_2; try clear hfz23_0; try clear hfz23_1; try clear hfz23_2
   obtain ⟨kq, x24_4, rfl, HA, HJ4, BK466, BK467, BK468, HB⟩ := hcut
   cases kq with
   | zero => exact absurd HA.out (by simp [rat_over_gen.j0])
   | succ kj4 =>
    have H := HA.out
    clear HA
    simp only [rat_over_gen.j0] at H
    by_cases c24 : x24_4 = true
    ·subst c24
     rw [if_pos rfl] at H
     obtain ⟨⟨t470, t471⟩, A25, H⟩ := zo H; try dsimp only at H
     simp only [Option.some.injEq, Prod.mk.injEq] at H
     obtain ⟨rfl, rfl, rfl, rfl⟩ := H
     have hnb26 := NB466_467.out; have hnc26 := NB467_466.out; have hnb27 := NB466_468.out; have hnc27 := NB468_466.out; obtain ⟨hcz28_0, hcz28_1, hcz28_2, hfz28_0, hfz28_1, hfz28_2⟩ := z3 BK466; have hnb29 := NB467_468.out; have hnc29 := NB468_467.out; obtain ⟨hcz30_0, hcz30_1, hcz30_2, hfz30_0, hfz30_1, hfz30_2⟩ := z3 BK467
     go_wp2_with (first | ((with_reducible refine gate_callee (f := 57) rfl ?_); refine zO Tryz.func57 (by kernel_rfl) (hF.out a0_0 a0_1 a1_0 a1_1 t470 t471 _ A25.out) fun w31 hb => ?_; obtain ⟨BK466, BK467, BK468⟩ := zB3 BK466 BK467 BK468 hb; replace HB := zS HB hb; (try clear hb); obtain ⟨hcz32_0, hcz32_1, hcz32_2, hfz32_0, hfz32_1, hfz32_2⟩ := z3 BK468))
     refine bodyPost_ret (results_ct rfl _ _ gb468 27 #[.bool t470, .string t471, .string (⟨#[1]⟩ : ByteArray)] (0, 0) _ rfl (by (with_reducible repeat (first | refine blk_drewN ?_ _ | refine blk_drew ?_ | refine blk_alloc ?_ _)); refine zP (cs := #[.bool t470, .string t471, .string (⟨#[]⟩ : ByteArray)]) ?_ 2 _; (with_reducible repeat (first | refine blk_drewN ?_ _ | refine blk_drew ?_ | refine blk_alloc ?_ _)); refine zP (cs := #[.bool t470, .string (⟨#[]⟩ : ByteArray), .string (⟨#[]⟩ : ByteArray)]) ?_ 1 _; (with_reducible repeat (first | refine blk_drewN ?_ _ | refine blk_drew ?_ | refine blk_alloc ?_ _)); refine zP (cs := #[.bool false, .string (⟨#[]⟩ : ByteArray), .string (⟨#[]⟩ : ByteArray)]) ?_ 0 _; (with_reducible repeat (first | refine blk_drewN ?_ _ | refine blk_drew ?_ | refine blk_alloc ?_ _)); exact BK468.out) Tryz.underlying27 rfl (by kernel_rfl)) rfl ?_
     exact ⟨zH, zT HB⟩
    ·replace c24 := Bool.eq_false_iff.mpr c24
     subst c24
     rw [if_neg zn] at H
     obtain ⟨⟨t472, t473⟩, A33, H⟩ := zo H; try dsimp only at H
     obtain ⟨⟨t474, t475⟩, A34, H⟩ := zo H; try dsimp only at H
     obtain ⟨⟨t476, t477⟩, A35, H⟩ := zo H; try dsimp only at H
     obtain ⟨⟨t478, t479⟩, A36, H⟩ := zo H; try dsimp only at H
     obtain ⟨⟨t480, t481⟩, A37, H⟩ := zo H; try dsimp only at H
     obtain ⟨⟨t483, t484⟩, A38, H⟩ := zo H; try dsimp only at H
     obtain ⟨⟨t485, t486⟩, A39, H⟩ := zo H; try dsimp only at H
     obtain ⟨⟨t487, t488⟩, A40, H⟩ := zo H; try dsimp only at H
     obtain ⟨⟨t489, t490, t491⟩, A41, H⟩ := zo H; try dsimp only at H
     simp only [Option.some.injEq, Prod.mk.injEq] at H
     obtain ⟨rfl, rfl, rfl, rfl⟩ := H
     try go_wp2
     replace BK466 := zD BK466; replace BK467 := zD BK467; replace BK468 := zD BK468; replace HB := zF HB
     refine start_ (n := 14) (S := fun w' => w'.cell? ⟨gb466, 0, none⟩ = some (.bool a0_0) ∧ w'.cell? ⟨gb466, 1, none⟩ = some (.string a0_1) ∧ w'.cell? ⟨gb466, 2, none⟩ = some (.string a0_2) ∧ w'.cell? ⟨gb467, 0, none⟩ = some (.bool a1_0) ∧ w'.cell? ⟨gb467, 1, none⟩ = some (.string a1_1) ∧ w'.cell? ⟨gb467, 2, none⟩ = some (.string a1_2)) (ds := []) (zb 14 0) (by kernel_rfl) rfl rfl ⟨zc BK466 0, zc BK466 1, zc BK466 2, zc BK467 0, zc BK467 1, zc BK467 2⟩ (fun hHeld => ?_); refine with_tabW rat_over_gen.tab6 rat_over_gen.bits6 (fun HT_ HW_ => ?_)
     generalize wc.drew = w42 at BK466 BK467 BK468 HB hHeld ⊢
     refine zU (i := 0) (N := some 32) (zb 14 1) (any_of HT_.out (by kernel_rfl)) ?_
     refine zU (i := 1) (N := some 33) (zb 14 3) (any_of HT_.out (by kernel_rfl)) ?_
     refine zU (i := 6) (N := some 38) (zb 14 67) (any_of HT_.out (by kernel_rfl)) ?_
     refine zV (i := 2) (N := some 34) (zb 14 71) (take_ofW HT_.out HW_.out (by kernel_rfl)) hHeld ?_
     refine zV (i := 3) (N := some 35) (zb 14 79) (take_ofW HT_.out HW_.out (by kernel_rfl)) hHeld ?_
     refine zV (i := 7) (N := some 39) (zb 14 207) (take_ofW HT_.out HW_.out (by kernel_rfl)) hHeld ?_
     refine zV (i := 8) (N := some 40) (zb 14 463) (take_ofW HT_.out HW_.out (by kernel_rfl)) hHeld ?_
     refine join_ (σ := Nat) 1 (zb 14 8191) (fun s_ => [(36, .agg #[.bool t472, .string t473]), (37, .agg #[.bool t474, .string t475]), (41, .agg #[.bool t476, .string t477]), (42, .agg #[.bool t478, .string t479]), (43, .agg #[.bool t480, .string t481]), (9, .pointer (some ⟨s_, 0, none⟩))]) (fun s_ w' => (w'.cell? ⟨gb466, 0, none⟩ = some (.bool a0_0) ∧ w'.cell? ⟨gb466, 1, none⟩ = some (.string a0_1) ∧ w'.cell? ⟨gb466, 2, none⟩ = some (.string a0_2) ∧ w'.cell? ⟨gb467, 0, none⟩ = some (.bool a1_0) ∧ w'.cell? ⟨gb467, 1, none⟩ = some (.string a1_1) ∧ w'.cell? ⟨gb467, 2, none⟩ = some (.string a1_2)) ∧ (w'.heap[gb466]? = some (.cells #[.bool a0_0, .string a0_1, .string a0_2] 27 (0, 0))) ∧ (w'.heap[gb467]? = some (.cells #[.bool a1_0, .string a1_1, .string a1_2] 27 (0, 0))) ∧ (w'.heap[gb468]? = some (.cells #[.bool false, .string (⟨#[]⟩ : ByteArray), .string (⟨#[]⟩ : ByteArray)] 27 (0, 0))) ∧ (w'.heap[s_]? = some (.cells #[.bool false, .string (⟨#[]⟩ : ByteArray)] 24 (0, 0))) ∧ (w.heap.size ≤ s_) ∧ (w.heap.size ≤ s_) ∧ (gb466 ≠ s_) ∧ (s_ ≠ gb466) ∧ (gb467 ≠ s_) ∧ (s_ ≠ gb467) ∧ (gb468 ≠ s_) ∧ (s_ ≠ gb468) ∧ (Below w.heap.size w w')) ?_ ?_
     rotate_left
     ·intro hJ4_5_9_10_11_12
      refine join_ (σ := Unit) 2 (zb 14 4095) (fun s_ => [(36, .agg #[.bool t472, .string t473]), (37, .agg #[.bool t474, .string t475]), (41, .agg #[.bool t476, .string t477]), (42, .agg #[.bool t478, .string t479]), (43, .agg #[.bool t480, .string t481])]) (fun s_ w' => (w'.cell? ⟨gb466, 0, none⟩ = some (.bool a0_0) ∧ w'.cell? ⟨gb466, 1, none⟩ = some (.string a0_1) ∧ w'.cell? ⟨gb466, 2, none⟩ = some (.string a0_2) ∧ w'.cell? ⟨gb467, 0, none⟩ = some (.bool a1_0) ∧ w'.cell? ⟨gb467, 1, none⟩ = some (.string a1_1) ∧ w'.cell? ⟨gb467, 2, none⟩ = some (.string a1_2)) ∧ (w'.heap[gb466]? = some (.cells #[.bool a0_0, .string a0_1, .string a0_2] 27 (0, 0))) ∧ (w'.heap[gb467]? = some (.cells #[.bool a1_0, .string a1_1, .string a1_2] 27 (0, 0))) ∧ (w'.heap[gb468]? = some (.cells #[.bool false, .string (⟨#[]⟩ : ByteArray), .string (⟨#[]⟩ : ByteArray)] 27 (0, 0))) ∧ (Below w.heap.size w w')) ?_ ?_
      rotate_left
      ·intro hJ4_5_9_10_11
       refine join_ (σ := Nat) 2 (zb 14 6143) (fun s_ => [(36, .agg #[.bool t472, .string t473]), (37, .agg #[.bool t474, .string t475]), (41, .agg #[.bool t476, .string t477]), (42, .agg #[.bool t478, .string t479]), (9, .pointer (some ⟨s_, 0, none⟩))]) (fun s_ w' => (w'.cell? ⟨gb466, 0, none⟩ = some (.bool a0_0) ∧ w'.cell? ⟨gb466, 1, none⟩ = some (.string a0_1) ∧ w'.cell? ⟨gb466, 2, none⟩ = some (.string a0_2) ∧ w'.cell? ⟨gb467, 0, none⟩ = some (.bool a1_0) ∧ w'.cell? ⟨gb467, 1, none⟩ = some (.string a1_1) ∧ w'.cell? ⟨gb467, 2, none⟩ = some (.string a1_2)) ∧ (w'.heap[gb466]? = some (.cells #[.bool a0_0, .string a0_1, .string a0_2] 27 (0, 0))) ∧ (w'.heap[gb467]? = some (.cells #[.bool a1_0, .string a1_1, .string a1_2] 27 (0, 0))) ∧ (w'.heap[gb468]? = some (.cells #[.bool false, .string (⟨#[]⟩ : ByteArray), .string (⟨#[]⟩ : ByteArray)] 27 (0, 0))) ∧ (w'.heap[s_]? = some (.cells #[.bool false, .string (⟨#[]⟩ : ByteArray)] 24 (0, 0))) ∧ (w.heap.size ≤ s_) ∧ (w.heap.size ≤ s_) ∧ (gb466 ≠ s_) ∧ (s_ ≠ gb466) ∧ (gb467 ≠ s_) ∧ (s_ ≠ gb467) ∧ (gb468 ≠ s_) ∧ (s_ ≠ gb468) ∧ (Below w.heap.size w w')) ?_ ?_
       rotate_left
       ·intro hJ4_5_9_10_12
        refine join_ (σ := Unit) 3 (zb 14 2047) (fun s_ => [(36, .agg #[.bool t472, .string t473]), (37, .agg #[.bool t474, .string t475]), (41, .agg #[.bool t476, .string t477]), (42, .agg #[.bool t478, .string t479])]) (fun s_ w' => (w'.cell? ⟨gb466, 0, none⟩ = some (.bool a0_0) ∧ w'.cell? ⟨gb466, 1, none⟩ = some (.string a0_1) ∧ w'.cell? ⟨gb466, 2, none⟩ = some (.string a0_2) ∧ w'.cell? ⟨gb467, 0, none⟩ = some (.bool a1_0) ∧ w'.cell? ⟨gb467, 1, none⟩ = some (.string a1_1) ∧ w'.cell? ⟨gb467, 2, none⟩ = some (.string a1_2)) ∧ (w'.heap[gb466]? = some (.cells #[.bool a0_0, .string a0_1, .string a0_2] 27 (0, 0))) ∧ (w'.heap[gb467]? = some (.cells #[.bool a1_0, .string a1_1, .string a1_2] 27 (0, 0))) ∧ (w'.heap[gb468]? = some (.cells #[.bool false, .string (⟨#[]⟩ : ByteArray), .string (⟨#[]⟩ : ByteArray)] 27 (0, 0))) ∧ (Below w.heap.size w w')) ?_ ?_
        rotate_left
        ·intro hJ4_5_9_10
         refine join_ (σ := Nat) 3 (zb 14 5119) (fun s_ => [(36, .agg #[.bool t472, .string t473]), (37, .agg #[.bool t474, .string t475]), (41, .agg #[.bool t476, .string t477]), (9, .pointer (some ⟨s_, 0, none⟩))]) (fun s_ w' => (w'.cell? ⟨gb466, 0, none⟩ = some (.bool a0_0) ∧ w'.cell? ⟨gb466, 1, none⟩ = some (.string a0_1) ∧ w'.cell? ⟨gb466, 2, none⟩ = some (.string a0_2) ∧ w'.cell? ⟨gb467, 0, none⟩ = some (.bool a1_0) ∧ w'.cell? ⟨gb467, 1, none⟩ = some (.string a1_1) ∧ w'.cell? ⟨gb467, 2, none⟩ = some (.string a1_2)) ∧ (w'.heap[gb466]? = some (.cells #[.bool a0_0, .string a0_1, .string a0_2] 27 (0, 0))) ∧ (w'.heap[gb467]? = some (.cells #[.bool a1_0, .string a1_1, .string a1_2] 27 (0, 0))) ∧ (w'.heap[gb468]? = some (.cells #[.bool false, .string (⟨#[]⟩ : ByteArray), .string (⟨#[]⟩ : ByteArray)] 27 (0, 0))) ∧ (w'.heap[s_]? = some (.cells #[.bool false, .string (⟨#[]⟩ : ByteArray)] 24 (0, 0))) ∧ (w.heap.size ≤ s_) ∧ (w.heap.size ≤ s_) ∧ (gb466 ≠ s_) ∧ (s_ ≠ gb466) ∧ (gb467 ≠ s_) ∧ (s_ ≠ gb467) ∧ (gb468 ≠ s_) ∧ (s_ ≠ gb468) ∧ (Below w.heap.size w w')) ?_ ?_
         rotate_left
         ·intro hJ4_5_9_12
          refine join_ (σ := Unit) 4 (zb 14 1023) (fun s_ => [(36, .agg #[.bool t472, .string t473]), (37, .agg #[.bool t474, .string t475]), (41, .agg #[.bool t476, .string t477])]) (fun s_ w' => (w'.cell? ⟨gb466, 0, none⟩ = some (.bool a0_0) ∧ w'.cell? ⟨gb466, 1, none⟩ = some (.string a0_1) ∧ w'.cell? ⟨gb466, 2, none⟩ = some (.string a0_2) ∧ w'.cell? ⟨gb467, 0, none⟩ = some (.bool a1_0) ∧ w'.cell? ⟨gb467, 1, none⟩ = some (.string a1_1) ∧ w'.cell? ⟨gb467, 2, none⟩ = some (.string a1_2)) ∧ (w'.heap[gb466]? = some (.cells #[.bool a0_0, .string a0_1, .string a0_2] 27 (0, 0))) ∧ (w'.heap[gb467]? = some (.cells #[.bool a1_0, .string a1_1, .string a1_2] 27 (0, 0))) ∧ (w'.heap[gb468]? = some (.cells #[.bool false, .string (⟨#[]⟩ : ByteArray), .string (⟨#[]⟩ : ByteArray)] 27 (0, 0))) ∧ (Below w.heap.size w w')) ?_ ?_
          rotate_left
          ·intro hJ4_5_9
           refine join_ (σ := Nat) 4 (zb 14 4607) (fun s_ => [(36, .agg #[.bool t472, .string t473]), (37, .agg #[.bool t474, .string t475]), (9, .pointer (some ⟨s_, 0, none⟩))]) (fun s_ w' => (w'.cell? ⟨gb466, 0, none⟩ = some (.bool a0_0) ∧ w'.cell? ⟨gb466, 1, none⟩ = some (.string a0_1) ∧ w'.cell? ⟨gb466, 2, none⟩ = some (.string a0_2) ∧ w'.cell? ⟨gb467, 0, none⟩ = some (.bool a1_0) ∧ w'.cell? ⟨gb467, 1, none⟩ = some (.string a1_1) ∧ w'.cell? ⟨gb467, 2, none⟩ = some (.string a1_2)) ∧ (w'.heap[gb466]? = some (.cells #[.bool a0_0, .string a0_1, .string a0_2] 27 (0, 0))) ∧ (w'.heap[gb467]? = some (.cells #[.bool a1_0, .string a1_1, .string a1_2] 27 (0, 0))) ∧ (w'.heap[gb468]? = some (.cells #[.bool false, .string (⟨#[]⟩ : ByteArray), .string (⟨#[]⟩ : ByteArray)] 27 (0, 0))) ∧ (w'.heap[s_]? = some (.cells #[.bool false, .string (⟨#[]⟩ : ByteArray)] 24 (0, 0))) ∧ (w.heap.size ≤ s_) ∧ (w.heap.size ≤ s_) ∧ (gb466 ≠ s_) ∧ (s_ ≠ gb466) ∧ (gb467 ≠ s_) ∧ (s_ ≠ gb467) ∧ (gb468 ≠ s_) ∧ (s_ ≠ gb468) ∧ (Below w.heap.size w w')) ?_ ?_
           rotate_left
           ·intro hJ4_5_12
            refine join_ (σ := Unit) 5 (zb 14 511) (fun s_ => [(36, .agg #[.bool t472, .string t473]), (37, .agg #[.bool t474, .string t475])]) (fun s_ w' => (w'.cell? ⟨gb466, 0, none⟩ = some (.bool a0_0) ∧ w'.cell? ⟨gb466, 1, none⟩ = some (.string a0_1) ∧ w'.cell? ⟨gb466, 2, none⟩ = some (.string a0_2) ∧ w'.cell? ⟨gb467, 0, none⟩ = some (.bool a1_0) ∧ w'.cell? ⟨gb467, 1, none⟩ = some (.string a1_1) ∧ w'.cell? ⟨gb467, 2, none⟩ = some (.string a1_2)) ∧ (w'.heap[gb466]? = some (.cells #[.bool a0_0, .string a0_1, .string a0_2] 27 (0, 0))) ∧ (w'.heap[gb467]? = some (.cells #[.bool a1_0, .string a1_1, .string a1_2] 27 (0, 0))) ∧ (w'.heap[gb468]? = some (.cells #[.bool false, .string (⟨#[]⟩ : ByteArray), .string (⟨#[]⟩ : ByteArray)] 27 (0, 0))) ∧ (Below w.heap.size w w')) ?_ ?_
            rotate_left
            ·intro hJ4_5
             refine join_ (σ := Nat) 5 (zb 14 4575) (fun s_ => [(36, .agg #[.bool t472, .string t473]), (9, .pointer (some ⟨s_, 0, none⟩))]) (fun s_ w' => (w'.cell? ⟨gb466, 0, none⟩ = some (.bool a0_0) ∧ w'.cell? ⟨gb466, 1, none⟩ = some (.string a0_1) ∧ w'.cell? ⟨gb466, 2, none⟩ = some (.string a0_2) ∧ w'.cell? ⟨gb467, 0, none⟩ = some (.bool a1_0) ∧ w'.cell? ⟨gb467, 1, none⟩ = some (.string a1_1) ∧ w'.cell? ⟨gb467, 2, none⟩ = some (.string a1_2)) ∧ (w'.heap[gb466]? = some (.cells #[.bool a0_0, .string a0_1, .string a0_2] 27 (0, 0))) ∧ (w'.heap[gb467]? = some (.cells #[.bool a1_0, .string a1_1, .string a1_2] 27 (0, 0))) ∧ (w'.heap[gb468]? = some (.cells #[.bool false, .string (⟨#[]⟩ : ByteArray), .string (⟨#[]⟩ : ByteArray)] 27 (0, 0))) ∧ (w'.heap[s_]? = some (.cells #[.bool false, .string (⟨#[]⟩ : ByteArray)] 24 (0, 0))) ∧ (w.heap.size ≤ s_) ∧ (w.heap.size ≤ s_) ∧ (gb466 ≠ s_) ∧ (s_ ≠ gb466) ∧ (gb467 ≠ s_) ∧ (s_ ≠ gb467) ∧ (gb468 ≠ s_) ∧ (s_ ≠ gb468) ∧ (Below w.heap.size w w')) ?_ ?_
             rotate_left
             ·intro hJ4_12
              refine join_ (σ := Unit) 6 (zb 14 479) (fun s_ => [(36, .agg #[.bool t472, .string t473])]) (fun s_ w' => (w'.cell? ⟨gb466, 0, none⟩ = some (.bool a0_0) ∧ w'.cell? ⟨gb466, 1, none⟩ = some (.string a0_1) ∧ w'.cell? ⟨gb466, 2, none⟩ = some (.string a0_2) ∧ w'.cell? ⟨gb467, 0, none⟩ = some (.bool a1_0) ∧ w'.cell? ⟨gb467, 1, none⟩ = some (.string a1_1) ∧ w'.cell? ⟨gb467, 2, none⟩ = some (.string a1_2)) ∧ (w'.heap[gb466]? = some (.cells #[.bool a0_0, .string a0_1, .string a0_2] 27 (0, 0))) ∧ (w'.heap[gb467]? = some (.cells #[.bool a1_0, .string a1_1, .string a1_2] 27 (0, 0))) ∧ (w'.heap[gb468]? = some (.cells #[.bool false, .string (⟨#[]⟩ : ByteArray), .string (⟨#[]⟩ : ByteArray)] 27 (0, 0))) ∧ (Below w.heap.size w w')) ?_ ?_
              rotate_left
              ·intro hJ4
               refine join_ (σ := Nat) 6 (zb 14 4559) (fun s_ => [(9, .pointer (some ⟨s_, 0, none⟩))]) (fun s_ w' => (w'.cell? ⟨gb466, 0, none⟩ = some (.bool a0_0) ∧ w'.cell? ⟨gb466, 1, none⟩ = some (.string a0_1) ∧ w'.cell? ⟨gb466, 2, none⟩ = some (.string a0_2) ∧ w'.cell? ⟨gb467, 0, none⟩ = some (.bool a1_0) ∧ w'.cell? ⟨gb467, 1, none⟩ = some (.string a1_1) ∧ w'.cell? ⟨gb467, 2, none⟩ = some (.string a1_2)) ∧ (w'.heap[gb466]? = some (.cells #[.bool a0_0, .string a0_1, .string a0_2] 27 (0, 0))) ∧ (w'.heap[gb467]? = some (.cells #[.bool a1_0, .string a1_1, .string a1_2] 27 (0, 0))) ∧ (w'.heap[gb468]? = some (.cells #[.bool false, .string (⟨#[]⟩ : ByteArray), .string (⟨#[]⟩ : ByteArray)] 27 (0, 0))) ∧ (w'.heap[s_]? = some (.cells #[.bool false, .string (⟨#[]⟩ : ByteArray)] 24 (0, 0))) ∧ (w.heap.size ≤ s_) ∧ (w.heap.size ≤ s_) ∧ (gb466 ≠ s_) ∧ (s_ ≠ gb466) ∧ (gb467 ≠ s_) ∧ (s_ ≠ gb467) ∧ (gb468 ≠ s_) ∧ (s_ ≠ gb468) ∧ (Below w.heap.size w w')) ?_ ?_
               rotate_left
               ·intro hJ12
                refine two_ (i := 4) (j := 12) (Ni := some 36) (Nj := some 9) (zb 14 479) (zb 14 4559) rfl rfl rfl rfl (two_of HT_.out (by kernel_rfl)) (by decide) (by decide) (fun K hK => ?_) (fun K hK => ?_)
                ·skip
                 refine zJ Tryz.func60 (by kernel_rfl) (rat_den.calls a1_0 a1_1 a1_2 t472 t473 _ A33.out) fun w43 hb => ?_
                 obtain ⟨BK466, BK467, BK468⟩ := zB3 BK466 BK467 BK468 hb; replace HB := zS HB hb
                 (try clear hb)
                 refine hK.out _ _ ⟨zc BK466 0, zc BK466 1, zc BK466 2, zc BK467 0, zc BK467 1, zc BK467 2⟩ (fun hHeld => ?_)
                 clear hK K
                 refine zW (some 36) ?_
                 exact zA (hJ4 () _ ⟨hHeld, (zK BK466).out, (zK BK467).out, (zK BK468).out, (zT HB)⟩)
                ·skip
                 refine box_step ?hg (N := 9) ?hd (cs := #[.bool false, .string (⟨#[]⟩ : ByteArray)]) (t := 24) ?hr ?_; (case hd => rfl); (case hg => rfl); (case hr => first | (go_simp; done) | (go_simp; rfl))
                 intro gb482 hg w43 hbox hb
                 have BK482 := Aside0.mk (hbox); have GW482 := zG hg HB; have GE482 := zG hg HB; obtain ⟨NB466_482, NB482_466⟩ := zQ hg BK466; obtain ⟨NB467_482, NB482_467⟩ := zQ hg BK467; obtain ⟨NB468_482, NB482_468⟩ := zQ hg BK468; obtain ⟨BK466, BK467, BK468⟩ := zB3 BK466 BK467 BK468 hb; replace HB := zS HB hb; clear hb hbox hg
                 refine hK.out _ _ ⟨zc BK466 0, zc BK466 1, zc BK466 2, zc BK467 0, zc BK467 1, zc BK467 2⟩ (fun hHeld => ?_)
                 clear hK K
                 refine zW (some 9) ?_
                 exact zA (hJ12 (gb482) _ ⟨hHeld, (zK BK466).out, (zK BK467).out, (zK BK468).out, (zK BK482).out, GW482.out, GE482.out, NB466_482.out, NB482_466.out, NB467_482.out, NB482_467.out, NB468_482.out, NB482_468.out, (zT HB)⟩)
               ·skip
                rintro gb482 w44 ⟨hS_, h0_, h1_, h2_, h3_, h4_, h5_, h6_, h7_, h8_, h9_, h10_, h11_, h12_⟩
                replace BK466 := Aside0.mk h0_; replace BK467 := Aside0.mk h1_; replace BK468 := Aside0.mk h2_; have BK482 := Aside0.mk h3_; have GW482 := Aside0.mk h4_; have GE482 := Aside0.mk h5_; have NB466_482 := Aside0.mk h6_; have NB482_466 := Aside0.mk h7_; have NB467_482 := Aside0.mk h8_; have NB482_467 := Aside0.mk h9_; have NB468_482 := Aside0.mk h10_; have NB482_468 := Aside0.mk h11_; replace HB := Aside0.mk h12_; clear h0_ h1_ h2_ h3_ h4_ h5_ h6_ h7_ h8_ h9_ h10_ h11_ h12_
                have hHeld := hS_
                refine norm_ (a' := ?_) ?_ ?_
                rotate_left
                ·simp only [putAll, Act.put, List.setIfInBounds_toArray, List.set_cons_zero, List.set_cons_succ]
                 rfl
                refine one_ (i := 4) (N := some 36) (zb 14 4575) rfl rfl (one_of HT_.out (by kernel_rfl)) (by decide) (fun K hK => ?_)
                refine zJ Tryz.func60 (by kernel_rfl) (rat_den.calls a1_0 a1_1 a1_2 t472 t473 _ A33.out) fun w45 hb => ?_
                obtain ⟨BK466, BK467, BK468, BK482⟩ := zB4 BK466 BK467 BK468 BK482 hb; replace HB := zS HB hb
                (try clear hb)
                refine hK.out _ _ ⟨zc BK466 0, zc BK466 1, zc BK466 2, zc BK467 0, zc BK467 1, zc BK467 2⟩ (fun hHeld => ?_)
                clear hK K
                refine zW (some 36) ?_
                exact zA (hJ4_12 (gb482) _ ⟨hHeld, (zK BK466).out, (zK BK467).out, (zK BK468).out, (zK BK482).out, GW482.out, GE482.out, NB466_482.out, NB482_466.out, NB467_482.out, NB482_467.out, NB468_482.out, NB482_468.out, (zT HB)⟩)
              ·skip
               rintro _ w44 ⟨hS_, h0_, h1_, h2_, h3_⟩
               replace BK466 := Aside0.mk h0_; replace BK467 := Aside0.mk h1_; replace BK468 := Aside0.mk h2_; replace HB := Aside0.mk h3_; clear h0_ h1_ h2_ h3_
               have hHeld := hS_
               refine norm_ (a' := ?_) ?_ ?_
               rotate_left
               ·simp only [putAll, Act.put, List.setIfInBounds_toArray, List.set_cons_zero, List.set_cons_succ]
                rfl
               refine two_ (i := 5) (j := 12) (Ni := some 37) (Nj := some 9) (zb 14 511) (zb 14 4575) rfl rfl rfl rfl (two_of HT_.out (by kernel_rfl)) (by decide) (by decide) (fun K hK => ?_) (fun K hK => ?_)
               ·skip
                refine zJ Tryz.func57 (by kernel_rfl) (rat_do_of_whole_Mul.calls a0_0 a0_1 t472 t473 t474 t475 _ A34.out) fun w45 hb => ?_
                obtain ⟨BK466, BK467, BK468⟩ := zB3 BK466 BK467 BK468 hb; replace HB := zS HB hb
                (try clear hb)
                refine hK.out _ _ ⟨zc BK466 0, zc BK466 1, zc BK466 2, zc BK467 0, zc BK467 1, zc BK467 2⟩ (fun hHeld => ?_)
                clear hK K
                refine zW (some 37) ?_
                exact zA (hJ4_5 () _ ⟨hHeld, (zK BK466).out, (zK BK467).out, (zK BK468).out, (zT HB)⟩)
               ·skip
                refine box_step ?hg (N := 9) ?hd (cs := #[.bool false, .string (⟨#[]⟩ : ByteArray)]) (t := 24) ?hr ?_; (case hd => rfl); (case hg => rfl); (case hr => first | (go_simp; done) | (go_simp; rfl))
                intro gb482 hg w45 hbox hb
                have BK482 := Aside0.mk (hbox); have GW482 := zG hg HB; have GE482 := zG hg HB; obtain ⟨NB466_482, NB482_466⟩ := zQ hg BK466; obtain ⟨NB467_482, NB482_467⟩ := zQ hg BK467; obtain ⟨NB468_482, NB482_468⟩ := zQ hg BK468; obtain ⟨BK466, BK467, BK468⟩ := zB3 BK466 BK467 BK468 hb; replace HB := zS HB hb; clear hb hbox hg
                refine hK.out _ _ ⟨zc BK466 0, zc BK466 1, zc BK466 2, zc BK467 0, zc BK467 1, zc BK467 2⟩ (fun hHeld => ?_)
                clear hK K
                refine zW (some 9) ?_
                exact zA (hJ4_12 (gb482) _ ⟨hHeld, (zK BK466).out, (zK BK467).out, (zK BK468).out, (zK BK482).out, GW482.out, GE482.out, NB466_482.out, NB482_466.out, NB467_482.out, NB482_467.out, NB468_482.out, NB482_468.out, (zT HB)⟩)
             ·skip
              rintro gb482 w45 ⟨hS_, h0_, h1_, h2_, h3_, h4_, h5_, h6_, h7_, h8_, h9_, h10_, h11_, h12_⟩
              replace BK466 := Aside0.mk h0_; replace BK467 := Aside0.mk h1_; replace BK468 := Aside0.mk h2_; have BK482 := Aside0.mk h3_; have GW482 := Aside0.mk h4_; have GE482 := Aside0.mk h5_; have NB466_482 := Aside0.mk h6_; have NB482_466 := Aside0.mk h7_; have NB467_482 := Aside0.mk h8_; have NB482_467 := Aside0.mk h9_; have NB468_482 := Aside0.mk h10_; have NB482_468 := Aside0.mk h11_; replace HB := Aside0.mk h12_; clear h0_ h1_ h2_ h3_ h4_ h5_ h6_ h7_ h8_ h9_ h10_ h11_ h12_
              have hHeld := hS_
              refine norm_ (a' := ?_) ?_ ?_
              rotate_left
              ·simp only [putAll, Act.put, List.setIfInBounds_toArray, List.set_cons_zero, List.set_cons_succ]
               rfl
              refine one_ (i := 5) (N := some 37) (zb 14 4607) rfl rfl (one_of HT_.out (by kernel_rfl)) (by decide) (fun K hK => ?_)
              refine zJ Tryz.func57 (by kernel_rfl) (rat_do_of_whole_Mul.calls a0_0 a0_1 t472 t473 t474 t475 _ A34.out) fun w46 hb => ?_
              obtain ⟨BK466, BK467, BK468, BK482⟩ := zB4 BK466 BK467 BK468 BK482 hb; replace HB := zS HB hb
              (try clear hb)
              refine hK.out _ _ ⟨zc BK466 0, zc BK466 1, zc BK466 2, zc BK467 0, zc BK467 1, zc BK467 2⟩ (fun hHeld => ?_)
              clear hK K
              refine zW (some 37) ?_
              exact zA (hJ4_5_12 (gb482) _ ⟨hHeld, (zK BK466).out, (zK BK467).out, (zK BK468).out, (zK BK482).out, GW482.out, GE482.out, NB466_482.out, NB482_466.out, NB467_482.out, NB482_467.out, NB468_482.out, NB482_468.out, (zT HB)⟩)
            ·skip
             rintro _ w45 ⟨hS_, h0_, h1_, h2_, h3_⟩
             replace BK466 := Aside0.mk h0_; replace BK467 := Aside0.mk h1_; replace BK468 := Aside0.mk h2_; replace HB := Aside0.mk h3_; clear h0_ h1_ h2_ h3_
             have hHeld := hS_
             refine norm_ (a' := ?_) ?_ ?_
             rotate_left
             ·simp only [putAll, Act.put, List.setIfInBounds_toArray, List.set_cons_zero, List.set_cons_succ]
              rfl
             refine two_ (i := 9) (j := 12) (Ni := some 41) (Nj := some 9) (zb 14 1023) (zb 14 4607) rfl rfl rfl rfl (two_of HT_.out (by kernel_rfl)) (by decide) (by decide) (fun K hK => ?_) (fun K hK => ?_)
             ·skip
              refine zJ Tryz.func60 (by kernel_rfl) (rat_den.calls a0_0 a0_1 a0_2 t476 t477 _ A35.out) fun w46 hb => ?_
              obtain ⟨BK466, BK467, BK468⟩ := zB3 BK466 BK467 BK468 hb; replace HB := zS HB hb
              (try clear hb)
              refine hK.out _ _ ⟨zc BK466 0, zc BK466 1, zc BK466 2, zc BK467 0, zc BK467 1, zc BK467 2⟩ (fun hHeld => ?_)
              clear hK K
              refine zW (some 41) ?_
              exact zA (hJ4_5_9 () _ ⟨hHeld, (zK BK466).out, (zK BK467).out, (zK BK468).out, (zT HB)⟩)
             ·skip
              refine box_step ?hg (N := 9) ?hd (cs := #[.bool false, .string (⟨#[]⟩ : ByteArray)]) (t := 24) ?hr ?_; (case hd => rfl); (case hg => rfl); (case hr => first | (go_simp; done) | (go_simp; rfl))
              intro gb482 hg w46 hbox hb
              have BK482 := Aside0.mk (hbox); have GW482 := zG hg HB; have GE482 := zG hg HB; obtain ⟨NB466_482, NB482_466⟩ := zQ hg BK466; obtain ⟨NB467_482, NB482_467⟩ := zQ hg BK467; obtain ⟨NB468_482, NB482_468⟩ := zQ hg BK468; obtain ⟨BK466, BK467, BK468⟩ := zB3 BK466 BK467 BK468 hb; replace HB := zS HB hb; clear hb hbox hg
              refine hK.out _ _ ⟨zc BK466 0, zc BK466 1, zc BK466 2, zc BK467 0, zc BK467 1, zc BK467 2⟩ (fun hHeld => ?_)
              clear hK K
              refine zW (some 9) ?_
              exact zA (hJ4_5_12 (gb482) _ ⟨hHeld, (zK BK466).out, (zK BK467).out, (zK BK468).out, (zK BK482).out, GW482.out, GE482.out, NB466_482.out, NB482_466.out, NB467_482.out, NB482_467.out, NB468_482.out, NB482_468.out, (zT HB)⟩)
           ·skip
            rintro gb482 w46 ⟨hS_, h0_, h1_, h2_, h3_, h4_, h5_, h6_, h7_, h8_, h9_, h10_, h11_, h12_⟩
            replace BK466 := Aside0.mk h0_; replace BK467 := Aside0.mk h1_; replace BK468 := Aside0.mk h2_; have BK482 := Aside0.mk h3_; have GW482 := Aside0.mk h4_; have GE482 := Aside0.mk h5_; have NB466_482 := Aside0.mk h6_; have NB482_466 := Aside0.mk h7_; have NB467_482 := Aside0.mk h8_; have NB482_467 := Aside0.mk h9_; have NB468_482 := Aside0.mk h10_; have NB482_468 := Aside0.mk h11_; replace HB := Aside0.mk h12_; clear h0_ h1_ h2_ h3_ h4_ h5_ h6_ h7_ h8_ h9_ h10_ h11_ h12_
            have hHeld := hS_
            refine norm_ (a' := ?_) ?_ ?_
            rotate_left
            ·simp only [putAll, Act.put, List.setIfInBounds_toArray, List.set_cons_zero, List.set_cons_succ]
             rfl
            refine one_ (i := 9) (N := some 41) (zb 14 5119) rfl rfl (one_of HT_.out (by kernel_rfl)) (by decide) (fun K hK => ?_)
            refine zJ Tryz.func60 (by kernel_rfl) (rat_den.calls a0_0 a0_1 a0_2 t476 t477 _ A35.out) fun w47 hb => ?_
            obtain ⟨BK466, BK467, BK468, BK482⟩ := zB4 BK466 BK467 BK468 BK482 hb; replace HB := zS HB hb
            (try clear hb)
            refine hK.out _ _ ⟨zc BK466 0, zc BK466 1, zc BK466 2, zc BK467 0, zc BK467 1, zc BK467 2⟩ (fun hHeld => ?_)
            clear hK K
            refine zW (some 41) ?_
            exact zA (hJ4_5_9_12 (gb482) _ ⟨hHeld, (zK BK466).out, (zK BK467).out, (zK BK468).out, (zK BK482).out, GW482.out, GE482.out, NB466_482.out, NB482_466.out, NB467_482.out, NB482_467.out, NB468_482.out, NB482_468.out, (zT HB)⟩)
          ·skip
           rintro _ w46 ⟨hS_, h0_, h1_, h2_, h3_⟩
           replace BK466 := Aside0.mk h0_; replace BK467 := Aside0.mk h1_; replace BK468 := Aside0.mk h2_; replace HB := Aside0.mk h3_; clear h0_ h1_ h2_ h3_
           have hHeld := hS_
           refine norm_ (a' := ?_) ?_ ?_
           rotate_left
           ·simp only [putAll, Act.put, List.setIfInBounds_toArray, List.set_cons_zero, List.set_cons_succ]
            rfl
           refine two_ (i := 10) (j := 12) (Ni := some 42) (Nj := some 9) (zb 14 2047) (zb 14 5119) rfl rfl rfl rfl (two_of HT_.out (by kernel_rfl)) (by decide) (by decide) (fun K hK => ?_) (fun K hK => ?_)
           ·skip
            refine zJ Tryz.func57 (by kernel_rfl) (rat_do_of_whole_Mul.calls a1_0 a1_1 t476 t477 t478 t479 _ A36.out) fun w47 hb => ?_
            obtain ⟨BK466, BK467, BK468⟩ := zB3 BK466 BK467 BK468 hb; replace HB := zS HB hb
            (try clear hb)
            refine hK.out _ _ ⟨zc BK466 0, zc BK466 1, zc BK466 2, zc BK467 0, zc BK467 1, zc BK467 2⟩ (fun hHeld => ?_)
            clear hK K
            refine zW (some 42) ?_
            exact zA (hJ4_5_9_10 () _ ⟨hHeld, (zK BK466).out, (zK BK467).out, (zK BK468).out, (zT HB)⟩)
           ·skip
            refine box_step ?hg (N := 9) ?hd (cs := #[.bool false, .string (⟨#[]⟩ : ByteArray)]) (t := 24) ?hr ?_; (case hd => rfl); (case hg => rfl); (case hr => first | (go_simp; done) | (go_simp; rfl))
            intro gb482 hg w47 hbox hb
            have BK482 := Aside0.mk (hbox); have GW482 := zG hg HB; have GE482 := zG hg HB; obtain ⟨NB466_482, NB482_466⟩ := zQ hg BK466; obtain ⟨NB467_482, NB482_467⟩ := zQ hg BK467; obtain ⟨NB468_482, NB482_468⟩ := zQ hg BK468; obtain ⟨BK466, BK467, BK468⟩ := zB3 BK466 BK467 BK468 hb; replace HB := zS HB hb; clear hb hbox hg
            refine hK.out _ _ ⟨zc BK466 0, zc BK466 1, zc BK466 2, zc BK467 0, zc BK467 1, zc BK467 2⟩ (fun hHeld => ?_)
            clear hK K
            refine zW (some 9) ?_
            exact zA (hJ4_5_9_12 (gb482) _ ⟨hHeld, (zK BK466).out, (zK BK467).out, (zK BK468).out, (zK BK482).out, GW482.out, GE482.out, NB466_482.out, NB482_466.out, NB467_482.out, NB482_467.out, NB468_482.out, NB482_468.out, (zT HB)⟩)
         ·skip
          rintro gb482 w47 ⟨hS_, h0_, h1_, h2_, h3_, h4_, h5_, h6_, h7_, h8_, h9_, h10_, h11_, h12_⟩
          replace BK466 := Aside0.mk h0_; replace BK467 := Aside0.mk h1_; replace BK468 := Aside0.mk h2_; have BK482 := Aside0.mk h3_; have GW482 := Aside0.mk h4_; have GE482 := Aside0.mk h5_; have NB466_482 := Aside0.mk h6_; have NB482_466 := Aside0.mk h7_; have NB467_482 := Aside0.mk h8_; have NB482_467 := Aside0.mk h9_; have NB468_482 := Aside0.mk h10_; have NB482_468 := Aside0.mk h11_; replace HB := Aside0.mk h12_; clear h0_ h1_ h2_ h3_ h4_ h5_ h6_ h7_ h8_ h9_ h10_ h11_ h12_
          have hHeld := hS_
          refine norm_ (a' := ?_) ?_ ?_
          rotate_left
          ·simp only [putAll, Act.put, List.setIfInBounds_toArray, List.set_cons_zero, List.set_cons_succ]
           rfl
          refine one_ (i := 10) (N := some 42) (zb 14 6143) rfl rfl (one_of HT_.out (by kernel_rfl)) (by decide) (fun K hK => ?_)
          refine zJ Tryz.func57 (by kernel_rfl) (rat_do_of_whole_Mul.calls a1_0 a1_1 t476 t477 t478 t479 _ A36.out) fun w48 hb => ?_
          obtain ⟨BK466, BK467, BK468, BK482⟩ := zB4 BK466 BK467 BK468 BK482 hb; replace HB := zS HB hb
          (try clear hb)
          refine hK.out _ _ ⟨zc BK466 0, zc BK466 1, zc BK466 2, zc BK467 0, zc BK467 1, zc BK467 2⟩ (fun hHeld => ?_)
          clear hK K
          refine zW (some 42) ?_
          exact zA (hJ4_5_9_10_12 (gb482) _ ⟨hHeld, (zK BK466).out, (zK BK467).out, (zK BK468).out, (zK BK482).out, GW482.out, GE482.out, NB466_482.out, NB482_466.out, NB467_482.out, NB482_467.out, NB468_482.out, NB482_468.out, (zT HB)⟩)
        ·skip
         rintro _ w47 ⟨hS_, h0_, h1_, h2_, h3_⟩
         replace BK466 := Aside0.mk h0_; replace BK467 := Aside0.mk h1_; replace BK468 := Aside0.mk h2_; replace HB := Aside0.mk h3_; clear h0_ h1_ h2_ h3_
         have hHeld := hS_
         refine norm_ (a' := ?_) ?_ ?_
         rotate_left
         ·simp only [putAll, Act.put, List.setIfInBounds_toArray, List.set_cons_zero, List.set_cons_succ]
          rfl
         refine two_ (i := 11) (j := 12) (Ni := some 43) (Nj := some 9) (zb 14 4095) (zb 14 6143) rfl rfl rfl rfl (two_of HT_.out (by kernel_rfl)) (by decide) (by decide) (fun K hK => ?_) (fun K hK => ?_)
         ·skip
          refine zJ Tryz.func57 (by kernel_rfl) (hF.out t474 t475 t478 t479 t480 t481 _ A37.out) fun w48 hb => ?_
          obtain ⟨BK466, BK467, BK468⟩ := zB3 BK466 BK467 BK468 hb; replace HB := zS HB hb
          (try clear hb)
          refine hK.out _ _ ⟨zc BK466 0, zc BK466 1, zc BK466 2, zc BK467 0, zc BK467 1, zc BK467 2⟩ (fun hHeld => ?_)
          clear hK K
          refine zW (some 43) ?_
          exact zA (hJ4_5_9_10_11 () _ ⟨hHeld, (zK BK466).out, (zK BK467).out, (zK BK468).out, (zT HB)⟩)
         ·skip
          refine box_step ?hg (N := 9) ?hd (cs := #[.bool false, .string (⟨#[]⟩ : ByteArray)]) (t := 24) ?hr ?_; (case hd => rfl); (case hg => rfl); (case hr => first | (go_simp; done) | (go_simp; rfl))
          intro gb482 hg w48 hbox hb
          have BK482 := Aside0.mk (hbox); have GW482 := zG hg HB; have GE482 := zG hg HB; obtain ⟨NB466_482, NB482_466⟩ := zQ hg BK466; obtain ⟨NB467_482, NB482_467⟩ := zQ hg BK467; obtain ⟨NB468_482, NB482_468⟩ := zQ hg BK468; obtain ⟨BK466, BK467, BK468⟩ := zB3 BK466 BK467 BK468 hb; replace HB := zS HB hb; clear hb hbox hg
          refine hK.out _ _ ⟨zc BK466 0, zc BK466 1, zc BK466 2, zc BK467 0, zc BK467 1, zc BK467 2⟩ (fun hHeld => ?_)
          clear hK K
          refine zW (some 9) ?_
          exact zA (hJ4_5_9_10_12 (gb482) _ ⟨hHeld, (zK BK466).out, (zK BK467).out, (zK BK468).out, (zK BK482).out, GW482.out, GE482.out, NB466_482.out, NB482_466.out, NB467_482.out, NB482_467.out, NB468_482.out, NB482_468.out, (zT HB)⟩)
       ·skip
        rintro gb482 w48 ⟨hS_, h0_, h1_, h2_, h3_, h4_, h5_, h6_, h7_, h8_, h9_, h10_, h11_, h12_⟩
        replace BK466 := Aside0.mk h0_; replace BK467 := Aside0.mk h1_; replace BK468 := Aside0.mk h2_; have BK482 := Aside0.mk h3_; have GW482 := Aside0.mk h4_; have GE482 := Aside0.mk h5_; have NB466_482 := Aside0.mk h6_; have NB482_466 := Aside0.mk h7_; have NB467_482 := Aside0.mk h8_; have NB482_467 := Aside0.mk h9_; have NB468_482 := Aside0.mk h10_; have NB482_468 := Aside0.mk h11_; replace HB := Aside0.mk h12_; clear h0_ h1_ h2_ h3_ h4_ h5_ h6_ h7_ h8_ h9_ h10_ h11_ h12_
        have hHeld := hS_
        refine norm_ (a' := ?_) ?_ ?_
        rotate_left
        ·simp only [putAll, Act.put, List.setIfInBounds_toArray, List.set_cons_zero, List.set_cons_succ]
         rfl
        refine one_ (i := 11) (N := some 43) (zb 14 8191) rfl rfl (one_of HT_.out (by kernel_rfl)) (by decide) (fun K hK => ?_)
        refine zJ Tryz.func57 (by kernel_rfl) (hF.out t474 t475 t478 t479 t480 t481 _ A37.out) fun w49 hb => ?_
        obtain ⟨BK466, BK467, BK468, BK482⟩ := zB4 BK466 BK467 BK468 BK482 hb; replace HB := zS HB hb
        (try clear hb)
        refine hK.out _ _ ⟨zc BK466 0, zc BK466 1, zc BK466 2, zc BK467 0, zc BK467 1, zc BK467 2⟩ (fun hHeld => ?_)
        clear hK K
        refine zW (some 43) ?_
        exact zA (hJ4_5_9_10_11_12 (gb482) _ ⟨hHeld, (zK BK466).out, (zK BK467).out, (zK BK468).out, (zK BK482).out, GW482.out, GE482.out, NB466_482.out, NB482_466.out, NB467_482.out, NB482_467.out, NB468_482.out, NB482_468.out, (zT HB)⟩)
      ·skip
       rintro _ w48 ⟨hS_, h0_, h1_, h2_, h3_⟩
       replace BK466 := Aside0.mk h0_; replace BK467 := Aside0.mk h1_; replace BK468 := Aside0.mk h2_; replace HB := Aside0.mk h3_; clear h0_ h1_ h2_ h3_
       have hHeld := hS_
       refine norm_ (a' := ?_) ?_ ?_
       rotate_left
       ·simp only [putAll, Act.put, List.setIfInBounds_toArray, List.set_cons_zero, List.set_cons_succ]
        rfl
       refine one_ (i := 12) (N := some 9) (zb 14 8191) rfl rfl (one_of HT_.out (by kernel_rfl)) (by decide) (fun K hK => ?_)
       refine box_step ?hg (N := 9) ?hd (cs := #[.bool false, .string (⟨#[]⟩ : ByteArray)]) (t := 24) ?hr ?_; (case hd => rfl); (case hg => rfl); (case hr => first | (go_simp; done) | (go_simp; rfl))
       intro gb482 hg w49 hbox hb
       have BK482 := Aside0.mk (hbox); have GW482 := zG hg HB; have GE482 := zG hg HB; obtain ⟨NB466_482, NB482_466⟩ := zQ hg BK466; obtain ⟨NB467_482, NB482_467⟩ := zQ hg BK467; obtain ⟨NB468_482, NB482_468⟩ := zQ hg BK468; obtain ⟨BK466, BK467, BK468⟩ := zB3 BK466 BK467 BK468 hb; replace HB := zS HB hb; clear hb hbox hg
       refine hK.out _ _ ⟨zc BK466 0, zc BK466 1, zc BK466 2, zc BK467 0, zc BK467 1, zc BK467 2⟩ (fun hHeld => ?_)
       clear hK K
       refine zW (some 9) ?_
       exact zA (hJ4_5_9_10_11_12 (gb482) _ ⟨hHeld, (zK BK466).out, (zK BK467).out, (zK BK468).out, (zK BK482).out, GW482.out, GE482.out, NB466_482.out, NB482_466.out, NB467_482.out, NB482_467.out, NB468_482.out, NB482_468.out, (zT HB)⟩)
     rintro gb482 w49 ⟨hS_, h0_, h1_, h2_, h3_, h4_, h5_, h6_, h7_, h8_, h9_, h10_, h11_, h12_⟩
     replace BK466 := Aside0.mk h0_; replace BK467 := Aside0.mk h1_; replace BK468 := Aside0.mk h2_; have BK482 := Aside0.mk h3_; have GW482 := Aside0.mk h4_; have GE482 := Aside0.mk h5_; have NB466_482 := Aside0.mk h6_; have NB482_466 := Aside0.mk h7_; have NB467_482 := Aside0.mk h8_; have NB482_467 := Aside0.mk h9_; have NB468_482 := Aside0.mk h10_; have NB482_468 := Aside0.mk h11_; replace HB := Aside0.mk h12_; clear h0_ h1_ h2_ h3_ h4_ h5_ h6_ h7_ h8_ h9_ h10_ h11_ h12_
     have hHeld := hS_
     refine norm_ (a' := ?_) ?_ ?_
     rotate_left
     ·simp only [putAll, Act.put, List.setIfInBounds_toArray, List.set_cons_zero, List.set_cons_succ]
      rfl
     refine one_ (i := 13) (N := none) (zb 14 16383) rfl rfl (one_of HT_.out (by kernel_rfl)) (by decide) (fun K hK => ?_)
     have hs50 : w49.cell? ⟨gb482, 0, none⟩ = some (.bool false) := zc BK482 0
     have hfs50 := blk_frozen BK482.out 0
     have hns50_0 := NB466_482.out
     have hns50_1 := NB467_482.out
     have hns50_2 := NB468_482.out
     have hms50_0 := NB482_466.out
     have hms50_1 := NB482_467.out
     have hms50_2 := NB482_468.out
     have hs51 : w49.cell? ⟨gb482, 1, none⟩ = some (.string (⟨#[]⟩ : ByteArray)) := zc BK482 1
     have hfs51 := blk_frozen BK482.out 1
     have hns51_0 := NB466_482.out
     have hns51_1 := NB467_482.out
     have hns51_2 := NB468_482.out
     have hms51_0 := NB482_466.out
     have hms51_1 := NB482_467.out
     have hms51_2 := NB482_468.out
     refine skip_ (w1 := ?_) (by rfl) rfl ?_ ?_
     rotate_left
     ·go_simp
      rfl
     refine hK.out _ _ ⟨((cell_far (p := ⟨gb482, _, none⟩) NB466_482.out _).trans (((cell_far (p := ⟨gb482, _, none⟩) NB466_482.out _).trans (hHeld.1)))), ((cell_far (p := ⟨gb482, _, none⟩) NB466_482.out _).trans (((cell_far (p := ⟨gb482, _, none⟩) NB466_482.out _).trans (hHeld.2.1)))), ((cell_far (p := ⟨gb482, _, none⟩) NB466_482.out _).trans (((cell_far (p := ⟨gb482, _, none⟩) NB466_482.out _).trans (hHeld.2.2.1)))), ((cell_far (p := ⟨gb482, _, none⟩) NB467_482.out _).trans (((cell_far (p := ⟨gb482, _, none⟩) NB467_482.out _).trans (hHeld.2.2.2.1)))), ((cell_far (p := ⟨gb482, _, none⟩) NB467_482.out _).trans (((cell_far (p := ⟨gb482, _, none⟩) NB467_482.out _).trans (hHeld.2.2.2.2.1)))), ((cell_far (p := ⟨gb482, _, none⟩) NB467_482.out _).trans (((cell_far (p := ⟨gb482, _, none⟩) NB467_482.out _).trans (hHeld.2.2.2.2.2))))⟩ (fun hHeld => ?_)
     clear hK K
     refine done_ (done_of HT_.out (by kernel_rfl)) ?_
     try go_wp2
     have n0_ : Aside0 (((w49.setCell ⟨gb482, 0, none⟩ (.bool t480)).setCell ⟨gb482, 1, none⟩ (.string t481)).heap[gb466]? = some (.cells #[.bool a0_0, .string a0_1, .string a0_2] 27 (0, 0))) := zK BK466; have n1_ : Aside0 (((w49.setCell ⟨gb482, 0, none⟩ (.bool t480)).setCell ⟨gb482, 1, none⟩ (.string t481)).heap[gb467]? = some (.cells #[.bool a1_0, .string a1_1, .string a1_2] 27 (0, 0))) := zK BK467; have n2_ : Aside0 (((w49.setCell ⟨gb482, 0, none⟩ (.bool t480)).setCell ⟨gb482, 1, none⟩ (.string t481)).heap[gb468]? = some (.cells #[.bool false, .string (⟨#[]⟩ : ByteArray), .string (⟨#[]⟩ : ByteArray)] 27 (0, 0))) := zK BK468; have n3_ : Aside0 (((w49.setCell ⟨gb482, 0, none⟩ (.bool t480)).setCell ⟨gb482, 1, none⟩ (.string t481)).heap[gb482]? = some (.cells #[.bool t480, .string t481] 24 (0, 0))) := ⟨by (with_reducible repeat (first | refine blk_drewN ?_ _ | refine blk_drew ?_ | refine blk_alloc ?_ _)); refine zP (cs := #[.bool t480, .string (⟨#[]⟩ : ByteArray)]) ?_ 1 _; (with_reducible repeat (first | refine blk_drewN ?_ _ | refine blk_drew ?_ | refine blk_alloc ?_ _)); refine zP (cs := #[.bool false, .string (⟨#[]⟩ : ByteArray)]) ?_ 0 _; (with_reducible repeat (first | refine blk_drewN ?_ _ | refine blk_drew ?_ | refine blk_alloc ?_ _)); exact BK482.out⟩; have n4_ : Aside0 (Below w.heap.size w ((w49.setCell ⟨gb482, 0, none⟩ (.bool t480)).setCell ⟨gb482, 1, none⟩ (.string t481))) := ⟨zT HB⟩
     (try clear BK466)
     (try clear BK467)
     (try clear BK468)
     (try clear BK482)
     (try clear HB)
     generalize ((w49.setCell ⟨gb482, 0, none⟩ (.bool t480)).setCell ⟨gb482, 1, none⟩ (.string t481)) = w52 at n0_ n1_ n2_ n3_ n4_ ⊢
     have BK466 := n0_; have BK467 := n1_
     have BK468 := n2_; have BK482 := n3_
     have HB := n4_; clear n0_ n1_ n2_ n3_ n4_
     replace BK466 := zD BK466; replace BK467 := zD BK467; replace BK468 := zD BK468; replace BK482 := zD BK482; replace HB := zF HB
     refine start_ (n := 9) (S := fun w' => w'.cell? ⟨gb482, 0, none⟩ = some (.bool t480) ∧ w'.cell? ⟨gb482, 1, none⟩ = some (.string t481) ∧ w'.cell? ⟨gb466, 0, none⟩ = some (.bool a0_0) ∧ w'.cell? ⟨gb466, 1, none⟩ = some (.string a0_1) ∧ w'.cell? ⟨gb466, 2, none⟩ = some (.string a0_2) ∧ w'.cell? ⟨gb467, 0, none⟩ = some (.bool a1_0) ∧ w'.cell? ⟨gb467, 1, none⟩ = some (.string a1_1) ∧ w'.cell? ⟨gb467, 2, none⟩ = some (.string a1_2)) (ds := []) (zb 9 0) (by kernel_rfl) rfl rfl ⟨zc BK482 0, zc BK482 1, zc BK466 0, zc BK466 1, zc BK466 2, zc BK467 0, zc BK467 1, zc BK467 2⟩ (fun hHeld => ?_); refine with_tabW rat_over_gen.tab7 rat_over_gen.bits7 (fun HT_ HW_ => ?_)
     generalize w52.drew = w53 at BK466 BK467 BK468 BK482 HB hHeld ⊢
     refine zV (i := 0) (N := some 44) (zb 9 1) (take_ofW HT_.out HW_.out (by kernel_rfl)) hHeld ?_
     refine zV (i := 1) (N := some 45) (zb 9 3) (take_ofW HT_.out HW_.out (by kernel_rfl)) hHeld ?_
     refine zV (i := 3) (N := some 47) (zb 9 11) (take_ofW HT_.out HW_.out (by kernel_rfl)) hHeld ?_
     refine one_ (i := 2) (N := some 46) (zb 9 15) rfl rfl (one_of HT_.out (by kernel_rfl)) (by decide) (fun K hK => ?_)
     refine zJ Tryz.func60 (by kernel_rfl) (rat_den.calls a0_0 a0_1 a0_2 t483 t484 _ A38.out) fun w54 hb => ?_
     obtain ⟨BK466, BK467, BK468, BK482⟩ := zB4 BK466 BK467 BK468 BK482 hb; replace HB := zS HB hb
     (try clear hb)
     refine hK.out _ _ ⟨zc BK482 0, zc BK482 1, zc BK466 0, zc BK466 1, zc BK466 2, zc BK467 0, zc BK467 1, zc BK467 2⟩ (fun hHeld => ?_)
     clear hK K
     refine zW (some 46) ?_
     refine one_ (i := 4) (N := some 48) (zb 9 31) rfl rfl (one_of HT_.out (by kernel_rfl)) (by decide) (fun K hK => ?_)
     refine zJ Tryz.func60 (by kernel_rfl) (rat_den.calls a1_0 a1_1 a1_2 t485 t486 _ A39.out) fun w55 hb => ?_
     obtain ⟨BK466, BK467, BK468, BK482⟩ := zB4 BK466 BK467 BK468 BK482 hb; replace HB := zS HB hb
     (try clear hb)
     refine hK.out _ _ ⟨zc BK482 0, zc BK482 1, zc BK466 0, zc BK466 1, zc BK466 2, zc BK467 0, zc BK467 1, zc BK467 2⟩ (fun hHeld => ?_)
     clear hK K
     refine zW (some 48) ?_
     refine one_ (i := 5) (N := some 49) (zb 9 63) rfl rfl (one_of HT_.out (by kernel_rfl)) (by decide) (fun K hK => ?_)
     refine zJ Tryz.func57 (by kernel_rfl) (rat_do_of_whole_Mul.calls t483 t484 t485 t486 t487 t488 _ A40.out) fun w56 hb => ?_
     obtain ⟨BK466, BK467, BK468, BK482⟩ := zB4 BK466 BK467 BK468 BK482 hb; replace HB := zS HB hb
     (try clear hb)
     refine hK.out _ _ ⟨zc BK482 0, zc BK482 1, zc BK466 0, zc BK466 1, zc BK466 2, zc BK467 0, zc BK467 1, zc BK467 2⟩ (fun hHeld => ?_)
     clear hK K
     refine zW (some 49) ?_
     refine one_ (i := 6) (N := some 50) (zb 9 127) rfl rfl (one_of HT_.out (by kernel_rfl)) (by decide) (fun K hK => ?_)
     refine zJ Tryz.func47 (by kernel_rfl) (rat_lowest.calls kj4 t480 t481 t487 t488 t489 t490 t491 _ A41.out) fun w57 hb => ?_
     obtain ⟨BK466, BK467, BK468, BK482⟩ := zB4 BK466 BK467 BK468 BK482 hb; replace HB := zS HB hb
     (try clear hb)
     refine hK.out _ _ ⟨zc BK482 0, zc BK482 1, zc BK466 0, zc BK466 1, zc BK466 2, zc BK467 0, zc BK467 1, zc BK467 2⟩ (fun hHeld => ?_)
     clear hK K
     refine zW (some 50) ?_
     refine one_ (i := 7) (N := none) (zb 9 255) rfl rfl (one_of HT_.out (by kernel_rfl)) (by decide) (fun K hK => ?_)
     have hs58 : w57.cell? ⟨gb468, 0, none⟩ = some (.bool false) := zc BK468 0
     have hfs58 := blk_frozen BK468.out 0
     have hns58_0 := NB466_468.out
     have hns58_1 := NB467_468.out
     have hns58_3 := NB482_468.out
     have hms58_0 := NB468_466.out
     have hms58_1 := NB468_467.out
     have hms58_3 := NB468_482.out
     have hs59 : w57.cell? ⟨gb468, 1, none⟩ = some (.string (⟨#[]⟩ : ByteArray)) := zc BK468 1
     have hfs59 := blk_frozen BK468.out 1
     have hns59_0 := NB466_468.out
     have hns59_1 := NB467_468.out
     have hns59_3 := NB482_468.out
     have hms59_0 := NB468_466.out
     have hms59_1 := NB468_467.out
     have hms59_3 := NB468_482.out
     have hs60 : w57.cell? ⟨gb468, 2, none⟩ = some (.string (⟨#[]⟩ : ByteArray)) := zc BK468 2
     have hfs60 := blk_frozen BK468.out 2
     have hns60_0 := NB466_468.out
     have hns60_1 := NB467_468.out
     have hns60_3 := NB482_468.out
     have hms60_0 := NB468_466.out
     have hms60_1 := NB468_467.out
     have hms60_3 := NB468_482.out
     refine skip_ (w1 := ?_) (by rfl) rfl ?_ ?_
     rotate_left
     ·go_simp
      rfl
     refine hK.out _ _ ⟨((cell_far (p := ⟨gb468, _, none⟩) NB482_468.out _).trans (((cell_far (p := ⟨gb468, _, none⟩) NB482_468.out _).trans (((cell_far (p := ⟨gb468, _, none⟩) NB482_468.out _).trans (hHeld.1)))))), ((cell_far (p := ⟨gb468, _, none⟩) NB482_468.out _).trans (((cell_far (p := ⟨gb468, _, none⟩) NB482_468.out _).trans (((cell_far (p := ⟨gb468, _, none⟩) NB482_468.out _).trans (hHeld.2.1)))))), ((cell_far (p := ⟨gb468, _, none⟩) NB466_468.out _).trans (((cell_far (p := ⟨gb468, _, none⟩) NB466_468.out _).trans (((cell_far (p := ⟨gb468, _, none⟩) NB466_468.out _).trans (hHeld.2.2.1)))))), ((cell_far (p := ⟨gb468, _, none⟩) NB466_468.out _).trans (((cell_far (p := ⟨gb468, _, none⟩) NB466_468.out _).trans (((cell_far (p := ⟨gb468, _, none⟩) NB466_468.out _).trans (hHeld.2.2.2.1)))))), ((cell_far (p := ⟨gb468, _, none⟩) NB466_468.out _).trans (((cell_far (p := ⟨gb468, _, none⟩) NB466_468.out _).trans (((cell_far (p := ⟨gb468, _, none⟩) NB466_468.out _).trans (hHeld.2.2.2.2.1)))))), ((cell_far (p := ⟨gb468, _, none⟩) NB467_468.out _).trans (((cell_far (p := ⟨gb468, _, none⟩) NB467_468.out _).trans (((cell_far (p := ⟨gb468, _, none⟩) NB467_468.out _).trans (hHeld.2.2.2.2.2.1)))))), ((cell_far (p := ⟨gb468, _, none⟩) NB467_468.out _).trans (((cell_far (p := ⟨gb468, _, none⟩) NB467_468.out _).trans (((cell_far (p := ⟨gb468, _, none⟩) NB467_468.out _).trans (hHeld.2.2.2.2.2.2.1)))))), ((cell_far (p := ⟨gb468, _, none⟩) NB467_468.out _).trans (((cell_far (p := ⟨gb468, _, none⟩) NB467_468.out _).trans (((cell_far (p := ⟨gb468, _, none⟩) NB467_468.out _).trans (hHeld.2.2.2.2.2.2.2))))))⟩ (fun hHeld => ?_)
     clear hK K
     refine zU (i := 8) (N := some 7) (zb 9 511) (any_of HT_.out (by kernel_rfl)) ?_
     refine done_ (done_of HT_.out (by kernel_rfl)) ?_
     try go_wp2
     refine bodyPost_ret (results_ct rfl _ _ gb468 27 #[.bool t489, .string t490, .string t491] (0, 0) _ rfl (by (with_reducible repeat (first | refine blk_drewN ?_ _ | refine blk_drew ?_ | refine blk_alloc ?_ _)); refine zP (cs := #[.bool t489, .string t490, .string (⟨#[]⟩ : ByteArray)]) ?_ 2 _; (with_reducible repeat (first | refine blk_drewN ?_ _ | refine blk_drew ?_ | refine blk_alloc ?_ _)); refine zP (cs := #[.bool t489, .string (⟨#[]⟩ : ByteArray), .string (⟨#[]⟩ : ByteArray)]) ?_ 1 _; (with_reducible repeat (first | refine blk_drewN ?_ _ | refine blk_drew ?_ | refine blk_alloc ?_ _)); refine zP (cs := #[.bool false, .string (⟨#[]⟩ : ByteArray), .string (⟨#[]⟩ : ByteArray)]) ?_ 0 _; (with_reducible repeat (first | refine blk_drewN ?_ _ | refine blk_drew ?_ | refine blk_alloc ?_ _)); exact BK468.out) Tryz.underlying27 rfl (by kernel_rfl)) rfl ?_
     exact ⟨zH, zT HB⟩
 ·rw [if_neg c4] at H
  have c4b0 := beq_eq_false_iff_ne.mpr c4
  have c4b1 := bne_iff_ne.mpr c4
  simp only [Option.some.injEq, Prod.mk.injEq] at H
  obtain ⟨rfl, rfl, rfl, rfl⟩ := H
  go_enter Tryz.func73, Tryz.ntmps73
  go_wp2_with (first | ((with_reducible refine gate_dst (N := 3) rfl ?_); refine zY 3 #[.bool a0_0, .string a0_1, .string a0_2] 27 ?_; intro gb466 hg w61 hbox hb; have BK466 := Aside0.mk (hbox); have GW466 := zG hg HB; have GE466 := zG hg HB; replace HB := zS HB hb; clear hb hbox hg) | ((with_reducible refine gate_dst (N := 4) rfl ?_); refine zY 4 #[.bool a1_0, .string a1_1, .string a1_2] 27 ?_; intro gb467 hg w62 hbox hb; have BK467 := Aside0.mk (hbox); have GW467 := zG hg HB; have GE467 := zG hg HB; obtain ⟨NB466_467, NB467_466⟩ := zQ hg BK466; replace BK466 := zB BK466 hb; replace HB := zS HB hb; clear hb hbox hg) | ((with_reducible refine gate_dst (N := 6) rfl ?_); refine zY 6 #[.bool false, .string (⟨#[]⟩ : ByteArray), .string (⟨#[]⟩ : ByteArray)] 27 ?_; intro gb468 hg w63 hbox hb; have BK468 := Aside0.mk (hbox); have GW468 := zG hg HB; have GE468 := zG hg HB; obtain ⟨NB466_468, NB468_466⟩ := zQ hg BK466; obtain ⟨NB467_468, NB468_467⟩ := zQ hg BK467; obtain ⟨BK466, BK467⟩ := zB2 BK466 BK467 hb; replace HB := zS HB hb; clear hb hbox hg; have hnb64 := NB466_467.out; have hnc64 := NB467_466.out; have hnb65 := NB466_468.out; have hnc65 := NB468_466.out; obtain ⟨hcz66_0, hcz66_1, hcz66_2, hfz66_0, hfz66_1, hfz66_2⟩ := z3 BK466; have hnb67 := NB467_468.out; have hnc67 := NB468_467.out; obtain ⟨hcz68_0, hcz68_1, hcz68_2, hfz68_0, hfz68_1, hfz68_2⟩ := z3 BK467) | ((with_reducible refine gate_callee (f := 72) rfl ?_); refine zO Tryz.func72 (by kernel_rfl) (rat_both.calls k a0_0 a0_1 a0_2 a1_0 a1_1 a1_2 t469 _ A3.out) fun w69 hb => ?_; obtain ⟨BK466, BK467, BK468⟩ := zB3 BK466 BK467 BK468 hb; replace HB := zS HB hb; (try clear hb); obtain ⟨hcz70_0, hcz70_1, hcz70_2, hfz70_0, hfz70_1, hfz70_2⟩ := z3 BK468))
  refine bodyPost_ret (results_ct rfl _ _ gb468 27 #[.bool false, .string (⟨#[]⟩ : ByteArray), .string (⟨#[]⟩ : ByteArray)] (0, 0) _ rfl (by (with_reducible repeat (first | refine blk_drewN ?_ _ | refine blk_drew ?_ | refine blk_alloc ?_ _)); refine zP (cs := #[.bool false, .string (⟨#[]⟩ : ByteArray), .string (⟨#[]⟩ : ByteArray)]) ?_ 2 _; (with_reducible repeat (first | refine blk_drewN ?_ _ | refine blk_drew ?_ | refine blk_alloc ?_ _)); refine zP (cs := #[.bool false, .string (⟨#[]⟩ : ByteArray), .string (⟨#[]⟩ : ByteArray)]) ?_ 1 _; (with_reducible repeat (first | refine blk_drewN ?_ _ | refine blk_drew ?_ | refine blk_alloc ?_ _)); refine zP (cs := #[.bool false, .string (⟨#[]⟩ : ByteArray), .string (⟨#[]⟩ : ByteArray)]) ?_ 0 _; (with_reducible repeat (first | refine blk_drewN ?_ _ | refine blk_drew ?_ | refine blk_alloc ?_ _)); exact BK468.out) Tryz.underlying27 rfl (by kernel_rfl)) rfl ?_
  exact ⟨zH, zT HB⟩

end Go.Proofs.YtoijlbcbbblbfaaGreatDoorH.R

namespace Go.Proofs.YtoijlbcbbblbfaaGreatDoorH.R
open Go.RowKit Go.Proofs.YtoijlbcbbblbfaaGreatDoorH.Z Go.Proofs.YtoijlbcbbblbfaaGreatDoorW.PrintWords Go.Proofs.YtoijlbcbbblbfaaGreatDoorW.PrintLast Go.Proofs.YtoijlbcbbblbfaaGreatDoorW.PrintMore
set_option linter.unusedVariables false
set_option linter.unusedSimpArgs false
def rat_over_of_whole_Add.f (k : Nat) (a0_0 : Bool) (a0_1 : ByteArray) (a0_2 : ByteArray) (a1_0 : Bool) (a1_1 : ByteArray) (a1_2 : ByteArray) : Option (Bool × ByteArray × ByteArray × Int) := rat_over_gen.f rat_do_of_whole_Add.f k a0_0 a0_1 a0_2 a1_0 a1_1 a1_2
theorem rat_over_of_whole_Add.calls (k : Nat) (a0_0 : Bool) (a0_1 : ByteArray) (a0_2 : ByteArray) (a1_0 : Bool) (a1_1 : ByteArray) (a1_2 : ByteArray) (r1 : Bool) (r2 : ByteArray) (r3 : ByteArray) (r4 : Int) (w : World) (h : rat_over_of_whole_Add.f k a0_0 a0_1 a0_2 a1_0 a1_1 a1_2 = some (r1, r2, r3, r4)) :
  Calls Tryz.prog 73 #[.agg #[.bool a0_0, .string a0_1, .string a0_2], .agg #[.bool a1_0, .string a1_1, .string a1_2], .func (.func 74) #[] #[]] w fun e w' => e = .returned (.tuple #[.agg #[.bool r1, .string r2, .string r3], .int .i64 r4]) ∧ Below w.heap.size w w' :=
 rat_over_gen.calls 74 _ ⟨fun n s m t r1 r2 w h => rat_do_of_whole_Add.calls n s m t r1 r2 w h⟩ k _ _ _ _ _ _ _ _ _ _ w h
end Go.Proofs.YtoijlbcbbblbfaaGreatDoorH.R

-- printed by hp.py, sq3
namespace Go.Proofs.YtoijlbcbbblbfaaGreatDoorH.R
open Go.RowKit Go.Proofs.YtoijlbcbbblbfaaGreatDoorH.Z Go.Proofs.YtoijlbcbbblbfaaGreatDoorW.PrintWords Go.Proofs.YtoijlbcbbblbfaaGreatDoorW.PrintLast Go.Proofs.YtoijlbcbbblbfaaGreatDoorW.PrintMore
attribute [local go_sem] max2_int min2_int max_two min_two max_three min_three max_four min_four   -- for this text's walks alone
set_option linter.unusedVariables false
set_option linter.unusedSimpArgs false

/-! ### rat_Add: function 34 -/
def rat_Add.f (k : Nat) (a0_0 : Bool) (a0_1 : ByteArray) (a0_2 : ByteArray) (a1_0 : Bool) (a1_1 : ByteArray) (a1_2 : ByteArray) : Option (Bool × ByteArray × ByteArray × Int) := (rat_over_of_whole_Add.f k a0_0 a0_1 a0_2 a1_0 a1_1 a1_2).bind fun bt495 => (some (bt495.1, bt495.2.1, bt495.2.2.1, bt495.2.2.2))
set_option maxHeartbeats 8000000 in
set_option maxRecDepth 100000 in
theorem rat_Add.calls (k : Nat) (a0_0 : Bool) (a0_1 : ByteArray) (a0_2 : ByteArray) (a1_0 : Bool) (a1_1 : ByteArray) (a1_2 : ByteArray) (r1 : Bool) (r2 : ByteArray) (r3 : ByteArray) (r4 : Int) (w : World) (h : rat_Add.f k a0_0 a0_1 a0_2 a1_0 a1_1 a1_2 = some (r1, r2, r3, r4)) :
  Calls Tryz.prog 34 #[.agg #[.bool a0_0, .string a0_1, .string a0_2], .agg #[.bool a1_0, .string a1_1, .string a1_2]] w fun e w' => e = .returned (.tuple #[.agg #[.bool r1, .string r2, .string r3], .int .i64 r4]) ∧ Below w.heap.size w w' := by
 have hu27 := Tryz.underlying27
 have HB := Aside0.mk (Below.refl w.heap.size w)
 unfold rat_Add.f at h; have H := h; clear h
 obtain ⟨⟨t495, t496, t497, t498⟩, A3, H⟩ := zo H; try dsimp only at H
 simp only [Option.some.injEq, Prod.mk.injEq] at H
 obtain ⟨rfl, rfl, rfl, rfl⟩ := H
 go_enter Tryz.func34, Tryz.ntmps34
 go_wp2_with (first | ((with_reducible refine gate_dst (N := 2) rfl ?_); refine zY 2 #[.bool a0_0, .string a0_1, .string a0_2] 27 ?_; intro gb492 hg w4 hbox hb; have BK492 := Aside0.mk (hbox); have GW492 := zG hg HB; have GE492 := zG hg HB; replace HB := zS HB hb; clear hb hbox hg) | ((with_reducible refine gate_dst (N := 3) rfl ?_); refine zY 3 #[.bool a1_0, .string a1_1, .string a1_2] 27 ?_; intro gb493 hg w5 hbox hb; have BK493 := Aside0.mk (hbox); have GW493 := zG hg HB; have GE493 := zG hg HB; obtain ⟨NB492_493, NB493_492⟩ := zQ hg BK492; replace BK492 := zB BK492 hb; replace HB := zS HB hb; clear hb hbox hg) | ((with_reducible refine gate_dst (N := 4) rfl ?_); refine zY 4 #[.bool false, .string (⟨#[]⟩ : ByteArray), .string (⟨#[]⟩ : ByteArray)] 27 ?_; intro gb494 hg w6 hbox hb; have BK494 := Aside0.mk (hbox); have GW494 := zG hg HB; have GE494 := zG hg HB; obtain ⟨NB492_494, NB494_492⟩ := zQ hg BK492; obtain ⟨NB493_494, NB494_493⟩ := zQ hg BK493; obtain ⟨BK492, BK493⟩ := zB2 BK492 BK493 hb; replace HB := zS HB hb; clear hb hbox hg; have hnb7 := NB492_493.out; have hnc7 := NB493_492.out; have hnb8 := NB492_494.out; have hnc8 := NB494_492.out; obtain ⟨hcz9_0, hcz9_1, hcz9_2, hfz9_0, hfz9_1, hfz9_2⟩ := z3 BK492; have hnb10 := NB493_494.out; have hnc10 := NB494_493.out; obtain ⟨hcz11_0, hcz11_1, hcz11_2, hfz11_0, hfz11_1, hfz11_2⟩ := z3 BK493) | ((with_reducible refine gate_callee (f := 73) rfl ?_); refine zO Tryz.func73 (by kernel_rfl) (rat_over_of_whole_Add.calls k a0_0 a0_1 a0_2 a1_0 a1_1 a1_2 t495 t496 t497 t498 _ A3.out) fun w12 hb => ?_; obtain ⟨BK492, BK493, BK494⟩ := zB3 BK492 BK493 BK494 hb; replace HB := zS HB hb; (try clear hb); obtain ⟨hcz13_0, hcz13_1, hcz13_2, hfz13_0, hfz13_1, hfz13_2⟩ := z3 BK494))
 refine bodyPost_ret (results_ct rfl _ _ gb494 27 #[.bool t495, .string t496, .string t497] (0, 0) _ rfl (by (with_reducible repeat (first | refine blk_drewN ?_ _ | refine blk_drew ?_ | refine blk_alloc ?_ _)); refine zP (cs := #[.bool t495, .string t496, .string (⟨#[]⟩ : ByteArray)]) ?_ 2 _; (with_reducible repeat (first | refine blk_drewN ?_ _ | refine blk_drew ?_ | refine blk_alloc ?_ _)); refine zP (cs := #[.bool t495, .string (⟨#[]⟩ : ByteArray), .string (⟨#[]⟩ : ByteArray)]) ?_ 1 _; (with_reducible repeat (first | refine blk_drewN ?_ _ | refine blk_drew ?_ | refine blk_alloc ?_ _)); refine zP (cs := #[.bool false, .string (⟨#[]⟩ : ByteArray), .string (⟨#[]⟩ : ByteArray)]) ?_ 0 _; (with_reducible repeat (first | refine blk_drewN ?_ _ | refine blk_drew ?_ | refine blk_alloc ?_ _)); exact BK494.out) Tryz.underlying27 rfl (by kernel_rfl)) rfl ?_
 exact ⟨zH, zT HB⟩


/-! ### whole_Sub: function 76 -/
open Go.Proofs.YtoijlbcbbblbfaaGreatDoor Go.Proofs.YtoijlbcbbblbfaaGreatDoor.Num in
def whole_Sub.f (a0_0 : Bool) (a0_1 : ByteArray) (a1_0 : Bool) (a1_1 : ByteArray) : Option (Bool × ByteArray × Int) := if a0_1.size ≤ 15000 ∧ a1_1.size ≤ 15000 then some ((binF (· - ·) (a0_0, a0_1) (a1_0, a1_1)).1.1, (binF (· - ·) (a0_0, a0_1) (a1_0, a1_1)).1.2, (binF (· - ·) (a0_0, a0_1) (a1_0, a1_1)).2) else none
open Go.Proofs.YtoijlbcbbblbfaaGreatDoor Go.Proofs.YtoijlbcbbblbfaaGreatDoor.Num in
theorem whole_Sub.calls (a0_0 : Bool) (a0_1 : ByteArray) (a1_0 : Bool) (a1_1 : ByteArray) (r1 : Bool) (r2 : ByteArray) (r3 : Int) (w : World) (h : whole_Sub.f a0_0 a0_1 a1_0 a1_1 = some (r1, r2, r3)) :
  Calls Tryz.prog 76 #[.agg #[.bool a0_0, .string a0_1], .agg #[.bool a1_0, .string a1_1]] w fun e w' => e = .returned (.tuple #[.agg #[.bool r1, .string r2], .int .i64 r3]) ∧ Below w.heap.size w w' := by
 unfold whole_Sub.f at h
 split at h
 ·rename_i hc
  simp only [Option.some.injEq, Prod.mk.injEq] at h
  obtain ⟨rfl, rfl, rfl⟩ := h
  exact (sub_f (a0_0, a0_1) (a1_0, a1_1) hc.1 hc.2).out w
 ·exact absurd h (by simp)



/-! ### rat_do_of_whole_Sub: function 9000003 -/
open Go.Proofs.YtoijlbcbbblbfaaGreatDoor Go.Proofs.YtoijlbcbbblbfaaGreatDoor.Num in
def rat_do_of_whole_Sub.f (a0_0 : Bool) (a0_1 : ByteArray) (a1_0 : Bool) (a1_1 : ByteArray) : Option (Bool × ByteArray) := (whole_Sub.f a0_0 a0_1 a1_0 a1_1).map fun r => (r.1, r.2.1)
open Go.Proofs.YtoijlbcbbblbfaaGreatDoor Go.Proofs.YtoijlbcbbblbfaaGreatDoor.Num in
theorem rat_do_of_whole_Sub.calls (a0_0 : Bool) (a0_1 : ByteArray) (a1_0 : Bool) (a1_1 : ByteArray) (r1 : Bool) (r2 : ByteArray) (w : World) (h : rat_do_of_whole_Sub.f a0_0 a0_1 a1_0 a1_1 = some (r1, r2)) :
  Calls Tryz.prog 57 #[.func (.func 76) #[] #[], .agg #[.bool a0_0, .string a0_1], .agg #[.bool a1_0, .string a1_1]] w fun e w' => e = .returned (.agg #[.bool r1, .string r2]) ∧ Below w.heap.size w w' := by
 unfold rat_do_of_whole_Sub.f at h
 obtain ⟨⟨x1, x2, x3⟩, hx, he⟩ := Option.map_eq_some_iff.1 h
 simp only [Prod.mk.injEq] at he
 obtain ⟨rfl, rfl⟩ := he
 exact do_Sub _ _ _ _ _ _ _ (Lib.hid fun w => whole_Sub.calls _ _ _ _ _ _ _ w hx) w


end Go.Proofs.YtoijlbcbbblbfaaGreatDoorH.R

namespace Go.Proofs.YtoijlbcbbblbfaaGreatDoorH.R
open Go.RowKit Go.Proofs.YtoijlbcbbblbfaaGreatDoorH.Z Go.Proofs.YtoijlbcbbblbfaaGreatDoorW.PrintWords Go.Proofs.YtoijlbcbbblbfaaGreatDoorW.PrintLast Go.Proofs.YtoijlbcbbblbfaaGreatDoorW.PrintMore
set_option linter.unusedVariables false
set_option linter.unusedSimpArgs false
def rat_over_of_whole_Sub.f (k : Nat) (a0_0 : Bool) (a0_1 : ByteArray) (a0_2 : ByteArray) (a1_0 : Bool) (a1_1 : ByteArray) (a1_2 : ByteArray) : Option (Bool × ByteArray × ByteArray × Int) := rat_over_gen.f rat_do_of_whole_Sub.f k a0_0 a0_1 a0_2 a1_0 a1_1 a1_2
theorem rat_over_of_whole_Sub.calls (k : Nat) (a0_0 : Bool) (a0_1 : ByteArray) (a0_2 : ByteArray) (a1_0 : Bool) (a1_1 : ByteArray) (a1_2 : ByteArray) (r1 : Bool) (r2 : ByteArray) (r3 : ByteArray) (r4 : Int) (w : World) (h : rat_over_of_whole_Sub.f k a0_0 a0_1 a0_2 a1_0 a1_1 a1_2 = some (r1, r2, r3, r4)) :
  Calls Tryz.prog 73 #[.agg #[.bool a0_0, .string a0_1, .string a0_2], .agg #[.bool a1_0, .string a1_1, .string a1_2], .func (.func 76) #[] #[]] w fun e w' => e = .returned (.tuple #[.agg #[.bool r1, .string r2, .string r3], .int .i64 r4]) ∧ Below w.heap.size w w' :=
 rat_over_gen.calls 76 _ ⟨fun n s m t r1 r2 w h => rat_do_of_whole_Sub.calls n s m t r1 r2 w h⟩ k _ _ _ _ _ _ _ _ _ _ w h
end Go.Proofs.YtoijlbcbbblbfaaGreatDoorH.R

-- printed by hp.py, sq3
namespace Go.Proofs.YtoijlbcbbblbfaaGreatDoorH.R
open Go.RowKit Go.Proofs.YtoijlbcbbblbfaaGreatDoorH.Z Go.Proofs.YtoijlbcbbblbfaaGreatDoorW.PrintWords Go.Proofs.YtoijlbcbbblbfaaGreatDoorW.PrintLast Go.Proofs.YtoijlbcbbblbfaaGreatDoorW.PrintMore
attribute [local go_sem] max2_int min2_int max_two min_two max_three min_three max_four min_four   -- for this text's walks alone
set_option linter.unusedVariables false
set_option linter.unusedSimpArgs false

/-! ### rat_Sub: function 36 -/
def rat_Sub.f (k : Nat) (a0_0 : Bool) (a0_1 : ByteArray) (a0_2 : ByteArray) (a1_0 : Bool) (a1_1 : ByteArray) (a1_2 : ByteArray) : Option (Bool × ByteArray × ByteArray × Int) := (rat_over_of_whole_Sub.f k a0_0 a0_1 a0_2 a1_0 a1_1 a1_2).bind fun bt591 => (some (bt591.1, bt591.2.1, bt591.2.2.1, bt591.2.2.2))
set_option maxHeartbeats 8000000 in
set_option maxRecDepth 100000 in
theorem rat_Sub.calls (k : Nat) (a0_0 : Bool) (a0_1 : ByteArray) (a0_2 : ByteArray) (a1_0 : Bool) (a1_1 : ByteArray) (a1_2 : ByteArray) (r1 : Bool) (r2 : ByteArray) (r3 : ByteArray) (r4 : Int) (w : World) (h : rat_Sub.f k a0_0 a0_1 a0_2 a1_0 a1_1 a1_2 = some (r1, r2, r3, r4)) :
  Calls Tryz.prog 36 #[.agg #[.bool a0_0, .string a0_1, .string a0_2], .agg #[.bool a1_0, .string a1_1, .string a1_2]] w fun e w' => e = .returned (.tuple #[.agg #[.bool r1, .string r2, .string r3], .int .i64 r4]) ∧ Below w.heap.size w w' := by
 have hu27 := Tryz.underlying27
 have HB := Aside0.mk (Below.refl w.heap.size w)
 unfold rat_Sub.f at h; have H := h; clear h
 obtain ⟨⟨t591, t592, t593, t594⟩, A3, H⟩ := zo H; try dsimp only at H
 simp only [Option.some.injEq, Prod.mk.injEq] at H
 obtain ⟨rfl, rfl, rfl, rfl⟩ := H
 go_enter Tryz.func36, Tryz.ntmps36
 go_wp2_with (first | ((with_reducible refine gate_dst (N := 2) rfl ?_); refine zY 2 #[.bool a0_0, .string a0_1, .string a0_2] 27 ?_; intro gb588 hg w4 hbox hb; have BK588 := Aside0.mk (hbox); have GW588 := zG hg HB; have GE588 := zG hg HB; replace HB := zS HB hb; clear hb hbox hg) | ((with_reducible refine gate_dst (N := 3) rfl ?_); refine zY 3 #[.bool a1_0, .string a1_1, .string a1_2] 27 ?_; intro gb589 hg w5 hbox hb; have BK589 := Aside0.mk (hbox); have GW589 := zG hg HB; have GE589 := zG hg HB; obtain ⟨NB588_589, NB589_588⟩ := zQ hg BK588; replace BK588 := zB BK588 hb; replace HB := zS HB hb; clear hb hbox hg) | ((with_reducible refine gate_dst (N := 4) rfl ?_); refine zY 4 #[.bool false, .string (⟨#[]⟩ : ByteArray), .string (⟨#[]⟩ : ByteArray)] 27 ?_; intro gb590 hg w6 hbox hb; have BK590 := Aside0.mk (hbox); have GW590 := zG hg HB; have GE590 := zG hg HB; obtain ⟨NB588_590, NB590_588⟩ := zQ hg BK588; obtain ⟨NB589_590, NB590_589⟩ := zQ hg BK589; obtain ⟨BK588, BK589⟩ := zB2 BK588 BK589 hb; replace HB := zS HB hb; clear hb hbox hg; have hnb7 := NB588_589.out; have hnc7 := NB589_588.out; have hnb8 := NB588_590.out; have hnc8 := NB590_588.out; obtain ⟨hcz9_0, hcz9_1, hcz9_2, hfz9_0, hfz9_1, hfz9_2⟩ := z3 BK588; have hnb10 := NB589_590.out; have hnc10 := NB590_589.out; obtain ⟨hcz11_0, hcz11_1, hcz11_2, hfz11_0, hfz11_1, hfz11_2⟩ := z3 BK589) | ((with_reducible refine gate_callee (f := 73) rfl ?_); refine zO Tryz.func73 (by kernel_rfl) (rat_over_of_whole_Sub.calls k a0_0 a0_1 a0_2 a1_0 a1_1 a1_2 t591 t592 t593 t594 _ A3.out) fun w12 hb => ?_; obtain ⟨BK588, BK589, BK590⟩ := zB3 BK588 BK589 BK590 hb; replace HB := zS HB hb; (try clear hb); obtain ⟨hcz13_0, hcz13_1, hcz13_2, hfz13_0, hfz13_1, hfz13_2⟩ := z3 BK590))
 refine bodyPost_ret (results_ct rfl _ _ gb590 27 #[.bool t591, .string t592, .string t593] (0, 0) _ rfl (by (with_reducible repeat (first | refine blk_drewN ?_ _ | refine blk_drew ?_ | refine blk_alloc ?_ _)); refine zP (cs := #[.bool t591, .string t592, .string (⟨#[]⟩ : ByteArray)]) ?_ 2 _; (with_reducible repeat (first | refine blk_drewN ?_ _ | refine blk_drew ?_ | refine blk_alloc ?_ _)); refine zP (cs := #[.bool t591, .string (⟨#[]⟩ : ByteArray), .string (⟨#[]⟩ : ByteArray)]) ?_ 1 _; (with_reducible repeat (first | refine blk_drewN ?_ _ | refine blk_drew ?_ | refine blk_alloc ?_ _)); refine zP (cs := #[.bool false, .string (⟨#[]⟩ : ByteArray), .string (⟨#[]⟩ : ByteArray)]) ?_ 0 _; (with_reducible repeat (first | refine blk_drewN ?_ _ | refine blk_drew ?_ | refine blk_alloc ?_ _)); exact BK590.out) Tryz.underlying27 rfl (by kernel_rfl)) rfl ?_
 exact ⟨zH, zT HB⟩


/-! ### rat_Cmp: function 35 -/
def rat_Cmp.f (k : Nat) (a0_0 : Bool) (a0_1 : ByteArray) (a0_2 : ByteArray) (a1_0 : Bool) (a1_1 : ByteArray) (a1_2 : ByteArray) : Option (Int × Int) := (rat_both.f k a0_0 a0_1 a0_2 a1_0 a1_1 a1_2).bind fun t551 => (if t551 = 0 then ((rat_den.f a1_0 a1_1 a1_2).bind fun bt552 => ((rat_do_of_whole_Mul.f a0_0 a0_1 bt552.1 bt552.2).bind fun bt554 => ((rat_den.f a0_0 a0_1 a0_2).bind fun bt556 => ((rat_do_of_whole_Mul.f a1_0 a1_1 bt556.1 bt556.2).bind fun bt558 => ((whole_Cmp.f bt554.1 bt554.2 bt558.1 bt558.2).bind fun bt560 => (some (bt560.1, bt560.2))))))) else (some (0, t551)))
def rat_Cmp.T4 : Bool × List (List Nat × List Nat) := (true, [([], []), ([0], [0]), ([], []), ([2], [2]), ([1, 3, 3], [1, 3]), ([], []), ([5], [5]), ([], []), ([7, 4], [7]), ([6, 8, 8], [6, 8]), ([4, 9, 9], [4, 9]), ([10], [10]), ([10], [10]), ([11, 10, 0, 1, 2, 3, 4, 5, 6, 7, 8, 9, 10, 11, 12], [11]), ([12, 13, 0, 1, 2, 3, 4, 5, 6, 7, 8, 9, 10, 11, 12, 13], [12])])
def rat_Cmp.B4 : List Nat := [0, 1, 0, 4, 15, 0, 32, 0, 159, 511, 1023, 2047, 2047, 8191, 16383]
theorem rat_Cmp.tab4 : rtab .any (opsOf Tryz.f35 4) = rat_Cmp.T4 := by kernel_rfl
theorem rat_Cmp.bits4 : waitsOk rat_Cmp.T4.2 rat_Cmp.B4 = true := by kernel_rfl
set_option maxHeartbeats 8000000 in
set_option maxRecDepth 100000 in
theorem rat_Cmp.calls (k : Nat) (a0_0 : Bool) (a0_1 : ByteArray) (a0_2 : ByteArray) (a1_0 : Bool) (a1_1 : ByteArray) (a1_2 : ByteArray) (r1 : Int) (r2 : Int) (w : World) (h : rat_Cmp.f k a0_0 a0_1 a0_2 a1_0 a1_1 a1_2 = some (r1, r2)) :
  Calls Tryz.prog 35 #[.agg #[.bool a0_0, .string a0_1, .string a0_2], .agg #[.bool a1_0, .string a1_1, .string a1_2]] w fun e w' => e = .returned (.tuple #[.int .i64 r1, .int .i64 r2]) ∧ Below w.heap.size w w' := by
 have hu27 := Tryz.underlying27
 have hu24 := Tryz.underlying24; have hf0 := zf240; have hf1 := zf241; have hf2 := zf270; have hf3 := zf271
 have HB := Aside0.mk (Below.refl w.heap.size w)
 unfold rat_Cmp.f at h; have H := h; clear h
 obtain ⟨t551, A3, H⟩ := zo H
 by_cases c4 : t551 = 0
 ·rw [if_pos c4] at H
  have c4b0 := beq_iff_eq.mpr c4
  have c4b1 := bne_eq_false_iff_eq.mpr c4
  clear c4
  obtain ⟨⟨t552, t553⟩, A5, H⟩ := zo H; try dsimp only at H
  obtain ⟨⟨t554, t555⟩, A6, H⟩ := zo H; try dsimp only at H
  obtain ⟨⟨t556, t557⟩, A7, H⟩ := zo H; try dsimp only at H
  obtain ⟨⟨t558, t559⟩, A8, H⟩ := zo H; try dsimp only at H
  obtain ⟨⟨t560, t561⟩, A9, H⟩ := zo H; try dsimp only at H
  simp only [Option.some.injEq, Prod.mk.injEq] at H
  obtain ⟨rfl, rfl⟩ := H
  go_enter Tryz.func35, Tryz.ntmps35
  try go_wp2_with (first | ((with_reducible refine gate_dst (N := 2) rfl ?_); refine zY 2 #[.bool a0_0, .string a0_1, .string a0_2] 27 ?_; intro gb549 hg w10 hbox hb; have BK549 := Aside0.mk (hbox); have GW549 := zG hg HB; have GE549 := zG hg HB; replace HB := zS HB hb; clear hb hbox hg) | ((with_reducible refine gate_dst (N := 3) rfl ?_); refine zY 3 #[.bool a1_0, .string a1_1, .string a1_2] 27 ?_; intro gb550 hg w11 hbox hb; have BK550 := Aside0.mk (hbox); have GW550 := zG hg HB; have GE550 := zG hg HB; obtain ⟨NB549_550, NB550_549⟩ := zQ hg BK549; replace BK549 := zB BK549 hb; replace HB := zS HB hb; clear hb hbox hg; have hnb12 := NB549_550.out; have hnc12 := NB550_549.out; obtain ⟨hcz13_0, hcz13_1, hcz13_2, hfz13_0, hfz13_1, hfz13_2⟩ := z3 BK549; obtain ⟨hcz14_0, hcz14_1, hcz14_2, hfz14_0, hfz14_1, hfz14_2⟩ := z3 BK550) | ((with_reducible refine gate_callee (f := 72) rfl ?_); refine zO Tryz.func72 (by kernel_rfl) (rat_both.calls k a0_0 a0_1 a0_2 a1_0 a1_1 a1_2 t551 _ A3.out) fun w15 hb => ?_; obtain ⟨BK549, BK550⟩ := zB2 BK549 BK550 hb; replace HB := zS HB hb; (try clear hb)))
  replace BK549 := zD BK549; replace BK550 := zD BK550; replace HB := zF HB
  refine start_ (n := 15) (S := fun w' => w'.cell? ⟨gb549, 0, none⟩ = some (.bool a0_0) ∧ w'.cell? ⟨gb549, 1, none⟩ = some (.string a0_1) ∧ w'.cell? ⟨gb549, 2, none⟩ = some (.string a0_2) ∧ w'.cell? ⟨gb550, 0, none⟩ = some (.bool a1_0) ∧ w'.cell? ⟨gb550, 1, none⟩ = some (.string a1_1) ∧ w'.cell? ⟨gb550, 2, none⟩ = some (.string a1_2)) (ds := []) (zb 15 0) (by kernel_rfl) rfl rfl ⟨zc BK549 0, zc BK549 1, zc BK549 2, zc BK550 0, zc BK550 1, zc BK550 2⟩ (fun hHeld => ?_); refine with_tabW rat_Cmp.tab4 rat_Cmp.bits4 (fun HT_ HW_ => ?_)
  generalize w15.drew = w16 at BK549 BK550 HB hHeld ⊢
  refine zU (i := 0) (N := some 13) (zb 15 1) (any_of HT_.out (by kernel_rfl)) ?_
  refine zU (i := 5) (N := some 18) (zb 15 33) (any_of HT_.out (by kernel_rfl)) ?_
  refine zV (i := 1) (N := some 14) (zb 15 35) (take_ofW HT_.out HW_.out (by kernel_rfl)) hHeld ?_
  refine zV (i := 2) (N := some 15) (zb 15 39) (take_ofW HT_.out HW_.out (by kernel_rfl)) hHeld ?_
  refine zV (i := 6) (N := some 19) (zb 15 103) (take_ofW HT_.out HW_.out (by kernel_rfl)) hHeld ?_
  refine zV (i := 7) (N := some 20) (zb 15 231) (take_ofW HT_.out HW_.out (by kernel_rfl)) hHeld ?_
  refine one_ (i := 3) (N := some 16) (zb 15 239) rfl rfl (one_of HT_.out (by kernel_rfl)) (by decide) (fun K hK => ?_)
  refine zJ Tryz.func60 (by kernel_rfl) (rat_den.calls a1_0 a1_1 a1_2 t552 t553 _ A5.out) fun w17 hb => ?_
  obtain ⟨BK549, BK550⟩ := zB2 BK549 BK550 hb; replace HB := zS HB hb
  (try clear hb)
  refine hK.out _ _ ⟨zc BK549 0, zc BK549 1, zc BK549 2, zc BK550 0, zc BK550 1, zc BK550 2⟩ (fun hHeld => ?_)
  clear hK K
  refine zW (some 16) ?_
  refine one_ (i := 4) (N := some 17) (zb 15 255) rfl rfl (one_of HT_.out (by kernel_rfl)) (by decide) (fun K hK => ?_)
  refine zJ Tryz.func57 (by kernel_rfl) (rat_do_of_whole_Mul.calls a0_0 a0_1 t552 t553 t554 t555 _ A6.out) fun w18 hb => ?_
  obtain ⟨BK549, BK550⟩ := zB2 BK549 BK550 hb; replace HB := zS HB hb
  (try clear hb)
  refine hK.out _ _ ⟨zc BK549 0, zc BK549 1, zc BK549 2, zc BK550 0, zc BK550 1, zc BK550 2⟩ (fun hHeld => ?_)
  clear hK K
  refine zW (some 17) ?_
  refine one_ (i := 8) (N := some 21) (zb 15 511) rfl rfl (one_of HT_.out (by kernel_rfl)) (by decide) (fun K hK => ?_)
  refine zJ Tryz.func60 (by kernel_rfl) (rat_den.calls a0_0 a0_1 a0_2 t556 t557 _ A7.out) fun w19 hb => ?_
  obtain ⟨BK549, BK550⟩ := zB2 BK549 BK550 hb; replace HB := zS HB hb
  (try clear hb)
  refine hK.out _ _ ⟨zc BK549 0, zc BK549 1, zc BK549 2, zc BK550 0, zc BK550 1, zc BK550 2⟩ (fun hHeld => ?_)
  clear hK K
  refine zW (some 21) ?_
  refine one_ (i := 9) (N := some 22) (zb 15 1023) rfl rfl (one_of HT_.out (by kernel_rfl)) (by decide) (fun K hK => ?_)
  refine zJ Tryz.func57 (by kernel_rfl) (rat_do_of_whole_Mul.calls a1_0 a1_1 t556 t557 t558 t559 _ A8.out) fun w20 hb => ?_
  obtain ⟨BK549, BK550⟩ := zB2 BK549 BK550 hb; replace HB := zS HB hb
  (try clear hb)
  refine hK.out _ _ ⟨zc BK549 0, zc BK549 1, zc BK549 2, zc BK550 0, zc BK550 1, zc BK550 2⟩ (fun hHeld => ?_)
  clear hK K
  refine zW (some 22) ?_
  refine one_ (i := 10) (N := some 23) (zb 15 2047) rfl rfl (one_of HT_.out (by kernel_rfl)) (by decide) (fun K hK => ?_)
  refine zJ Tryz.func75 (by kernel_rfl) (whole_Cmp.calls t554 t555 t558 t559 t560 t561 _ A9.out) fun w21 hb => ?_
  obtain ⟨BK549, BK550⟩ := zB2 BK549 BK550 hb; replace HB := zS HB hb
  (try clear hb)
  refine hK.out _ _ ⟨zc BK549 0, zc BK549 1, zc BK549 2, zc BK550 0, zc BK550 1, zc BK550 2⟩ (fun hHeld => ?_)
  clear hK K
  refine zW (some 23) ?_
  refine zU (i := 11) (N := some 24) (zb 15 4095) (any_of HT_.out (by kernel_rfl)) ?_
  refine zU (i := 12) (N := some 25) (zb 15 8191) (any_of HT_.out (by kernel_rfl)) ?_
  refine zU (i := 13) (N := some 4) (zb 15 16383) (any_of HT_.out (by kernel_rfl)) ?_
  refine zU (i := 14) (N := some 5) (zb 15 32767) (any_of HT_.out (by kernel_rfl)) ?_
  refine done_ (done_of HT_.out (by kernel_rfl)) ?_
  try go_wp2
  go_ret2
  exact ⟨zH, zT HB⟩
 ·rw [if_neg c4] at H
  have c4b0 := beq_eq_false_iff_ne.mpr c4
  have c4b1 := bne_iff_ne.mpr c4
  simp only [Option.some.injEq, Prod.mk.injEq] at H
  obtain ⟨rfl, rfl⟩ := H
  go_enter Tryz.func35, Tryz.ntmps35
  go_wp2_with (first | ((with_reducible refine gate_dst (N := 2) rfl ?_); refine zY 2 #[.bool a0_0, .string a0_1, .string a0_2] 27 ?_; intro gb549 hg w22 hbox hb; have BK549 := Aside0.mk (hbox); have GW549 := zG hg HB; have GE549 := zG hg HB; replace HB := zS HB hb; clear hb hbox hg) | ((with_reducible refine gate_dst (N := 3) rfl ?_); refine zY 3 #[.bool a1_0, .string a1_1, .string a1_2] 27 ?_; intro gb550 hg w23 hbox hb; have BK550 := Aside0.mk (hbox); have GW550 := zG hg HB; have GE550 := zG hg HB; obtain ⟨NB549_550, NB550_549⟩ := zQ hg BK549; replace BK549 := zB BK549 hb; replace HB := zS HB hb; clear hb hbox hg; have hnb24 := NB549_550.out; have hnc24 := NB550_549.out; obtain ⟨hcz25_0, hcz25_1, hcz25_2, hfz25_0, hfz25_1, hfz25_2⟩ := z3 BK549; obtain ⟨hcz26_0, hcz26_1, hcz26_2, hfz26_0, hfz26_1, hfz26_2⟩ := z3 BK550) | ((with_reducible refine gate_callee (f := 72) rfl ?_); refine zO Tryz.func72 (by kernel_rfl) (rat_both.calls k a0_0 a0_1 a0_2 a1_0 a1_1 a1_2 t551 _ A3.out) fun w27 hb => ?_; obtain ⟨BK549, BK550⟩ := zB2 BK549 BK550 hb; replace HB := zS HB hb; (try clear hb)))
  go_ret2
  exact ⟨zH, zT HB⟩


/-! ### rat_Sign: function 37 -/
def rat_Sign.f (k : Nat) (a0_0 : Bool) (a0_1 : ByteArray) (a0_2 : ByteArray) : Option (Int × Int) := (rat_Check.f k a0_0 a0_1 a0_2).bind fun t596 => (if t596 = 0 then (if a0_0 = true then (some ((-1), 0)) else (if a0_1.toList = ([] : List UInt8) then (some (0, 0)) else (some (1, 0)))) else (some (0, t596)))
set_option maxHeartbeats 8000000 in
set_option maxRecDepth 100000 in
theorem rat_Sign.calls (k : Nat) (a0_0 : Bool) (a0_1 : ByteArray) (a0_2 : ByteArray) (r1 : Int) (r2 : Int) (w : World) (h : rat_Sign.f k a0_0 a0_1 a0_2 = some (r1, r2)) :
  Calls Tryz.prog 37 #[.agg #[.bool a0_0, .string a0_1, .string a0_2]] w fun e w' => e = .returned (.tuple #[.int .i64 r1, .int .i64 r2]) ∧ Below w.heap.size w w' := by
 have hu27 := Tryz.underlying27
 have HB := Aside0.mk (Below.refl w.heap.size w)
 unfold rat_Sign.f at h; have H := h; clear h
 obtain ⟨t596, A2, H⟩ := zo H
 by_cases c3 : t596 = 0
 ·rw [if_pos c3] at H
  have c3b0 := beq_iff_eq.mpr c3
  have c3b1 := bne_eq_false_iff_eq.mpr c3
  clear c3
  by_cases c4 : a0_0 = true
  ·subst c4
   rw [if_pos rfl] at H
   simp only [Option.some.injEq, Prod.mk.injEq] at H
   obtain ⟨rfl, rfl⟩ := H
   go_enter Tryz.func37, Tryz.ntmps37
   go_wp2_with (first | ((with_reducible refine gate_dst (N := 1) rfl ?_); refine zY 1 #[.bool true, .string a0_1, .string a0_2] 27 ?_; intro gb595 hg w5 hbox hb; have BK595 := Aside0.mk (hbox); have GW595 := zG hg HB; have GE595 := zG hg HB; replace HB := zS HB hb; clear hb hbox hg; obtain ⟨hcz6_0, hcz6_1, hcz6_2, hfz6_0, hfz6_1, hfz6_2⟩ := z3 BK595) | ((with_reducible refine gate_callee (f := 41) rfl ?_); refine zO Tryz.func41 (by kernel_rfl) (rat_Check.calls k true a0_1 a0_2 t596 _ A2.out) fun w7 hb => ?_; replace BK595 := zB BK595 hb; replace HB := zS HB hb; (try clear hb); obtain ⟨hcz8_0, hcz8_1, hcz8_2, hfz8_0, hfz8_1, hfz8_2⟩ := z3 BK595))
   go_ret2
   exact ⟨zH, zT HB⟩
  ·replace c4 := Bool.eq_false_iff.mpr c4
   subst c4
   rw [if_neg zn] at H
   by_cases c9 : a0_1.toList = ([] : List UInt8)
   ·rw [if_pos c9] at H
    have c9b0 := beq_iff_eq.mpr c9
    have c9b1 := bne_eq_false_iff_eq.mpr c9
    clear c9
    simp only [Option.some.injEq, Prod.mk.injEq] at H
    obtain ⟨rfl, rfl⟩ := H
    go_enter Tryz.func37, Tryz.ntmps37
    go_wp2_with (first | ((with_reducible refine gate_dst (N := 1) rfl ?_); refine zY 1 #[.bool false, .string a0_1, .string a0_2] 27 ?_; intro gb595 hg w10 hbox hb; have BK595 := Aside0.mk (hbox); have GW595 := zG hg HB; have GE595 := zG hg HB; replace HB := zS HB hb; clear hb hbox hg; obtain ⟨hcz11_0, hcz11_1, hcz11_2, hfz11_0, hfz11_1, hfz11_2⟩ := z3 BK595) | ((with_reducible refine gate_callee (f := 41) rfl ?_); refine zO Tryz.func41 (by kernel_rfl) (rat_Check.calls k false a0_1 a0_2 t596 _ A2.out) fun w12 hb => ?_; replace BK595 := zB BK595 hb; replace HB := zS HB hb; (try clear hb); obtain ⟨hcz13_0, hcz13_1, hcz13_2, hfz13_0, hfz13_1, hfz13_2⟩ := z3 BK595))
    go_ret2
    exact ⟨zH, zT HB⟩
   ·rw [if_neg c9] at H
    have c9b0 := beq_eq_false_iff_ne.mpr c9
    have c9b1 := bne_iff_ne.mpr c9
    simp only [Option.some.injEq, Prod.mk.injEq] at H
    obtain ⟨rfl, rfl⟩ := H
    go_enter Tryz.func37, Tryz.ntmps37
    go_wp2_with (first | ((with_reducible refine gate_dst (N := 1) rfl ?_); refine zY 1 #[.bool false, .string a0_1, .string a0_2] 27 ?_; intro gb595 hg w14 hbox hb; have BK595 := Aside0.mk (hbox); have GW595 := zG hg HB; have GE595 := zG hg HB; replace HB := zS HB hb; clear hb hbox hg; obtain ⟨hcz15_0, hcz15_1, hcz15_2, hfz15_0, hfz15_1, hfz15_2⟩ := z3 BK595) | ((with_reducible refine gate_callee (f := 41) rfl ?_); refine zO Tryz.func41 (by kernel_rfl) (rat_Check.calls k false a0_1 a0_2 t596 _ A2.out) fun w16 hb => ?_; replace BK595 := zB BK595 hb; replace HB := zS HB hb; (try clear hb); obtain ⟨hcz17_0, hcz17_1, hcz17_2, hfz17_0, hfz17_1, hfz17_2⟩ := z3 BK595))
    go_ret2
    exact ⟨zH, zT HB⟩
 ·rw [if_neg c3] at H
  have c3b0 := beq_eq_false_iff_ne.mpr c3
  have c3b1 := bne_iff_ne.mpr c3
  simp only [Option.some.injEq, Prod.mk.injEq] at H
  obtain ⟨rfl, rfl⟩ := H
  go_enter Tryz.func37, Tryz.ntmps37
  go_wp2_with (first | ((with_reducible refine gate_dst (N := 1) rfl ?_); refine zY 1 #[.bool a0_0, .string a0_1, .string a0_2] 27 ?_; intro gb595 hg w18 hbox hb; have BK595 := Aside0.mk (hbox); have GW595 := zG hg HB; have GE595 := zG hg HB; replace HB := zS HB hb; clear hb hbox hg; obtain ⟨hcz19_0, hcz19_1, hcz19_2, hfz19_0, hfz19_1, hfz19_2⟩ := z3 BK595) | ((with_reducible refine gate_callee (f := 41) rfl ?_); refine zO Tryz.func41 (by kernel_rfl) (rat_Check.calls k a0_0 a0_1 a0_2 t596 _ A2.out) fun w20 hb => ?_; replace BK595 := zB BK595 hb; replace HB := zS HB hb; (try clear hb)))
  go_ret2
  exact ⟨zH, zT HB⟩

end Go.Proofs.YtoijlbcbbblbfaaGreatDoorH.R
