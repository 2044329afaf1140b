import Derived.Test.YtoijlbcbbblbfaaGreatDoorZzG0x0
import Derived.Test.YtoijlbcbbblbfaaGreatDoorZzG3x0
import Derived.Test.YtoijlbcbbblbfaaGreatDoorZzG7x0
import Derived.Test.YtoijlbcbbblbfaaGreatDoorZzV1p
-- printed by hp.py, sq3
namespace Go.Proofs.YtoijlbcbbblbfaaGreatDoorH.R
open Go.RowKit Go.Proofs.YtoijlbcbbblbfaaGreatDoorH.Z Go.Proofs.YtoijlbcbbblbfaaGreatDoorW.PrintWords Go.Proofs.YtoijlbcbbblbfaaGreatDoorW.PrintLast Go.Proofs.YtoijlbcbbblbfaaGreatDoorW.PrintMore
attribute [local go_sem] max2_int min2_int max_two min_two max_three min_three max_four min_four   -- for this text's walks alone
set_option linter.unusedVariables false
set_option linter.unusedSimpArgs false

/-! ### rat_Mul: function 28 -/
def rat_Mul.f (k : Nat) (a0_0 : Bool) (a0_1 : ByteArray) (a0_2 : ByteArray) (a1_0 : Bool) (a1_1 : ByteArray) (a1_2 : ByteArray) : Option (Bool × ByteArray × ByteArray × Int) := (rat_both.f k a0_0 a0_1 a0_2 a1_0 a1_1 a1_2).bind fun t400 => (if t400 = 0 then ((rat_do_of_whole_Mul.f a0_0 a0_1 a1_0 a1_1).bind fun bt401 => ((rat_den.f a0_0 a0_1 a0_2).bind fun bt403 => ((rat_den.f a1_0 a1_1 a1_2).bind fun bt405 => ((rat_do_of_whole_Mul.f bt403.1 bt403.2 bt405.1 bt405.2).bind fun bt407 => ((rat_lowest.f k bt401.1 bt401.2 bt407.1 bt407.2).bind fun bt409 => (some (bt409.1, bt409.2.1, bt409.2.2, 0))))))) else (some (false, (⟨#[]⟩ : ByteArray), (⟨#[]⟩ : ByteArray), t400)))
def rat_Mul.T4 : Bool × List (List Nat × List Nat) := (true, [([], []), ([0], [0]), ([], []), ([2], [2]), ([1, 3], [1, 3]), ([], []), ([5, 4], [5]), ([], []), ([7, 6], [7]), ([6, 8, 8], [6, 8]), ([4, 9, 9], [4, 9]), ([10, 10, 0, 1, 2, 3, 4, 5, 6, 7, 8, 9, 10], [10]), ([11, 0, 1, 2, 3, 4, 5, 6, 7, 8, 9, 10, 11], [])])
def rat_Mul.B4 : List Nat := [0, 1, 0, 4, 15, 0, 63, 0, 255, 511, 1023, 2047, 4095]
theorem rat_Mul.tab4 : rtab .any (opsOf Tryz.f28 4) = rat_Mul.T4 := by kernel_rfl
theorem rat_Mul.bits4 : waitsOk rat_Mul.T4.2 rat_Mul.B4 = true := by kernel_rfl
set_option maxHeartbeats 8000000 in
set_option maxRecDepth 100000 in
theorem rat_Mul.calls (k : Nat) (a0_0 : Bool) (a0_1 : ByteArray) (a0_2 : ByteArray) (a1_0 : Bool) (a1_1 : ByteArray) (a1_2 : ByteArray) (r1 : Bool) (r2 : ByteArray) (r3 : ByteArray) (r4 : Int) (w : World) (h : rat_Mul.f k a0_0 a0_1 a0_2 a1_0 a1_1 a1_2 = some (r1, r2, r3, r4)) :
  Calls Tryz.prog 28 #[.agg #[.bool a0_0, .string a0_1, .string a0_2], .agg #[.bool a1_0, .string a1_1, .string a1_2]] w fun e w' => e = .returned (.tuple #[.agg #[.bool r1, .string r2, .string r3], .int .i64 r4]) ∧ Below w.heap.size w w' := by
 have hu27 := Tryz.underlying27
 have hu24 := Tryz.underlying24; have hf0 := zf240; have hf1 := zf241; have hf2 := zf270; have hf3 := zf271
 have HB := Aside0.mk (Below.refl w.heap.size w)
 unfold rat_Mul.f at h; have H := h; clear h
 obtain ⟨t400, A3, H⟩ := zo H
 by_cases c4 : t400 = 0
 ·rw [if_pos c4] at H
  have c4b0 := beq_iff_eq.mpr c4
  have c4b1 := bne_eq_false_iff_eq.mpr c4
  clear c4
  obtain ⟨⟨t401, t402⟩, A5, H⟩ := zo H; try dsimp only at H
  obtain ⟨⟨t403, t404⟩, A6, H⟩ := zo H; try dsimp only at H
  obtain ⟨⟨t405, t406⟩, A7, H⟩ := zo H; try dsimp only at H
  obtain ⟨⟨t407, t408⟩, A8, H⟩ := zo H; try dsimp only at H
  obtain ⟨⟨t409, t410, t411⟩, A9, H⟩ := zo H; try dsimp only at H
  simp only [Option.some.injEq, Prod.mk.injEq] at H
  obtain ⟨rfl, rfl, rfl, rfl⟩ := H
  go_enter Tryz.func28, Tryz.ntmps28
  try go_wp2_with (first | ((with_reducible refine gate_dst (N := 2) rfl ?_); refine zY 2 #[.bool a0_0, .string a0_1, .string a0_2] 27 ?_; intro gb397 hg w10 hbox hb; have BK397 := Aside0.mk (hbox); have GW397 := zG hg HB; have GE397 := zG hg HB; replace HB := zS HB hb; clear hb hbox hg) | ((with_reducible refine gate_dst (N := 3) rfl ?_); refine zY 3 #[.bool a1_0, .string a1_1, .string a1_2] 27 ?_; intro gb398 hg w11 hbox hb; have BK398 := Aside0.mk (hbox); have GW398 := zG hg HB; have GE398 := zG hg HB; obtain ⟨NB397_398, NB398_397⟩ := zQ hg BK397; replace BK397 := zB BK397 hb; replace HB := zS HB hb; clear hb hbox hg) | ((with_reducible refine gate_dst (N := 4) rfl ?_); refine zY 4 #[.bool false, .string (⟨#[]⟩ : ByteArray), .string (⟨#[]⟩ : ByteArray)] 27 ?_; intro gb399 hg w12 hbox hb; have BK399 := Aside0.mk (hbox); have GW399 := zG hg HB; have GE399 := zG hg HB; obtain ⟨NB397_399, NB399_397⟩ := zQ hg BK397; obtain ⟨NB398_399, NB399_398⟩ := zQ hg BK398; obtain ⟨BK397, BK398⟩ := zB2 BK397 BK398 hb; replace HB := zS HB hb; clear hb hbox hg; have hnb13 := NB397_398.out; have hnc13 := NB398_397.out; have hnb14 := NB397_399.out; have hnc14 := NB399_397.out; obtain ⟨hcz15_0, hcz15_1, hcz15_2, hfz15_0, hfz15_1, hfz15_2⟩ := z3 BK397; have hnb16 := NB398_399.out; have hnc16 := NB399_398.out; obtain ⟨hcz17_0, hcz17_1, hcz17_2, hfz17_0, hfz17_1, hfz17_2⟩ := z3 BK398) | ((with_reducible refine gate_callee (f := 72) rfl ?_); refine zO Tryz.func72 (by kernel_rfl) (rat_both.calls k a0_0 a0_1 a0_2 a1_0 a1_1 a1_2 t400 _ A3.out) fun w18 hb => ?_; obtain ⟨BK397, BK398, BK399⟩ := zB3 BK397 BK398 BK399 hb; replace HB := zS HB hb; (try clear hb)))
  replace BK397 := zD BK397; replace BK398 := zD BK398; replace BK399 := zD BK399; replace HB := zF HB
  refine start_ (n := 13) (S := fun w' => w'.cell? ⟨gb397, 0, none⟩ = some (.bool a0_0) ∧ w'.cell? ⟨gb397, 1, none⟩ = some (.string a0_1) ∧ w'.cell? ⟨gb397, 2, none⟩ = some (.string a0_2) ∧ w'.cell? ⟨gb398, 0, none⟩ = some (.bool a1_0) ∧ w'.cell? ⟨gb398, 1, none⟩ = some (.string a1_1) ∧ w'.cell? ⟨gb398, 2, none⟩ = some (.string a1_2)) (ds := []) (zb 13 0) (by kernel_rfl) rfl rfl ⟨zc BK397 0, zc BK397 1, zc BK397 2, zc BK398 0, zc BK398 1, zc BK398 2⟩ (fun hHeld => ?_); refine with_tabW rat_Mul.tab4 rat_Mul.bits4 (fun HT_ HW_ => ?_)
  generalize w18.drew = w19 at BK397 BK398 BK399 HB hHeld ⊢
  refine zU (i := 0) (N := some 14) (zb 13 1) (any_of HT_.out (by kernel_rfl)) ?_
  refine zU (i := 2) (N := some 16) (zb 13 5) (any_of HT_.out (by kernel_rfl)) ?_
  refine zV (i := 1) (N := some 15) (zb 13 7) (take_ofW HT_.out HW_.out (by kernel_rfl)) hHeld ?_
  refine zV (i := 3) (N := some 17) (zb 13 15) (take_ofW HT_.out HW_.out (by kernel_rfl)) hHeld ?_
  refine zV (i := 5) (N := some 19) (zb 13 47) (take_ofW HT_.out HW_.out (by kernel_rfl)) hHeld ?_
  refine zV (i := 7) (N := some 21) (zb 13 175) (take_ofW HT_.out HW_.out (by kernel_rfl)) hHeld ?_
  refine one_ (i := 4) (N := some 18) (zb 13 191) rfl rfl (one_of HT_.out (by kernel_rfl)) (by decide) (fun K hK => ?_)
  refine zJ Tryz.func57 (by kernel_rfl) (rat_do_of_whole_Mul.calls a0_0 a0_1 a1_0 a1_1 t401 t402 _ A5.out) fun w20 hb => ?_
  obtain ⟨BK397, BK398, BK399⟩ := zB3 BK397 BK398 BK399 hb; replace HB := zS HB hb
  (try clear hb)
  refine hK.out _ _ ⟨zc BK397 0, zc BK397 1, zc BK397 2, zc BK398 0, zc BK398 1, zc BK398 2⟩ (fun hHeld => ?_)
  clear hK K
  refine zW (some 18) ?_
  refine one_ (i := 6) (N := some 20) (zb 13 255) rfl rfl (one_of HT_.out (by kernel_rfl)) (by decide) (fun K hK => ?_)
  refine zJ Tryz.func60 (by kernel_rfl) (rat_den.calls a0_0 a0_1 a0_2 t403 t404 _ A6.out) fun w21 hb => ?_
  obtain ⟨BK397, BK398, BK399⟩ := zB3 BK397 BK398 BK399 hb; replace HB := zS HB hb
  (try clear hb)
  refine hK.out _ _ ⟨zc BK397 0, zc BK397 1, zc BK397 2, zc BK398 0, zc BK398 1, zc BK398 2⟩ (fun hHeld => ?_)
  clear hK K
  refine zW (some 20) ?_
  refine one_ (i := 8) (N := some 22) (zb 13 511) rfl rfl (one_of HT_.out (by kernel_rfl)) (by decide) (fun K hK => ?_)
  refine zJ Tryz.func60 (by kernel_rfl) (rat_den.calls a1_0 a1_1 a1_2 t405 t406 _ A7.out) fun w22 hb => ?_
  obtain ⟨BK397, BK398, BK399⟩ := zB3 BK397 BK398 BK399 hb; replace HB := zS HB hb
  (try clear hb)
  refine hK.out _ _ ⟨zc BK397 0, zc BK397 1, zc BK397 2, zc BK398 0, zc BK398 1, zc BK398 2⟩ (fun hHeld => ?_)
  clear hK K
  refine zW (some 22) ?_
  refine one_ (i := 9) (N := some 23) (zb 13 1023) rfl rfl (one_of HT_.out (by kernel_rfl)) (by decide) (fun K hK => ?_)
  refine zJ Tryz.func57 (by kernel_rfl) (rat_do_of_whole_Mul.calls t403 t404 t405 t406 t407 t408 _ A8.out) fun w23 hb => ?_
  obtain ⟨BK397, BK398, BK399⟩ := zB3 BK397 BK398 BK399 hb; replace HB := zS HB hb
  (try clear hb)
  refine hK.out _ _ ⟨zc BK397 0, zc BK397 1, zc BK397 2, zc BK398 0, zc BK398 1, zc BK398 2⟩ (fun hHeld => ?_)
  clear hK K
  refine zW (some 23) ?_
  refine one_ (i := 10) (N := some 24) (zb 13 2047) rfl rfl (one_of HT_.out (by kernel_rfl)) (by decide) (fun K hK => ?_)
  refine zJ Tryz.func47 (by kernel_rfl) (rat_lowest.calls k t401 t402 t407 t408 t409 t410 t411 _ A9.out) fun w24 hb => ?_
  obtain ⟨BK397, BK398, BK399⟩ := zB3 BK397 BK398 BK399 hb; replace HB := zS HB hb
  (try clear hb)
  refine hK.out _ _ ⟨zc BK397 0, zc BK397 1, zc BK397 2, zc BK398 0, zc BK398 1, zc BK398 2⟩ (fun hHeld => ?_)
  clear hK K
  refine zW (some 24) ?_
  refine one_ (i := 11) (N := none) (zb 13 4095) rfl rfl (one_of HT_.out (by kernel_rfl)) (by decide) (fun K hK => ?_)
  have hs25 : w24.cell? ⟨gb399, 0, none⟩ = some (.bool false) := zc BK399 0
  have hfs25 := blk_frozen BK399.out 0
  have hns25_0 := NB397_399.out
  have hns25_1 := NB398_399.out
  have hms25_0 := NB399_397.out
  have hms25_1 := NB399_398.out
  have hs26 : w24.cell? ⟨gb399, 1, none⟩ = some (.string (⟨#[]⟩ : ByteArray)) := zc BK399 1
  have hfs26 := blk_frozen BK399.out 1
  have hns26_0 := NB397_399.out
  have hns26_1 := NB398_399.out
  have hms26_0 := NB399_397.out
  have hms26_1 := NB399_398.out
  have hs27 : w24.cell? ⟨gb399, 2, none⟩ = some (.string (⟨#[]⟩ : ByteArray)) := zc BK399 2
  have hfs27 := blk_frozen BK399.out 2
  have hns27_0 := NB397_399.out
  have hns27_1 := NB398_399.out
  have hms27_0 := NB399_397.out
  have hms27_1 := NB399_398.out
  refine skip_ (w1 := ?_) (by rfl) rfl ?_ ?_
  rotate_left
  ·go_simp
   rfl
  refine hK.out _ _ ⟨((cell_far (p := ⟨gb399, _, none⟩) NB397_399.out _).trans (((cell_far (p := ⟨gb399, _, none⟩) NB397_399.out _).trans (((cell_far (p := ⟨gb399, _, none⟩) NB397_399.out _).trans (hHeld.1)))))), ((cell_far (p := ⟨gb399, _, none⟩) NB397_399.out _).trans (((cell_far (p := ⟨gb399, _, none⟩) NB397_399.out _).trans (((cell_far (p := ⟨gb399, _, none⟩) NB397_399.out _).trans (hHeld.2.1)))))), ((cell_far (p := ⟨gb399, _, none⟩) NB397_399.out _).trans (((cell_far (p := ⟨gb399, _, none⟩) NB397_399.out _).trans (((cell_far (p := ⟨gb399, _, none⟩) NB397_399.out _).trans (hHeld.2.2.1)))))), ((cell_far (p := ⟨gb399, _, none⟩) NB398_399.out _).trans (((cell_far (p := ⟨gb399, _, none⟩) NB398_399.out _).trans (((cell_far (p := ⟨gb399, _, none⟩) NB398_399.out _).trans (hHeld.2.2.2.1)))))), ((cell_far (p := ⟨gb399, _, none⟩) NB398_399.out _).trans (((cell_far (p := ⟨gb399, _, none⟩) NB398_399.out _).trans (((cell_far (p := ⟨gb399, _, none⟩) NB398_399.out _).trans (hHeld.2.2.2.2.1)))))), ((cell_far (p := ⟨gb399, _, none⟩) NB398_399.out _).trans (((cell_far (p := ⟨gb399, _, none⟩) NB398_399.out _).trans (((cell_far (p := ⟨gb399, _, none⟩) NB398_399.out _).trans (hHeld.2.2.2.2.2))))))⟩ (fun hHeld => ?_)
  clear hK K
  refine zU (i := 12) (N := some 5) (zb 13 8191) (any_of HT_.out (by kernel_rfl)) ?_
  refine done_ (done_of HT_.out (by kernel_rfl)) ?_
  try go_wp2
  refine bodyPost_ret (results_ct rfl _ _ gb399 27 #[.bool t409, .string t410, .string t411] (0, 0) _ rfl (by (with_reducible repeat (first | refine blk_drewN ?_ _ | refine blk_drew ?_ | refine blk_alloc ?_ _)); refine zP (cs := #[.bool t409, .string t410, .string (⟨#[]⟩ : ByteArray)]) ?_ 2 _; (with_reducible repeat (first | refine blk_drewN ?_ _ | refine blk_drew ?_ | refine blk_alloc ?_ _)); refine zP (cs := #[.bool t409, .string (⟨#[]⟩ : ByteArray), .string (⟨#[]⟩ : ByteArray)]) ?_ 1 _; (with_reducible repeat (first | refine blk_drewN ?_ _ | refine blk_drew ?_ | refine blk_alloc ?_ _)); refine zP (cs := #[.bool false, .string (⟨#[]⟩ : ByteArray), .string (⟨#[]⟩ : ByteArray)]) ?_ 0 _; (with_reducible repeat (first | refine blk_drewN ?_ _ | refine blk_drew ?_ | refine blk_alloc ?_ _)); exact BK399.out) Tryz.underlying27 rfl (by kernel_rfl)) rfl ?_
  exact ⟨zH, zT HB⟩
 ·rw [if_neg c4] at H
  have c4b0 := beq_eq_false_iff_ne.mpr c4
  have c4b1 := bne_iff_ne.mpr c4
  simp only [Option.some.injEq, Prod.mk.injEq] at H
  obtain ⟨rfl, rfl, rfl, rfl⟩ := H
  go_enter Tryz.func28, Tryz.ntmps28
  go_wp2_with (first | ((with_reducible refine gate_dst (N := 2) rfl ?_); refine zY 2 #[.bool a0_0, .string a0_1, .string a0_2] 27 ?_; intro gb397 hg w28 hbox hb; have BK397 := Aside0.mk (hbox); have GW397 := zG hg HB; have GE397 := zG hg HB; replace HB := zS HB hb; clear hb hbox hg) | ((with_reducible refine gate_dst (N := 3) rfl ?_); refine zY 3 #[.bool a1_0, .string a1_1, .string a1_2] 27 ?_; intro gb398 hg w29 hbox hb; have BK398 := Aside0.mk (hbox); have GW398 := zG hg HB; have GE398 := zG hg HB; obtain ⟨NB397_398, NB398_397⟩ := zQ hg BK397; replace BK397 := zB BK397 hb; replace HB := zS HB hb; clear hb hbox hg) | ((with_reducible refine gate_dst (N := 4) rfl ?_); refine zY 4 #[.bool false, .string (⟨#[]⟩ : ByteArray), .string (⟨#[]⟩ : ByteArray)] 27 ?_; intro gb399 hg w30 hbox hb; have BK399 := Aside0.mk (hbox); have GW399 := zG hg HB; have GE399 := zG hg HB; obtain ⟨NB397_399, NB399_397⟩ := zQ hg BK397; obtain ⟨NB398_399, NB399_398⟩ := zQ hg BK398; obtain ⟨BK397, BK398⟩ := zB2 BK397 BK398 hb; replace HB := zS HB hb; clear hb hbox hg; have hnb31 := NB397_398.out; have hnc31 := NB398_397.out; have hnb32 := NB397_399.out; have hnc32 := NB399_397.out; obtain ⟨hcz33_0, hcz33_1, hcz33_2, hfz33_0, hfz33_1, hfz33_2⟩ := z3 BK397; have hnb34 := NB398_399.out; have hnc34 := NB399_398.out; obtain ⟨hcz35_0, hcz35_1, hcz35_2, hfz35_0, hfz35_1, hfz35_2⟩ := z3 BK398) | ((with_reducible refine gate_callee (f := 72) rfl ?_); refine zO Tryz.func72 (by kernel_rfl) (rat_both.calls k a0_0 a0_1 a0_2 a1_0 a1_1 a1_2 t400 _ A3.out) fun w36 hb => ?_; obtain ⟨BK397, BK398, BK399⟩ := zB3 BK397 BK398 BK399 hb; replace HB := zS HB hb; (try clear hb); obtain ⟨hcz37_0, hcz37_1, hcz37_2, hfz37_0, hfz37_1, hfz37_2⟩ := z3 BK399))
  refine bodyPost_ret (results_ct rfl _ _ gb399 27 #[.bool false, .string (⟨#[]⟩ : ByteArray), .string (⟨#[]⟩ : ByteArray)] (0, 0) _ rfl (by (with_reducible repeat (first | refine blk_drewN ?_ _ | refine blk_drew ?_ | refine blk_alloc ?_ _)); refine zP (cs := #[.bool false, .string (⟨#[]⟩ : ByteArray), .string (⟨#[]⟩ : ByteArray)]) ?_ 2 _; (with_reducible repeat (first | refine blk_drewN ?_ _ | refine blk_drew ?_ | refine blk_alloc ?_ _)); refine zP (cs := #[.bool false, .string (⟨#[]⟩ : ByteArray), .string (⟨#[]⟩ : ByteArray)]) ?_ 1 _; (with_reducible repeat (first | refine blk_drewN ?_ _ | refine blk_drew ?_ | refine blk_alloc ?_ _)); refine zP (cs := #[.bool false, .string (⟨#[]⟩ : ByteArray), .string (⟨#[]⟩ : ByteArray)]) ?_ 0 _; (with_reducible repeat (first | refine blk_drewN ?_ _ | refine blk_drew ?_ | refine blk_alloc ?_ _)); exact BK399.out) Tryz.underlying27 rfl (by kernel_rfl)) rfl ?_
  exact ⟨zH, zT HB⟩


/-! ### gussetlaw03_small: function 33 -/
def gussetlaw03_small.f (a0_0 : Bool) (a0_1 : ByteArray) (a0_2 : ByteArray) : Option (Bool) := if (a0_1.size : Int) ≤ 120 then (some (decide ((a0_2.size : Int) ≤ 120))) else (some false)
set_option maxHeartbeats 8000000 in
set_option maxRecDepth 100000 in
theorem gussetlaw03_small.calls (a0_0 : Bool) (a0_1 : ByteArray) (a0_2 : ByteArray) (r : Bool) (w : World) (h : gussetlaw03_small.f a0_0 a0_1 a0_2 = some r) :
  Calls Tryz.prog 33 #[.agg #[.bool a0_0, .string a0_1, .string a0_2]] w fun e w' => e = .returned (.bool r) ∧ Below w.heap.size w w' := by
 have hu27 := Tryz.underlying27
 have HB := Aside0.mk (Below.refl w.heap.size w)
 unfold gussetlaw03_small.f at h; have H := h; clear h
 by_cases c2 : (a0_1.size : Int) ≤ 120
 ·rw [if_pos c2] at H
  have c2b0 := decide_eq_true c2
  have c2b1 : decide (a0_1.size ≤ 120) = true := decide_eq_true (by omega)
  clear c2
  obtain rfl := Option.some.inj H
  go_enter Tryz.func33, Tryz.ntmps33
  go_wp2_with (first | ((with_reducible refine gate_dst (N := 1) rfl ?_); (try (refine gate_guard (by rfl) ?_; dsimp only)); refine zY 1 #[.bool a0_0, .string a0_1, .string a0_2] 27 ?_; intro gb387 hg w3 hbox hb; have BK387 := Aside0.mk (hbox); have GW387 := zG hg HB; have GE387 := zG hg HB; replace HB := zS HB hb; clear hb hbox hg; obtain ⟨hcz4_0, hcz4_1, hcz4_2, hfz4_0, hfz4_1, hfz4_2⟩ := z3 BK387))
  go_ret
  exact ⟨zH, zT HB⟩
 ·rw [if_neg c2] at H
  have c2b0 := decide_eq_false c2
  have c2b1 : decide (a0_1.size ≤ 120) = false := decide_eq_false (by omega)
  clear c2
  obtain rfl := Option.some.inj H
  go_enter Tryz.func33, Tryz.ntmps33
  go_wp2_with (first | ((with_reducible refine gate_dst (N := 1) rfl ?_); (try (refine gate_guard (by rfl) ?_; dsimp only)); refine zY 1 #[.bool a0_0, .string a0_1, .string a0_2] 27 ?_; intro gb387 hg w5 hbox hb; have BK387 := Aside0.mk (hbox); have GW387 := zG hg HB; have GE387 := zG hg HB; replace HB := zS HB hb; clear hb hbox hg; obtain ⟨hcz6_0, hcz6_1, hcz6_2, hfz6_0, hfz6_1, hfz6_2⟩ := z3 BK387))
  go_ret
  exact ⟨zH, zT HB⟩


/-! ### gussetref02_Check: function 48 -/
open Go.Proofs.YtoijlbcbbblbfaaGreatDoor Go.Proofs.YtoijlbcbbblbfaaGreatDoor.Num in
def gussetref02_Check.f (a0_0 : Bool) (a0_1 : ByteArray) : Option (Int) := some (chk a0_0 a0_1)
open Go.Proofs.YtoijlbcbbblbfaaGreatDoor Go.Proofs.YtoijlbcbbblbfaaGreatDoor.Num in
theorem gussetref02_Check.calls (a0_0 : Bool) (a0_1 : ByteArray) (r : Int) (w : World) (h : gussetref02_Check.f a0_0 a0_1 = some r) :
  Calls Tryz.prog 48 #[.agg #[.bool a0_0, .string a0_1]] w fun e w' => e = .returned (.int .i64 r) ∧ Below w.heap.size w w' := by
 unfold gussetref02_Check.f at h
 obtain rfl := Option.some.inj h
 exact check_r _ _ w



/-! ### gussetref02_Common: function 49 -/
open Go.Proofs.YtoijlbcbbblbfaaGreatDoor Go.Proofs.YtoijlbcbbblbfaaGreatDoor.Num in
def gussetref02_Common.f (a0_0 : Bool) (a0_1 : ByteArray) (a1_0 : Bool) (a1_1 : ByteArray) : Option (Bool × ByteArray) := if a0_1.size ≤ 4000 ∧ a1_1.size ≤ 4000 then some ((pv ((Nat.gcd (nv a0_1).toNat (nv a1_1).toNat : Nat) : Int)).1, (pv ((Nat.gcd (nv a0_1).toNat (nv a1_1).toNat : Nat) : Int)).2) else none
open Go.Proofs.YtoijlbcbbblbfaaGreatDoor Go.Proofs.YtoijlbcbbblbfaaGreatDoor.Num in
theorem gussetref02_Common.calls (a0_0 : Bool) (a0_1 : ByteArray) (a1_0 : Bool) (a1_1 : ByteArray) (r1 : Bool) (r2 : ByteArray) (w : World) (h : gussetref02_Common.f a0_0 a0_1 a1_0 a1_1 = some (r1, r2)) :
  Calls Tryz.prog 49 #[.agg #[.bool a0_0, .string a0_1], .agg #[.bool a1_0, .string a1_1]] w fun e w' => e = .returned (.agg #[.bool r1, .string r2]) ∧ Below w.heap.size w w' := by
 unfold gussetref02_Common.f at h
 split at h
 ·rename_i hc
  simp only [Option.some.injEq, Prod.mk.injEq] at h
  obtain ⟨rfl, rfl⟩ := h
  exact common_r _ _ _ _ hc.1 hc.2 w
 ·exact absurd h (by simp)



/-! ### gussetref01_IsNat: function 55 -/
open Go.Proofs.YtoijlbcbbblbfaaGreatDoor Go.Proofs.YtoijlbcbbblbfaaGreatDoor.Num in
def gussetref01_IsNat.f (a0 : ByteArray) : Option (Bool) := some (natB a0)
open Go.Proofs.YtoijlbcbbblbfaaGreatDoor Go.Proofs.YtoijlbcbbblbfaaGreatDoor.Num in
theorem gussetref01_IsNat.calls (a0 : ByteArray) (r : Bool) (w : World) (h : gussetref01_IsNat.f a0 = some r) :
  Calls Tryz.prog 55 #[.string a0] w fun e w' => e = .returned (.bool r) ∧ Below w.heap.size w w' := by
 unfold gussetref01_IsNat.f at h
 obtain rfl := Option.some.inj h
 exact isnat_r a0 w


/-! ### gussetref03_den: function 56 -/
def gussetref03_den.f (a0_0 : Bool) (a0_1 : ByteArray) (a0_2 : ByteArray) : Option (Bool × ByteArray) := some (false, a0_2)
set_option maxHeartbeats 8000000 in
set_option maxRecDepth 100000 in
theorem gussetref03_den.calls (a0_0 : Bool) (a0_1 : ByteArray) (a0_2 : ByteArray) (r1 : Bool) (r2 : ByteArray) (w : World) (h : gussetref03_den.f a0_0 a0_1 a0_2 = some (r1, r2)) :
  Calls Tryz.prog 56 #[.agg #[.bool a0_0, .string a0_1, .string a0_2]] w fun e w' => e = .returned (.agg #[.bool r1, .string r2]) ∧ Below w.heap.size w w' := by
 have hu27 := Tryz.underlying27
 have hu24 := Tryz.underlying24; have hf0 := zf240; have hf1 := zf241; have hf2 := zf270; have hf3 := zf271
 have HB := Aside0.mk (Below.refl w.heap.size w)
 unfold gussetref03_den.f at h; have H := h; clear h
 simp only [Option.some.injEq, Prod.mk.injEq] at H
 obtain ⟨rfl, rfl⟩ := H
 go_enter Tryz.func56, Tryz.ntmps56
 go_wp2_with (first | ((with_reducible refine gate_dst (N := 1) rfl ?_); refine zY 1 #[.bool a0_0, .string a0_1, .string a0_2] 27 ?_; intro gb260 hg w2 hbox hb; have BK260 := Aside0.mk (hbox); have GW260 := zG hg HB; have GE260 := zG hg HB; replace HB := zS HB hb; clear hb hbox hg) | ((with_reducible refine gate_dst (N := 2) rfl ?_); refine zY 2 #[.bool false, .string (⟨#[]⟩ : ByteArray)] 24 ?_; intro gb261 hg w3 hbox hb; have BK261 := Aside0.mk (hbox); have GW261 := zG hg HB; have GE261 := zG hg HB; obtain ⟨NB260_261, NB261_260⟩ := zQ hg BK260; replace BK260 := zB BK260 hb; replace HB := zS HB hb; clear hb hbox hg; have hnb4 := NB260_261.out; have hnc4 := NB261_260.out; obtain ⟨hcz5_0, hcz5_1, hcz5_2, hfz5_0, hfz5_1, hfz5_2⟩ := z3 BK260; obtain ⟨hcz6_0, hcz6_1, hfz6_0, hfz6_1⟩ := z2 BK261))
 refine bodyPost_ret (results_cell_row rfl _ _ gb261 24 #[.bool false, .string a0_2] (0, 0) _ rfl (by (with_reducible repeat (first | refine blk_drewN ?_ _ | refine blk_drew ?_ | refine blk_alloc ?_ _)); refine zP (cs := #[.bool false, .string (⟨#[]⟩ : ByteArray)]) ?_ 1 _; (with_reducible repeat (first | refine blk_drewN ?_ _ | refine blk_drew ?_ | refine blk_alloc ?_ _)); refine zP (cs := #[.bool false, .string (⟨#[]⟩ : ByteArray)]) ?_ 0 _; (with_reducible repeat (first | refine blk_drewN ?_ _ | refine blk_drew ?_ | refine blk_alloc ?_ _)); exact BK261.out) Tryz.underlying24 rfl (by kernel_rfl)) rfl ?_
 exact ⟨zH, zT HB⟩


/-! ### gussetref03_Check: function 19 -/
mutual
def gussetref03_Check.j0 : Nat → Bool → Bool → ByteArray → ByteArray → Option (Int)
 | 0, _, _, _, _ => none
 | k + 1, x13, x263000, x263001, x263002 => if x13 = true then (some 5) else ((gussetref02_Check.f x263000 x263001).bind fun t263 => (if t263 = 0 then ((gussetref01_IsNat.f x263002).bind fun t264 => (if t264 = true then (if x263002.toList = ([] : List UInt8) then (gussetref03_Check.j1 k true) else ((gussetref03_den.f x263000 x263001 x263002).bind fun bt265 => ((gussetref02_Common.f x263000 x263001 bt265.1 bt265.2).bind fun bt267 => (gussetref03_Check.j1 k (bt267.2.toList != ([1] : List UInt8)))))) else (gussetref03_Check.j1 k true))) else (gussetref03_Check.j1 k true)))
def gussetref03_Check.j1 : Nat → Bool → Option (Int)
 | 0, _ => none
 | k + 1, x37 => if x37 = true then (some 1) else (some 0)
end
def gussetref03_Check.f (k : Nat) (a0_0 : Bool) (a0_1 : ByteArray) (a0_2 : ByteArray) : Option (Int) := if (a0_1.size : Int) > 8000 then (gussetref03_Check.j0 k true a0_0 a0_1 a0_2) else (gussetref03_Check.j0 k (decide ((a0_2.size : Int) > 8000)) a0_0 a0_1 a0_2)
def gussetref03_Check.T3 : Bool × List (List Nat × List Nat) := (true, [([], []), ([0], [0]), ([1], [1]), ([2], [2]), ([3, 2], [3]), ([4], [4]), ([5, 4], [4, 5]), ([6, 4, 4], [4, 6]), ([7, 4], [4, 7]), ([4, 8], [4, 8]), ([9, 7], [9]), ([10], [10]), ([11, 10], [10, 11]), ([12, 10], [10, 12]), ([10, 13], [10, 13]), ([14, 10], [14]), ([15], [15]), ([16, 15], [15, 16]), ([15], [15]), ([18, 15, 15], [15, 18]), ([17, 19, 19, 15], [15, 17, 19]), ([20, 15], [15, 20]), ([21, 15], [15, 21]), ([15, 22], [15, 22])])
def gussetref03_Check.B3 : List Nat := [0, 1, 3, 7, 15, 31, 63, 127, 255, 511, 1023, 2047, 4095, 8191, 16383, 32767, 65535, 131071, 65535, 327679, 1048575, 2097151, 4194303, 8388607]
theorem gussetref03_Check.tab3 : rtab .any (opsOf Tryz.f19 3) = gussetref03_Check.T3 := by kernel_rfl
theorem gussetref03_Check.bits3 : waitsOk gussetref03_Check.T3.2 gussetref03_Check.B3 = true := by kernel_rfl
set_option maxHeartbeats 8000000 in
set_option maxRecDepth 100000 in
theorem gussetref03_Check.calls (k : Nat) (a0_0 : Bool) (a0_1 : ByteArray) (a0_2 : ByteArray) (r : Int) (w : World) (h : gussetref03_Check.f k a0_0 a0_1 a0_2 = some r) :
  Calls Tryz.prog 19 #[.agg #[.bool a0_0, .string a0_1, .string a0_2]] w fun e w' => e = .returned (.int .i64 r) ∧ Below w.heap.size w w' := by
 have hu27 := Tryz.underlying27
 have hu24 := Tryz.underlying24; have hf0 := zf240; have hf1 := zf241; have hf2 := zf270; have hf3 := zf271
 have HB := Aside0.mk (Below.refl w.heap.size w)
 unfold gussetref03_Check.f at h; have H := h; clear h
 have HC2 := Aside0.mk H
 clear H
 go_enter Tryz.func19, Tryz.ntmps19
 go_upto_region 1 with (first | ((with_reducible refine gate_dst (N := 1) rfl ?_); (try (refine gate_guard (by rfl) ?_; dsimp only)); refine zY 1 #[.bool a0_0, .string a0_1, .string a0_2] 27 ?_; intro gb262 hg w3 hbox hb; have BK262 := Aside0.mk (hbox); have GW262 := zG hg HB; have GE262 := zG hg HB; replace HB := zS HB hb; clear hb hbox hg))
 (try simp only [Act.put, List.setIfInBounds_toArray, List.set_cons_zero, List.set_cons_succ])
 go_cut [13] (fun v13 wc => ∃ (kq : Nat) (x13_1 : Bool), v13 = .bool x13_1 ∧ Aside0 (gussetref03_Check.j0 kq x13_1 a0_0 a0_1 a0_2 = some r) ∧ Aside0 (kq ≤ k) ∧ Aside0 (wc.heap[gb262]? = some (.cells #[.bool a0_0, .string a0_1, .string a0_2] 27 (0, 0))) ∧ Aside0 (Below w.heap.size w wc))
 case first =>
  have H := HC2.out
  clear HC2
  by_cases c4 : (a0_1.size : Int) > 8000
  ·rw [if_pos c4] at H
   have c4b0 := decide_eq_true c4
   have c4b1 : decide (8000 < a0_1.size) = true := decide_eq_true (by omega)
   clear c4
   (first | rw [c4b0] | (simp only [i64_w, i32_w]; rw [c4b0]) | skip)
   have H' := Aside0.mk H
   clear H; obtain ⟨hcz5_0, hcz5_1, hcz5_2, hfz5_0, hfz5_1, hfz5_2⟩ := z3 BK262
   go_wp2
   go_meet
   case rel => exact ⟨_, (true), zR, H', zL, zK BK262, ⟨zT HB⟩⟩
  ·rw [if_neg c4] at H
   have c4b0 := decide_eq_false c4
   have c4b1 : decide (8000 < a0_1.size) = false := decide_eq_false (by omega)
   clear c4
   (first | rw [c4b0] | (simp only [i64_w, i32_w]; rw [c4b0]) | skip)
   have H' := Aside0.mk H
   clear H; obtain ⟨hcz6_0, hcz6_1, hcz6_2, hfz6_0, hfz6_1, hfz6_2⟩ := z3 BK262
   go_wp2
   go_meet
   case rel => exact ⟨_, (decide ((a0_2.size : Int) > 8000)), zR, H', zL, zK BK262, ⟨zT HB⟩⟩
 case rest =>
  clear HC2
  try clear c1; try clear p2; try clear c4; try clear c4b0; try clear c4b1; try clear hcz5_0; try clear hcz5_1; try clear hcz5_2; try clear hcz6_0; try clear hcz6_1; try clear hcz6_2; try clear hfz5_0; try clear hfz5_1; try clear hfz5_2; try clear hfz6_0; try clear hfz6_1; try clear hfz6_2
  obtain ⟨kq, x13_1, rfl, HA, HJ1, BK262, HB⟩ := hcut
  cases kq with
  | zero => exact absurd HA.out (by simp [gussetref03_Check.j0])
  | succ kj1 =>
   have H := HA.out
   clear HA
   simp only [gussetref03_Check.j0] at H
   by_cases c7 : x13_1 = true
   ·subst c7
    rw [if_pos rfl] at H
    obtain rfl := Option.some.inj H
    go_wp2
    go_ret
    exact ⟨zH, zT HB⟩
   ·replace c7 := Bool.eq_false_iff.mpr c7
    subst c7
    rw [if_neg zn] at H
    have HC8 := Aside0.mk H
    clear H
    go_upto_region 3 with (fail)
    go_cut [37] (fun v37 wc => ∃ (kq : Nat) (x37_7 : Bool), v37 = .bool x37_7 ∧ Aside0 (gussetref03_Check.j1 kq x37_7 = some r) ∧ Aside0 (kq ≤ kj1) ∧ Aside0 (wc.heap[gb262]? = some (.cells #[.bool a0_0, .string a0_1, .string a0_2] 27 (0, 0))) ∧ Aside0 (Below w.heap.size w wc))
    case first =>
     have H := HC8.out
     clear HC8
     obtain ⟨t263, A9, H⟩ := zo H
     by_cases c10 : t263 = 0
     ·rw [if_pos c10] at H
      have c10b0 := beq_iff_eq.mpr c10
      have c10b1 := bne_eq_false_iff_eq.mpr c10
      clear c10
      (first | rw [c10b0] | (simp only [i64_w, i32_w]; rw [c10b0]) | skip)
      obtain ⟨t264, A11, H⟩ := zo H
      by_cases c12 : t264 = true
      ·subst c12
       rw [if_pos rfl] at H
       by_cases c13 : a0_2.toList = ([] : List UInt8)
       ·rw [if_pos c13] at H
        have c13b0 := beq_iff_eq.mpr c13
        have c13b1 := bne_eq_false_iff_eq.mpr c13
        clear c13
        have H' := Aside0.mk H
        clear H
        try go_wp2
        replace BK262 := zD BK262; replace HB := zF HB
        refine start_ (n := 24) (S := fun w' => w'.cell? ⟨gb262, 0, none⟩ = some (.bool a0_0) ∧ w'.cell? ⟨gb262, 1, none⟩ = some (.string a0_1) ∧ w'.cell? ⟨gb262, 2, none⟩ = some (.string a0_2)) (ds := []) (zb 24 0) (by kernel_rfl) rfl rfl ⟨zc BK262 0, zc BK262 1, zc BK262 2⟩ (fun hHeld => ?_); refine with_tabW gussetref03_Check.tab3 gussetref03_Check.bits3 (fun HT_ HW_ => ?_)
        generalize wc.drew = w14 at BK262 HB hHeld ⊢
        refine zU (i := 0) (N := some 14) (zb 24 1) (any_of HT_.out (by kernel_rfl)) ?_
        refine zV (i := 1) (N := some 15) (zb 24 3) (take_ofW HT_.out HW_.out (by kernel_rfl)) hHeld ?_
        refine one_ (i := 2) (N := some 16) (zb 24 7) rfl rfl (one_of HT_.out (by kernel_rfl)) (by decide) (fun K hK => ?_)
        refine zJ Tryz.func48 (by kernel_rfl) (gussetref02_Check.calls a0_0 a0_1 t263 _ A9.out) fun w15 hb => ?_
        replace BK262 := zB BK262 hb; replace HB := zS HB hb
        (try clear hb)
        refine hK.out _ _ ⟨zc BK262 0, zc BK262 1, zc BK262 2⟩ (fun hHeld => ?_)
        clear hK K
        refine zW (some 16) ?_
        refine zU (i := 3) (N := some 17) (zb 24 15) (any_of HT_.out (by kernel_rfl)) ?_
        refine zU (i := 4) (N := some 18) (zb 24 31) (any_of HT_.out (by kernel_rfl)) ?_
        refine zU (i := 5) (N := some 19) (zb 24 63) (any_of HT_.out (by kernel_rfl)) ?_
        refine zV (i := 6) (N := some 20) (zb 24 127) (take_ofW HT_.out HW_.out (by kernel_rfl)) hHeld ?_
        refine one_ (i := 7) (N := some 21) (zb 24 255) rfl rfl (one_of HT_.out (by kernel_rfl)) (by decide) (fun K hK => ?_)
        refine zJ Tryz.func55 (by kernel_rfl) (gussetref01_IsNat.calls a0_2 true _ A11.out) fun w16 hb => ?_
        replace BK262 := zB BK262 hb; replace HB := zS HB hb
        (try clear hb)
        refine hK.out _ _ ⟨zc BK262 0, zc BK262 1, zc BK262 2⟩ (fun hHeld => ?_)
        clear hK K
        refine zW (some 21) ?_
        refine zU (i := 8) (N := some 22) (zb 24 511) (any_of HT_.out (by kernel_rfl)) ?_
        refine zU (i := 9) (N := some 23) (zb 24 1023) (any_of HT_.out (by kernel_rfl)) ?_
        refine zU (i := 10) (N := some 24) (zb 24 2047) (any_of HT_.out (by kernel_rfl)) ?_
        refine zU (i := 11) (N := some 25) (zb 24 4095) (any_of HT_.out (by kernel_rfl)) ?_
        refine zV (i := 12) (N := some 26) (zb 24 8191) (take_ofW HT_.out HW_.out (by kernel_rfl)) hHeld ?_
        refine zU (i := 13) (N := some 27) (zb 24 16383) (any_of HT_.out (by kernel_rfl)) ?_
        refine zU (i := 14) (N := some 28) (zb 24 32767) (any_of HT_.out (by kernel_rfl)) ?_
        refine zU (i := 15) (N := some 29) (zb 24 65535) (any_of HT_.out (by kernel_rfl)) ?_
        refine pure_ (i := 16) (N := some 30) (v := undef) (a' := ?_) (zb 24 131071) rfl rfl (any_of HT_.out (by kernel_rfl)) (fun _ _ _ h => h) (Or.inr ⟨by rfl, rfl⟩) ?_ ?_
        rotate_left
        ·simp only [Act.put, List.setIfInBounds_toArray, List.set_cons_zero, List.set_cons_succ, i64_w, i32_w]
         rfl
        refine pure_ (i := 17) (N := some 31) (v := undef) (a' := ?_) (zb 24 262143) rfl rfl (any_of HT_.out (by kernel_rfl)) (fun _ _ _ h => h) (Or.inr ⟨by rfl, rfl⟩) ?_ ?_
        rotate_left
        ·simp only [Act.put, List.setIfInBounds_toArray, List.set_cons_zero, List.set_cons_succ, i64_w, i32_w]
         rfl
        refine pure_ (i := 18) (N := some 32) (v := undef) (a' := ?_) (zb 24 524287) rfl rfl (any_of HT_.out (by kernel_rfl)) (fun _ _ _ h => h) (Or.inr ⟨by rfl, rfl⟩) ?_ ?_
        rotate_left
        ·simp only [Act.put, List.setIfInBounds_toArray, List.set_cons_zero, List.set_cons_succ, i64_w, i32_w]
         rfl
        refine pure_ (i := 19) (N := some 33) (v := undef) (a' := ?_) (zb 24 1048575) rfl rfl (any_of HT_.out (by kernel_rfl)) (fun _ _ _ h => h) (Or.inr ⟨by rfl, rfl⟩) ?_ ?_
        rotate_left
        ·simp only [Act.put, List.setIfInBounds_toArray, List.set_cons_zero, List.set_cons_succ, i64_w, i32_w]
         rfl
        refine pure_ (i := 20) (N := some 34) (v := undef) (a' := ?_) (zb 24 2097151) rfl rfl (any_of HT_.out (by kernel_rfl)) (fun _ _ _ h => h) (Or.inr ⟨by rfl, rfl⟩) ?_ ?_
        rotate_left
        ·simp only [Act.put, List.setIfInBounds_toArray, List.set_cons_zero, List.set_cons_succ, i64_w, i32_w]
         rfl
        refine pure_ (i := 21) (N := some 35) (v := undef) (a' := ?_) (zb 24 4194303) rfl rfl (any_of HT_.out (by kernel_rfl)) (fun _ _ _ h => h) (Or.inr ⟨by rfl, rfl⟩) ?_ ?_
        rotate_left
        ·simp only [Act.put, List.setIfInBounds_toArray, List.set_cons_zero, List.set_cons_succ, i64_w, i32_w]
         rfl
        refine pure_ (i := 22) (N := some 36) (v := undef) (a' := ?_) (zb 24 8388607) rfl rfl (any_of HT_.out (by kernel_rfl)) (fun _ _ _ h => h) (Or.inr ⟨by rfl, rfl⟩) ?_ ?_
        rotate_left
        ·simp only [Act.put, List.setIfInBounds_toArray, List.set_cons_zero, List.set_cons_succ, i64_w, i32_w]
         rfl
        refine zU (i := 23) (N := some 37) (zb 24 16777215) (any_of HT_.out (by kernel_rfl)) ?_
        refine done_ (done_of HT_.out (by kernel_rfl)) ?_
        try go_wp2
        go_meet
        case rel => exact ⟨_, (true), zR, H', ⟨by have := HJ1.out; first | omega | exact Nat.le_refl _⟩, zK BK262, ⟨zT HB⟩⟩
       ·rw [if_neg c13] at H
        have c13b0 := beq_eq_false_iff_ne.mpr c13
        have c13b1 := bne_iff_ne.mpr c13
        obtain ⟨⟨t265, t266⟩, A17, H⟩ := zo H; try dsimp only at H
        obtain ⟨⟨t267, t268⟩, A18, H⟩ := zo H; try dsimp only at H
        have H' := Aside0.mk H
        clear H
        try go_wp2
        replace BK262 := zD BK262; replace HB := zF HB
        refine start_ (n := 24) (S := fun w' => w'.cell? ⟨gb262, 0, none⟩ = some (.bool a0_0) ∧ w'.cell? ⟨gb262, 1, none⟩ = some (.string a0_1) ∧ w'.cell? ⟨gb262, 2, none⟩ = some (.string a0_2)) (ds := []) (zb 24 0) (by kernel_rfl) rfl rfl ⟨zc BK262 0, zc BK262 1, zc BK262 2⟩ (fun hHeld => ?_); refine with_tabW gussetref03_Check.tab3 gussetref03_Check.bits3 (fun HT_ HW_ => ?_)
        generalize wc.drew = w19 at BK262 HB hHeld ⊢
        refine zU (i := 0) (N := some 14) (zb 24 1) (any_of HT_.out (by kernel_rfl)) ?_
        refine zV (i := 1) (N := some 15) (zb 24 3) (take_ofW HT_.out HW_.out (by kernel_rfl)) hHeld ?_
        refine one_ (i := 2) (N := some 16) (zb 24 7) rfl rfl (one_of HT_.out (by kernel_rfl)) (by decide) (fun K hK => ?_)
        refine zJ Tryz.func48 (by kernel_rfl) (gussetref02_Check.calls a0_0 a0_1 t263 _ A9.out) fun w20 hb => ?_
        replace BK262 := zB BK262 hb; replace HB := zS HB hb
        (try clear hb)
        refine hK.out _ _ ⟨zc BK262 0, zc BK262 1, zc BK262 2⟩ (fun hHeld => ?_)
        clear hK K
        refine zW (some 16) ?_
        refine zU (i := 3) (N := some 17) (zb 24 15) (any_of HT_.out (by kernel_rfl)) ?_
        refine zU (i := 4) (N := some 18) (zb 24 31) (any_of HT_.out (by kernel_rfl)) ?_
        refine zU (i := 5) (N := some 19) (zb 24 63) (any_of HT_.out (by kernel_rfl)) ?_
        refine zV (i := 6) (N := some 20) (zb 24 127) (take_ofW HT_.out HW_.out (by kernel_rfl)) hHeld ?_
        refine one_ (i := 7) (N := some 21) (zb 24 255) rfl rfl (one_of HT_.out (by kernel_rfl)) (by decide) (fun K hK => ?_)
        refine zJ Tryz.func55 (by kernel_rfl) (gussetref01_IsNat.calls a0_2 true _ A11.out) fun w21 hb => ?_
        replace BK262 := zB BK262 hb; replace HB := zS HB hb
        (try clear hb)
        refine hK.out _ _ ⟨zc BK262 0, zc BK262 1, zc BK262 2⟩ (fun hHeld => ?_)
        clear hK K
        refine zW (some 21) ?_
        refine zU (i := 8) (N := some 22) (zb 24 511) (any_of HT_.out (by kernel_rfl)) ?_
        refine zU (i := 9) (N := some 23) (zb 24 1023) (any_of HT_.out (by kernel_rfl)) ?_
        refine zU (i := 10) (N := some 24) (zb 24 2047) (any_of HT_.out (by kernel_rfl)) ?_
        refine zU (i := 11) (N := some 25) (zb 24 4095) (any_of HT_.out (by kernel_rfl)) ?_
        refine zV (i := 12) (N := some 26) (zb 24 8191) (take_ofW HT_.out HW_.out (by kernel_rfl)) hHeld ?_
        refine zU (i := 13) (N := some 27) (zb 24 16383) (any_of HT_.out (by kernel_rfl)) ?_
        refine zU (i := 14) (N := some 28) (zb 24 32767) (any_of HT_.out (by kernel_rfl)) ?_
        refine zU (i := 15) (N := some 29) (zb 24 65535) (any_of HT_.out (by kernel_rfl)) ?_
        refine zU (i := 16) (N := some 30) (zb 24 131071) (any_of HT_.out (by kernel_rfl)) ?_
        refine zV (i := 17) (N := some 31) (zb 24 262143) (take_ofW HT_.out HW_.out (by kernel_rfl)) hHeld ?_
        refine zV (i := 18) (N := some 32) (zb 24 524287) (take_ofW HT_.out HW_.out (by kernel_rfl)) hHeld ?_
        refine one_ (i := 19) (N := some 33) (zb 24 1048575) rfl rfl (one_of HT_.out (by kernel_rfl)) (by decide) (fun K hK => ?_)
        refine zJ Tryz.func56 (by kernel_rfl) (gussetref03_den.calls a0_0 a0_1 a0_2 t265 t266 _ A17.out) fun w22 hb => ?_
        replace BK262 := zB BK262 hb; replace HB := zS HB hb
        (try clear hb)
        refine hK.out _ _ ⟨zc BK262 0, zc BK262 1, zc BK262 2⟩ (fun hHeld => ?_)
        clear hK K
        refine zW (some 33) ?_
        refine one_ (i := 20) (N := some 34) (zb 24 2097151) rfl rfl (one_of HT_.out (by kernel_rfl)) (by decide) (fun K hK => ?_)
        refine zJ Tryz.func49 (by kernel_rfl) (gussetref02_Common.calls a0_0 a0_1 t265 t266 t267 t268 _ A18.out) fun w23 hb => ?_
        replace BK262 := zB BK262 hb; replace HB := zS HB hb
        (try clear hb)
        refine hK.out _ _ ⟨zc BK262 0, zc BK262 1, zc BK262 2⟩ (fun hHeld => ?_)
        clear hK K
        refine zW (some 34) ?_
        refine zU (i := 21) (N := some 35) (zb 24 4194303) (any_of HT_.out (by kernel_rfl)) ?_
        refine zU (i := 22) (N := some 36) (zb 24 8388607) (any_of HT_.out (by kernel_rfl)) ?_
        refine zU (i := 23) (N := some 37) (zb 24 16777215) (any_of HT_.out (by kernel_rfl)) ?_
        refine done_ (done_of HT_.out (by kernel_rfl)) ?_
        try go_wp2
        go_meet
        case rel => exact ⟨_, ((t268.toList != ([1] : List UInt8))), zR, H', ⟨by have := HJ1.out; first | omega | exact Nat.le_refl _⟩, zK BK262, ⟨zT HB⟩⟩
      ·replace c12 := Bool.eq_false_iff.mpr c12
       subst c12
       rw [if_neg zn] at H
       have H' := Aside0.mk H
       clear H
       try go_wp2
       replace BK262 := zD BK262; replace HB := zF HB
       refine start_ (n := 24) (S := fun w' => w'.cell? ⟨gb262, 0, none⟩ = some (.bool a0_0) ∧ w'.cell? ⟨gb262, 1, none⟩ = some (.string a0_1) ∧ w'.cell? ⟨gb262, 2, none⟩ = some (.string a0_2)) (ds := []) (zb 24 0) (by kernel_rfl) rfl rfl ⟨zc BK262 0, zc BK262 1, zc BK262 2⟩ (fun hHeld => ?_); refine with_tabW gussetref03_Check.tab3 gussetref03_Check.bits3 (fun HT_ HW_ => ?_)
       generalize wc.drew = w24 at BK262 HB hHeld ⊢
       refine zU (i := 0) (N := some 14) (zb 24 1) (any_of HT_.out (by kernel_rfl)) ?_
       refine zV (i := 1) (N := some 15) (zb 24 3) (take_ofW HT_.out HW_.out (by kernel_rfl)) hHeld ?_
       refine one_ (i := 2) (N := some 16) (zb 24 7) rfl rfl (one_of HT_.out (by kernel_rfl)) (by decide) (fun K hK => ?_)
       refine zJ Tryz.func48 (by kernel_rfl) (gussetref02_Check.calls a0_0 a0_1 t263 _ A9.out) fun w25 hb => ?_
       replace BK262 := zB BK262 hb; replace HB := zS HB hb
       (try clear hb)
       refine hK.out _ _ ⟨zc BK262 0, zc BK262 1, zc BK262 2⟩ (fun hHeld => ?_)
       clear hK K
       refine zW (some 16) ?_
       refine zU (i := 3) (N := some 17) (zb 24 15) (any_of HT_.out (by kernel_rfl)) ?_
       refine zU (i := 4) (N := some 18) (zb 24 31) (any_of HT_.out (by kernel_rfl)) ?_
       refine zU (i := 5) (N := some 19) (zb 24 63) (any_of HT_.out (by kernel_rfl)) ?_
       refine zV (i := 6) (N := some 20) (zb 24 127) (take_ofW HT_.out HW_.out (by kernel_rfl)) hHeld ?_
       refine one_ (i := 7) (N := some 21) (zb 24 255) rfl rfl (one_of HT_.out (by kernel_rfl)) (by decide) (fun K hK => ?_)
       refine zJ Tryz.func55 (by kernel_rfl) (gussetref01_IsNat.calls a0_2 false _ A11.out) fun w26 hb => ?_
       replace BK262 := zB BK262 hb; replace HB := zS HB hb
       (try clear hb)
       refine hK.out _ _ ⟨zc BK262 0, zc BK262 1, zc BK262 2⟩ (fun hHeld => ?_)
       clear hK K
       refine zW (some 21) ?_
       refine zU (i := 8) (N := some 22) (zb 24 511) (any_of HT_.out (by kernel_rfl)) ?_
       refine zU (i := 9) (N := some 23) (zb 24 1023) (any_of HT_.out (by kernel_rfl)) ?_
       refine zU (i := 10) (N := some 24) (zb 24 2047) (any_of HT_.out (by kernel_rfl)) ?_
       refine pure_ (i := 11) (N := some 25) (v := undef) (a' := ?_) (zb 24 4095) rfl rfl (any_of HT_.out (by kernel_rfl)) (fun _ _ _ h => h) (Or.inr ⟨by rfl, rfl⟩) ?_ ?_
       rotate_left
       ·simp only [Act.put, List.setIfInBounds_toArray, List.set_cons_zero, List.set_cons_succ, i64_w, i32_w]
        rfl
       refine pure_ (i := 12) (N := some 26) (v := undef) (a' := ?_) (zb 24 8191) rfl rfl (any_of HT_.out (by kernel_rfl)) (fun _ _ _ h => h) (Or.inr ⟨by rfl, rfl⟩) ?_ ?_
       rotate_left
       ·simp only [Act.put, List.setIfInBounds_toArray, List.set_cons_zero, List.set_cons_succ, i64_w, i32_w]
        rfl
       refine pure_ (i := 13) (N := some 27) (v := undef) (a' := ?_) (zb 24 16383) rfl rfl (any_of HT_.out (by kernel_rfl)) (fun _ _ _ h => h) (Or.inr ⟨by rfl, rfl⟩) ?_ ?_
       rotate_left
       ·simp only [Act.put, List.setIfInBounds_toArray, List.set_cons_zero, List.set_cons_succ, i64_w, i32_w]
        rfl
       refine zU (i := 14) (N := some 28) (zb 24 32767) (any_of HT_.out (by kernel_rfl)) ?_
       refine zU (i := 15) (N := some 29) (zb 24 65535) (any_of HT_.out (by kernel_rfl)) ?_
       refine pure_ (i := 16) (N := some 30) (v := undef) (a' := ?_) (zb 24 131071) rfl rfl (any_of HT_.out (by kernel_rfl)) (fun _ _ _ h => h) (Or.inr ⟨by rfl, rfl⟩) ?_ ?_
       rotate_left
       ·simp only [Act.put, List.setIfInBounds_toArray, List.set_cons_zero, List.set_cons_succ, i64_w, i32_w]
        rfl
       refine pure_ (i := 17) (N := some 31) (v := undef) (a' := ?_) (zb 24 262143) rfl rfl (any_of HT_.out (by kernel_rfl)) (fun _ _ _ h => h) (Or.inr ⟨by rfl, rfl⟩) ?_ ?_
       rotate_left
       ·simp only [Act.put, List.setIfInBounds_toArray, List.set_cons_zero, List.set_cons_succ, i64_w, i32_w]
        rfl
       refine pure_ (i := 18) (N := some 32) (v := undef) (a' := ?_) (zb 24 524287) rfl rfl (any_of HT_.out (by kernel_rfl)) (fun _ _ _ h => h) (Or.inr ⟨by rfl, rfl⟩) ?_ ?_
       rotate_left
       ·simp only [Act.put, List.setIfInBounds_toArray, List.set_cons_zero, List.set_cons_succ, i64_w, i32_w]
        rfl
       refine pure_ (i := 19) (N := some 33) (v := undef) (a' := ?_) (zb 24 1048575) rfl rfl (any_of HT_.out (by kernel_rfl)) (fun _ _ _ h => h) (Or.inr ⟨by rfl, rfl⟩) ?_ ?_
       rotate_left
       ·simp only [Act.put, List.setIfInBounds_toArray, List.set_cons_zero, List.set_cons_succ, i64_w, i32_w]
        rfl
       refine pure_ (i := 20) (N := some 34) (v := undef) (a' := ?_) (zb 24 2097151) rfl rfl (any_of HT_.out (by kernel_rfl)) (fun _ _ _ h => h) (Or.inr ⟨by rfl, rfl⟩) ?_ ?_
       rotate_left
       ·simp only [Act.put, List.setIfInBounds_toArray, List.set_cons_zero, List.set_cons_succ, i64_w, i32_w]
        rfl
       refine pure_ (i := 21) (N := some 35) (v := undef) (a' := ?_) (zb 24 4194303) rfl rfl (any_of HT_.out (by kernel_rfl)) (fun _ _ _ h => h) (Or.inr ⟨by rfl, rfl⟩) ?_ ?_
       rotate_left
       ·simp only [Act.put, List.setIfInBounds_toArray, List.set_cons_zero, List.set_cons_succ, i64_w, i32_w]
        rfl
       refine pure_ (i := 22) (N := some 36) (v := undef) (a' := ?_) (zb 24 8388607) rfl rfl (any_of HT_.out (by kernel_rfl)) (fun _ _ _ h => h) (Or.inr ⟨by rfl, rfl⟩) ?_ ?_
       rotate_left
       ·simp only [Act.put, List.setIfInBounds_toArray, List.set_cons_zero, List.set_cons_succ, i64_w, i32_w]
        rfl
       refine zU (i := 23) (N := some 37) (zb 24 16777215) (any_of HT_.out (by kernel_rfl)) ?_
       refine done_ (done_of HT_.out (by kernel_rfl)) ?_
       try go_wp2
       go_meet
       case rel => exact ⟨_, (true), zR, H', ⟨by have := HJ1.out; first | omega | exact Nat.le_refl _⟩, zK BK262, ⟨zT HB⟩⟩
     ·rw [if_neg c10] at H
      have c10b0 := beq_eq_false_iff_ne.mpr c10
      have c10b1 := bne_iff_ne.mpr c10
      (first | rw [c10b0] | (simp only [i64_w, i32_w]; rw [c10b0]) | skip)
      have H' := Aside0.mk H
      clear H
      try go_wp2
      replace BK262 := zD BK262; replace HB := zF HB
      refine start_ (n := 24) (S := fun w' => w'.cell? ⟨gb262, 0, none⟩ = some (.bool a0_0) ∧ w'.cell? ⟨gb262, 1, none⟩ = some (.string a0_1) ∧ w'.cell? ⟨gb262, 2, none⟩ = some (.string a0_2)) (ds := []) (zb 24 0) (by kernel_rfl) rfl rfl ⟨zc BK262 0, zc BK262 1, zc BK262 2⟩ (fun hHeld => ?_); refine with_tabW gussetref03_Check.tab3 gussetref03_Check.bits3 (fun HT_ HW_ => ?_)
      generalize wc.drew = w27 at BK262 HB hHeld ⊢
      refine zU (i := 0) (N := some 14) (zb 24 1) (any_of HT_.out (by kernel_rfl)) ?_
      refine zV (i := 1) (N := some 15) (zb 24 3) (take_ofW HT_.out HW_.out (by kernel_rfl)) hHeld ?_
      refine one_ (i := 2) (N := some 16) (zb 24 7) rfl rfl (one_of HT_.out (by kernel_rfl)) (by decide) (fun K hK => ?_)
      refine zJ Tryz.func48 (by kernel_rfl) (gussetref02_Check.calls a0_0 a0_1 t263 _ A9.out) fun w28 hb => ?_
      replace BK262 := zB BK262 hb; replace HB := zS HB hb
      (try clear hb)
      refine hK.out _ _ ⟨zc BK262 0, zc BK262 1, zc BK262 2⟩ (fun hHeld => ?_)
      clear hK K
      refine zW (some 16) ?_
      refine zU (i := 3) (N := some 17) (zb 24 15) (any_of HT_.out (by kernel_rfl)) ?_
      refine zU (i := 4) (N := some 18) (zb 24 31) (any_of HT_.out (by kernel_rfl)) ?_
      refine pure_ (i := 5) (N := some 19) (v := undef) (a' := ?_) (zb 24 63) rfl rfl (any_of HT_.out (by kernel_rfl)) (fun _ _ _ h => h) (Or.inr ⟨by rfl, rfl⟩) ?_ ?_
      rotate_left
      ·simp only [Act.put, List.setIfInBounds_toArray, List.set_cons_zero, List.set_cons_succ, i64_w, i32_w]
       rfl
      refine pure_ (i := 6) (N := some 20) (v := undef) (a' := ?_) (zb 24 127) rfl rfl (any_of HT_.out (by kernel_rfl)) (fun _ _ _ h => h) (Or.inr ⟨by rfl, rfl⟩) ?_ ?_
      rotate_left
      ·simp only [Act.put, List.setIfInBounds_toArray, List.set_cons_zero, List.set_cons_succ, i64_w, i32_w]
       rfl
      refine pure_ (i := 7) (N := some 21) (v := undef) (a' := ?_) (zb 24 255) rfl rfl (any_of HT_.out (by kernel_rfl)) (fun _ _ _ h => h) (Or.inr ⟨by rfl, rfl⟩) ?_ ?_
      rotate_left
      ·simp only [Act.put, List.setIfInBounds_toArray, List.set_cons_zero, List.set_cons_succ, i64_w, i32_w]
       rfl
      refine pure_ (i := 8) (N := some 22) (v := undef) (a' := ?_) (zb 24 511) rfl rfl (any_of HT_.out (by kernel_rfl)) (fun _ _ _ h => h) (Or.inr ⟨by rfl, rfl⟩) ?_ ?_
      rotate_left
      ·simp only [Act.put, List.setIfInBounds_toArray, List.set_cons_zero, List.set_cons_succ, i64_w, i32_w]
       rfl
      refine zU (i := 9) (N := some 23) (zb 24 1023) (any_of HT_.out (by kernel_rfl)) ?_
      refine zU (i := 10) (N := some 24) (zb 24 2047) (any_of HT_.out (by kernel_rfl)) ?_
      refine pure_ (i := 11) (N := some 25) (v := undef) (a' := ?_) (zb 24 4095) rfl rfl (any_of HT_.out (by kernel_rfl)) (fun _ _ _ h => h) (Or.inr ⟨by rfl, rfl⟩) ?_ ?_
      rotate_left
      ·simp only [Act.put, List.setIfInBounds_toArray, List.set_cons_zero, List.set_cons_succ, i64_w, i32_w]
       rfl
      refine pure_ (i := 12) (N := some 26) (v := undef) (a' := ?_) (zb 24 8191) rfl rfl (any_of HT_.out (by kernel_rfl)) (fun _ _ _ h => h) (Or.inr ⟨by rfl, rfl⟩) ?_ ?_
      rotate_left
      ·simp only [Act.put, List.setIfInBounds_toArray, List.set_cons_zero, List.set_cons_succ, i64_w, i32_w]
       rfl
      refine pure_ (i := 13) (N := some 27) (v := undef) (a' := ?_) (zb 24 16383) rfl rfl (any_of HT_.out (by kernel_rfl)) (fun _ _ _ h => h) (Or.inr ⟨by rfl, rfl⟩) ?_ ?_
      rotate_left
      ·simp only [Act.put, List.setIfInBounds_toArray, List.set_cons_zero, List.set_cons_succ, i64_w, i32_w]
       rfl
      refine zU (i := 14) (N := some 28) (zb 24 32767) (any_of HT_.out (by kernel_rfl)) ?_
      refine zU (i := 15) (N := some 29) (zb 24 65535) (any_of HT_.out (by kernel_rfl)) ?_
      refine pure_ (i := 16) (N := some 30) (v := undef) (a' := ?_) (zb 24 131071) rfl rfl (any_of HT_.out (by kernel_rfl)) (fun _ _ _ h => h) (Or.inr ⟨by rfl, rfl⟩) ?_ ?_
      rotate_left
      ·simp only [Act.put, List.setIfInBounds_toArray, List.set_cons_zero, List.set_cons_succ, i64_w, i32_w]
       rfl
      refine pure_ (i := 17) (N := some 31) (v := undef) (a' := ?_) (zb 24 262143) rfl rfl (any_of HT_.out (by kernel_rfl)) (fun _ _ _ h => h) (Or.inr ⟨by rfl, rfl⟩) ?_ ?_
      rotate_left
      ·simp only [Act.put, List.setIfInBounds_toArray, List.set_cons_zero, List.set_cons_succ, i64_w, i32_w]
       rfl
      refine pure_ (i := 18) (N := some 32) (v := undef) (a' := ?_) (zb 24 524287) rfl rfl (any_of HT_.out (by kernel_rfl)) (fun _ _ _ h => h) (Or.inr ⟨by rfl, rfl⟩) ?_ ?_
      rotate_left
      ·simp only [Act.put, List.setIfInBounds_toArray, List.set_cons_zero, List.set_cons_succ, i64_w, i32_w]
       rfl
      refine pure_ (i := 19) (N := some 33) (v := undef) (a' := ?_) (zb 24 1048575) rfl rfl (any_of HT_.out (by kernel_rfl)) (fun _ _ _ h => h) (Or.inr ⟨by rfl, rfl⟩) ?_ ?_
      rotate_left
      ·simp only [Act.put, List.setIfInBounds_toArray, List.set_cons_zero, List.set_cons_succ, i64_w, i32_w]
       rfl
      refine pure_ (i := 20) (N := some 34) (v := undef) (a' := ?_) (zb 24 2097151) rfl rfl (any_of HT_.out (by kernel_rfl)) (fun _ _ _ h => h) (Or.inr ⟨by rfl, rfl⟩) ?_ ?_
      rotate_left
      ·simp only [Act.put, List.setIfInBounds_toArray, List.set_cons_zero, List.set_cons_succ, i64_w, i32_w]
       rfl
      refine pure_ (i := 21) (N := some 35) (v := undef) (a' := ?_) (zb 24 4194303) rfl rfl (any_of HT_.out (by kernel_rfl)) (fun _ _ _ h => h) (Or.inr ⟨by rfl, rfl⟩) ?_ ?_
      rotate_left
      ·simp only [Act.put, List.setIfInBounds_toArray, List.set_cons_zero, List.set_cons_succ, i64_w, i32_w]
       rfl
      refine pure_ (i := 22) (N := some 36) (v := undef) (a' := ?_) (zb 24 8388607) rfl rfl (any_of HT_.out (by kernel_rfl)) (fun _ _ _ h => h) (Or.inr ⟨by rfl, rfl⟩) ?_ ?_
      rotate_left
      ·simp only [Act.put, List.setIfInBounds_toArray, List.set_cons_zero, List.set_cons_succ, i64_w, i32_w]
       rfl
      refine zU (i := 23) (N := some 37) (zb 24 16777215) (any_of HT_.out (by kernel_rfl)) ?_
      refine done_ (done_of HT_.out (by kernel_rfl)) ?_
      try go_wp2
      go_meet
      case rel => exact ⟨_, (true), zR, H', ⟨by have := HJ1.out; first | omega | exact Nat.le_refl _⟩, zK BK262, ⟨zT HB⟩⟩
    case rest =>
     clear HC8
     try clear c1; try clear p2; try clear c4; try clear c5; try clear c10; try clear c10b0; try clear c10b1; try clear c12
     obtain ⟨kq, x37_7, rfl, HA, HJ7, BK262, HB⟩ := hcut
     cases kq with
     | zero => exact absurd HA.out (by simp [gussetref03_Check.j1])
     | succ kj7 =>
      have H := HA.out
      clear HA
      simp only [gussetref03_Check.j1] at H
      by_cases c29 : x37_7 = true
      ·subst c29
       rw [if_pos rfl] at H
       obtain rfl := Option.some.inj H
       go_wp2
       go_ret
       exact ⟨zH, zT HB⟩
      ·replace c29 := Bool.eq_false_iff.mpr c29
       subst c29
       rw [if_neg zn] at H
       obtain rfl := Option.some.inj H
       go_wp2
       go_ret
       exact ⟨zH, zT HB⟩


/-! ### gussetref03_Both: function 39 -/
def gussetref03_Both.f (k : Nat) (a0_0 : Bool) (a0_1 : ByteArray) (a0_2 : ByteArray) (a1_0 : Bool) (a1_1 : ByteArray) (a1_2 : ByteArray) : Option (Int) := (gussetref03_Check.f k a0_0 a0_1 a0_2).bind fun t390 => (if t390 = 0 then ((gussetref03_Check.f k a1_0 a1_1 a1_2).bind fun t391 => (some t391)) else (some t390))
set_option maxHeartbeats 8000000 in
set_option maxRecDepth 100000 in
theorem gussetref03_Both.calls (k : Nat) (a0_0 : Bool) (a0_1 : ByteArray) (a0_2 : ByteArray) (a1_0 : Bool) (a1_1 : ByteArray) (a1_2 : ByteArray) (r : Int) (w : World) (h : gussetref03_Both.f k a0_0 a0_1 a0_2 a1_0 a1_1 a1_2 = some r) :
  Calls Tryz.prog 39 #[.agg #[.bool a0_0, .string a0_1, .string a0_2], .agg #[.bool a1_0, .string a1_1, .string a1_2]] w fun e w' => e = .returned (.int .i64 r) ∧ Below w.heap.size w w' := by
 have hu27 := Tryz.underlying27
 have HB := Aside0.mk (Below.refl w.heap.size w)
 unfold gussetref03_Both.f at h; have H := h; clear h
 obtain ⟨t390, A3, H⟩ := zo H
 by_cases c4 : t390 = 0
 ·rw [if_pos c4] at H
  have c4b0 := beq_iff_eq.mpr c4
  have c4b1 := bne_eq_false_iff_eq.mpr c4
  clear c4
  obtain ⟨t391, A5, H⟩ := zo H
  obtain rfl := Option.some.inj H
  go_enter Tryz.func39, Tryz.ntmps39
  go_wp2_with (first | ((with_reducible refine gate_dst (N := 2) rfl ?_); refine zY 2 #[.bool a0_0, .string a0_1, .string a0_2] 27 ?_; intro gb388 hg w6 hbox hb; have BK388 := Aside0.mk (hbox); have GW388 := zG hg HB; have GE388 := zG hg HB; replace HB := zS HB hb; clear hb hbox hg) | ((with_reducible refine gate_dst (N := 3) rfl ?_); refine zY 3 #[.bool a1_0, .string a1_1, .string a1_2] 27 ?_; intro gb389 hg w7 hbox hb; have BK389 := Aside0.mk (hbox); have GW389 := zG hg HB; have GE389 := zG hg HB; obtain ⟨NB388_389, NB389_388⟩ := zQ hg BK388; replace BK388 := zB BK388 hb; replace HB := zS HB hb; clear hb hbox hg; have hnb8 := NB388_389.out; have hnc8 := NB389_388.out; obtain ⟨hcz9_0, hcz9_1, hcz9_2, hfz9_0, hfz9_1, hfz9_2⟩ := z3 BK388) | ((with_reducible refine gate_callee (f := 19) rfl ?_); refine zO Tryz.func19 (by kernel_rfl) (gussetref03_Check.calls k a0_0 a0_1 a0_2 t390 _ A3.out) fun w10 hb => ?_; obtain ⟨BK388, BK389⟩ := zB2 BK388 BK389 hb; replace HB := zS HB hb; (try clear hb); obtain ⟨hcz11_0, hcz11_1, hcz11_2, hfz11_0, hfz11_1, hfz11_2⟩ := z3 BK389) | ((with_reducible refine gate_callee (f := 19) rfl ?_); refine zO Tryz.func19 (by kernel_rfl) (gussetref03_Check.calls k a1_0 a1_1 a1_2 t391 _ A5.out) fun w12 hb => ?_; obtain ⟨BK388, BK389⟩ := zB2 BK388 BK389 hb; replace HB := zS HB hb; (try clear hb)))
  go_ret
  exact ⟨zH, zT HB⟩
 ·rw [if_neg c4] at H
  have c4b0 := beq_eq_false_iff_ne.mpr c4
  have c4b1 := bne_iff_ne.mpr c4
  obtain rfl := Option.some.inj H
  go_enter Tryz.func39, Tryz.ntmps39
  go_wp2_with (first | ((with_reducible refine gate_dst (N := 2) rfl ?_); refine zY 2 #[.bool a0_0, .string a0_1, .string a0_2] 27 ?_; intro gb388 hg w13 hbox hb; have BK388 := Aside0.mk (hbox); have GW388 := zG hg HB; have GE388 := zG hg HB; replace HB := zS HB hb; clear hb hbox hg) | ((with_reducible refine gate_dst (N := 3) rfl ?_); refine zY 3 #[.bool a1_0, .string a1_1, .string a1_2] 27 ?_; intro gb389 hg w14 hbox hb; have BK389 := Aside0.mk (hbox); have GW389 := zG hg HB; have GE389 := zG hg HB; obtain ⟨NB388_389, NB389_388⟩ := zQ hg BK388; replace BK388 := zB BK388 hb; replace HB := zS HB hb; clear hb hbox hg; have hnb15 := NB388_389.out; have hnc15 := NB389_388.out; obtain ⟨hcz16_0, hcz16_1, hcz16_2, hfz16_0, hfz16_1, hfz16_2⟩ := z3 BK388) | ((with_reducible refine gate_callee (f := 19) rfl ?_); refine zO Tryz.func19 (by kernel_rfl) (gussetref03_Check.calls k a0_0 a0_1 a0_2 t390 _ A3.out) fun w17 hb => ?_; obtain ⟨BK388, BK389⟩ := zB2 BK388 BK389 hb; replace HB := zS HB hb; (try clear hb)))
  go_ret
  exact ⟨zH, zT HB⟩


/-! ### gussetlaw03_fine: function 27 -/
def gussetlaw03_fine.f (k : Nat) (a0_0 : Bool) (a0_1 : ByteArray) (a0_2 : ByteArray) (a1_0 : Bool) (a1_1 : ByteArray) (a1_2 : ByteArray) : Option (Bool) := (gussetlaw03_small.f a0_0 a0_1 a0_2).bind fun t394 => (if t394 = true then ((gussetlaw03_small.f a1_0 a1_1 a1_2).bind fun t395 => (if t395 = true then ((gussetref03_Both.f k a0_0 a0_1 a0_2 a1_0 a1_1 a1_2).bind fun t396 => (some (t396 == 0))) else (some false))) else (some false))
set_option maxHeartbeats 8000000 in
set_option maxRecDepth 100000 in
theorem gussetlaw03_fine.calls (k : Nat) (a0_0 : Bool) (a0_1 : ByteArray) (a0_2 : ByteArray) (a1_0 : Bool) (a1_1 : ByteArray) (a1_2 : ByteArray) (r : Bool) (w : World) (h : gussetlaw03_fine.f k a0_0 a0_1 a0_2 a1_0 a1_1 a1_2 = some r) :
  Calls Tryz.prog 27 #[.agg #[.bool a0_0, .string a0_1, .string a0_2], .agg #[.bool a1_0, .string a1_1, .string a1_2]] w fun e w' => e = .returned (.bool r) ∧ Below w.heap.size w w' := by
 have hu27 := Tryz.underlying27
 have HB := Aside0.mk (Below.refl w.heap.size w)
 unfold gussetlaw03_fine.f at h; have H := h; clear h
 obtain ⟨t394, A3, H⟩ := zo H
 by_cases c4 : t394 = true
 ·subst c4
  rw [if_pos rfl] at H
  obtain ⟨t395, A5, H⟩ := zo H
  by_cases c6 : t395 = true
  ·subst c6
   rw [if_pos rfl] at H
   obtain ⟨t396, A7, H⟩ := zo H
   obtain rfl := Option.some.inj H
   go_enter Tryz.func27, Tryz.ntmps27
   go_wp2_with (first | ((with_reducible refine gate_dst (N := 2) rfl ?_); refine zY 2 #[.bool a0_0, .string a0_1, .string a0_2] 27 ?_; intro gb392 hg w8 hbox hb; have BK392 := Aside0.mk (hbox); have GW392 := zG hg HB; have GE392 := zG hg HB; replace HB := zS HB hb; clear hb hbox hg) | ((with_reducible refine gate_dst (N := 3) rfl ?_); refine zY 3 #[.bool a1_0, .string a1_1, .string a1_2] 27 ?_; intro gb393 hg w9 hbox hb; have BK393 := Aside0.mk (hbox); have GW393 := zG hg HB; have GE393 := zG hg HB; obtain ⟨NB392_393, NB393_392⟩ := zQ hg BK392; replace BK392 := zB BK392 hb; replace HB := zS HB hb; clear hb hbox hg; have hnb10 := NB392_393.out; have hnc10 := NB393_392.out; obtain ⟨hcz11_0, hcz11_1, hcz11_2, hfz11_0, hfz11_1, hfz11_2⟩ := z3 BK392) | ((with_reducible refine gate_callee (f := 33) rfl ?_); refine zO Tryz.func33 (by kernel_rfl) (gussetlaw03_small.calls a0_0 a0_1 a0_2 true _ A3.out) fun w12 hb => ?_; obtain ⟨BK392, BK393⟩ := zB2 BK392 BK393 hb; replace HB := zS HB hb; (try clear hb); obtain ⟨hcz13_0, hcz13_1, hcz13_2, hfz13_0, hfz13_1, hfz13_2⟩ := z3 BK393) | (go_at_call 33; (with_reducible refine (gussetlaw03_small.calls a1_0 a1_1 a1_2 true _ A5.out).mono ?_); rintro e w14 ⟨rfl, hb⟩; obtain ⟨BK392, BK393⟩ := zB2 BK392 BK393 hb; replace HB := zS HB hb; (try clear hb); obtain ⟨hcz15_0, hcz15_1, hcz15_2, hfz15_0, hfz15_1, hfz15_2⟩ := z3 BK392; obtain ⟨hcz16_0, hcz16_1, hcz16_2, hfz16_0, hfz16_1, hfz16_2⟩ := z3 BK393) | (go_at_call 39; (with_reducible refine (gussetref03_Both.calls k a0_0 a0_1 a0_2 a1_0 a1_1 a1_2 t396 _ A7.out).mono ?_); rintro e w17 ⟨rfl, hb⟩; obtain ⟨BK392, BK393⟩ := zB2 BK392 BK393 hb; replace HB := zS HB hb; (try clear hb)))
   go_ret
   exact ⟨zH, zT HB⟩
  ·replace c6 := Bool.eq_false_iff.mpr c6
   subst c6
   rw [if_neg zn] at H
   obtain rfl := Option.some.inj H
   go_enter Tryz.func27, Tryz.ntmps27
   go_wp2_with (first | ((with_reducible refine gate_dst (N := 2) rfl ?_); refine zY 2 #[.bool a0_0, .string a0_1, .string a0_2] 27 ?_; intro gb392 hg w18 hbox hb; have BK392 := Aside0.mk (hbox); have GW392 := zG hg HB; have GE392 := zG hg HB; replace HB := zS HB hb; clear hb hbox hg) | ((with_reducible refine gate_dst (N := 3) rfl ?_); refine zY 3 #[.bool a1_0, .string a1_1, .string a1_2] 27 ?_; intro gb393 hg w19 hbox hb; have BK393 := Aside0.mk (hbox); have GW393 := zG hg HB; have GE393 := zG hg HB; obtain ⟨NB392_393, NB393_392⟩ := zQ hg BK392; replace BK392 := zB BK392 hb; replace HB := zS HB hb; clear hb hbox hg; have hnb20 := NB392_393.out; have hnc20 := NB393_392.out; obtain ⟨hcz21_0, hcz21_1, hcz21_2, hfz21_0, hfz21_1, hfz21_2⟩ := z3 BK392) | ((with_reducible refine gate_callee (f := 33) rfl ?_); refine zO Tryz.func33 (by kernel_rfl) (gussetlaw03_small.calls a0_0 a0_1 a0_2 true _ A3.out) fun w22 hb => ?_; obtain ⟨BK392, BK393⟩ := zB2 BK392 BK393 hb; replace HB := zS HB hb; (try clear hb); obtain ⟨hcz23_0, hcz23_1, hcz23_2, hfz23_0, hfz23_1, hfz23_2⟩ := z3 BK393) | (go_at_call 33; (with_reducible refine (gussetlaw03_small.calls a1_0 a1_1 a1_2 false _ A5.out).mono ?_); rintro e w24 ⟨rfl, hb⟩; obtain ⟨BK392, BK393⟩ := zB2 BK392 BK393 hb; replace HB := zS HB hb; (try clear hb)))
   go_ret
   exact ⟨zH, zT HB⟩
 ·replace c4 := Bool.eq_false_iff.mpr c4
  subst c4
  rw [if_neg zn] at H
  obtain rfl := Option.some.inj H
  go_enter Tryz.func27, Tryz.ntmps27
  go_wp2_with (first | ((with_reducible refine gate_dst (N := 2) rfl ?_); refine zY 2 #[.bool a0_0, .string a0_1, .string a0_2] 27 ?_; intro gb392 hg w25 hbox hb; have BK392 := Aside0.mk (hbox); have GW392 := zG hg HB; have GE392 := zG hg HB; replace HB := zS HB hb; clear hb hbox hg) | ((with_reducible refine gate_dst (N := 3) rfl ?_); refine zY 3 #[.bool a1_0, .string a1_1, .string a1_2] 27 ?_; intro gb393 hg w26 hbox hb; have BK393 := Aside0.mk (hbox); have GW393 := zG hg HB; have GE393 := zG hg HB; obtain ⟨NB392_393, NB393_392⟩ := zQ hg BK392; replace BK392 := zB BK392 hb; replace HB := zS HB hb; clear hb hbox hg; have hnb27 := NB392_393.out; have hnc27 := NB393_392.out; obtain ⟨hcz28_0, hcz28_1, hcz28_2, hfz28_0, hfz28_1, hfz28_2⟩ := z3 BK392) | ((with_reducible refine gate_callee (f := 33) rfl ?_); refine zO Tryz.func33 (by kernel_rfl) (gussetlaw03_small.calls a0_0 a0_1 a0_2 false _ A3.out) fun w29 hb => ?_; obtain ⟨BK392, BK393⟩ := zB2 BK392 BK393 hb; replace HB := zS HB hb; (try clear hb)))
  go_ret
  exact ⟨zH, zT HB⟩


/-! ### gussetref02_Times: function 24 -/
open Go.Proofs.YtoijlbcbbblbfaaGreatDoor Go.Proofs.YtoijlbcbbblbfaaGreatDoor.Num in
def gussetref02_Times.f (a0_0 : Bool) (a0_1 : ByteArray) (a1_0 : Bool) (a1_1 : ByteArray) : Option (Bool × ByteArray) := if a0_1.size ≤ 4000 ∧ a1_1.size ≤ 4000 then some ((pv (ival a0_0 a0_1 * ival a1_0 a1_1)).1, (pv (ival a0_0 a0_1 * ival a1_0 a1_1)).2) else none
open Go.Proofs.YtoijlbcbbblbfaaGreatDoor Go.Proofs.YtoijlbcbbblbfaaGreatDoor.Num in
theorem gussetref02_Times.calls (a0_0 : Bool) (a0_1 : ByteArray) (a1_0 : Bool) (a1_1 : ByteArray) (r1 : Bool) (r2 : ByteArray) (w : World) (h : gussetref02_Times.f a0_0 a0_1 a1_0 a1_1 = some (r1, r2)) :
  Calls Tryz.prog 24 #[.agg #[.bool a0_0, .string a0_1], .agg #[.bool a1_0, .string a1_1]] w fun e w' => e = .returned (.agg #[.bool r1, .string r2]) ∧ Below w.heap.size w w' := by
 unfold gussetref02_Times.f at h
 split at h
 ·rename_i hc
  simp only [Option.some.injEq, Prod.mk.injEq] at h
  obtain ⟨rfl, rfl⟩ := h
  exact times_r _ _ _ _ hc.1 hc.2 w
 ·exact absurd h (by simp)



/-! ### gussetref02_Parse: function 22 -/
open Go.Proofs.YtoijlbcbbblbfaaGreatDoor Go.Proofs.YtoijlbcbbblbfaaGreatDoor.Num in
def gussetref02_Parse.f (a0 : ByteArray) : Option (Bool × ByteArray × Int) := some ((parseF a0).1.1, (parseF a0).1.2, (parseF a0).2)
open Go.Proofs.YtoijlbcbbblbfaaGreatDoor Go.Proofs.YtoijlbcbbblbfaaGreatDoor.Num in
theorem gussetref02_Parse.calls (a0 : ByteArray) (r1 : Bool) (r2 : ByteArray) (r3 : Int) (w : World) (h : gussetref02_Parse.f a0 = some (r1, r2, r3)) :
  Calls Tryz.prog 22 #[.string a0] w fun e w' => e = .returned (.tuple #[.agg #[.bool r1, .string r2], .int .i64 r3]) ∧ Below w.heap.size w w' := by
 unfold gussetref02_Parse.f at h
 simp only [Option.some.injEq, Prod.mk.injEq] at h
 obtain ⟨rfl, rfl, rfl⟩ := h
 exact (parse_r a0 w).mono fun e w' h => ⟨by rw [h.1, parseF_V], h.2⟩



/-! ### gussetref02_Sum: function 65 -/
open Go.Proofs.YtoijlbcbbblbfaaGreatDoor Go.Proofs.YtoijlbcbbblbfaaGreatDoor.Num in
def gussetref02_Sum.f (a0_0 : Bool) (a0_1 : ByteArray) (a1_0 : Bool) (a1_1 : ByteArray) : Option (Bool × ByteArray) := if a0_1.size ≤ 4000 ∧ a1_1.size ≤ 4000 then some ((pv (ival a0_0 a0_1 + ival a1_0 a1_1)).1, (pv (ival a0_0 a0_1 + ival a1_0 a1_1)).2) else none
open Go.Proofs.YtoijlbcbbblbfaaGreatDoor Go.Proofs.YtoijlbcbbblbfaaGreatDoor.Num in
theorem gussetref02_Sum.calls (a0_0 : Bool) (a0_1 : ByteArray) (a1_0 : Bool) (a1_1 : ByteArray) (r1 : Bool) (r2 : ByteArray) (w : World) (h : gussetref02_Sum.f a0_0 a0_1 a1_0 a1_1 = some (r1, r2)) :
  Calls Tryz.prog 65 #[.agg #[.bool a0_0, .string a0_1], .agg #[.bool a1_0, .string a1_1]] w fun e w' => e = .returned (.agg #[.bool r1, .string r2]) ∧ Below w.heap.size w w' := by
 unfold gussetref02_Sum.f at h
 split at h
 ·rename_i hc
  simp only [Option.some.injEq, Prod.mk.injEq] at h
  obtain ⟨rfl, rfl⟩ := h
  exact sum_r _ _ _ _ hc.1 hc.2 w
 ·exact absurd h (by simp)


end Go.Proofs.YtoijlbcbbblbfaaGreatDoorH.R
