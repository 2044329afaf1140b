import Derived.Test.YtoijlbcbbblbfaaGreatDoorYG0x0
import Derived.Test.YtoijlbcbbblbfaaGreatDoorYG0x1
import Derived.Test.YtoijlbcbbblbfaaGreatDoorYV1
-- printed by hp.py
namespace Go.Proofs.YtoijlbcbbblbfaaGreatDoorH.R
open Go.RowKit Go.Proofs.YtoijlbcbbblbfaaGreatDoorH.Z Go.Proofs.YtoijlbcbbblbfaaGreatDoorW.PrintWords Go.Proofs.YtoijlbcbbblbfaaGreatDoorW.PrintLast Go.Proofs.YtoijlbcbbblbfaaGreatDoorW.PrintMore
attribute [local go_sem] max2_int min2_int max_two min_two max_three min_three max_four min_four   -- for this text's walks alone
set_option linter.unusedVariables false
set_option linter.unusedSimpArgs false

/-! ### rat_Mul: function 28 -/
def rat_Mul.f (k : Nat) (a0_0 : Bool) (a0_1 : ByteArray) (a0_2 : ByteArray) (a1_0 : Bool) (a1_1 : ByteArray) (a1_2 : ByteArray) : Option (Bool × ByteArray × ByteArray × Int) := (rat_both.f k a0_0 a0_1 a0_2 a1_0 a1_1 a1_2).bind fun t400 => (if t400 = 0 then ((rat_do_of_whole_Mul.f a0_0 a0_1 a1_0 a1_1).bind fun bt401 => ((rat_den.f a0_0 a0_1 a0_2).bind fun bt403 => ((rat_den.f a1_0 a1_1 a1_2).bind fun bt405 => ((rat_do_of_whole_Mul.f bt403.1 bt403.2 bt405.1 bt405.2).bind fun bt407 => ((rat_lowest.f k bt401.1 bt401.2 bt407.1 bt407.2).bind fun bt409 => (some (bt409.1, bt409.2.1, bt409.2.2, 0))))))) else (some (false, (⟨#[]⟩ : ByteArray), (⟨#[]⟩ : ByteArray), t400)))
def rat_Mul.T4 : Bool × List (List Nat × List Nat) := (true, [([], []), ([0], [0]), ([], []), ([2], [2]), ([1, 3], [1, 3]), ([], []), ([5, 4], [5]), ([], []), ([7, 6], [7]), ([6, 8, 8], [6, 8]), ([4, 9, 9], [4, 9]), ([10, 10, 0, 1, 2, 3, 4, 5, 6, 7, 8, 9, 10], [10]), ([11, 0, 1, 2, 3, 4, 5, 6, 7, 8, 9, 10, 11], [])])
def rat_Mul.B4 : List Nat := [0, 1, 0, 4, 15, 0, 63, 0, 255, 511, 1023, 2047, 4095]
theorem rat_Mul.tab4 : rtab .any (opsOf Tryz.f28 4) = rat_Mul.T4 := by kernel_rfl
theorem rat_Mul.bits4 : waitsOk rat_Mul.T4.2 rat_Mul.B4 = true := by kernel_rfl
set_option maxHeartbeats 8000000 in
set_option maxRecDepth 100000 in
theorem rat_Mul.calls (k : Nat) (a0_0 : Bool) (a0_1 : ByteArray) (a0_2 : ByteArray) (a1_0 : Bool) (a1_1 : ByteArray) (a1_2 : ByteArray) (r1 : Bool) (r2 : ByteArray) (r3 : ByteArray) (r4 : Int) (w : World) (h : rat_Mul.f k a0_0 a0_1 a0_2 a1_0 a1_1 a1_2 = some (r1, r2, r3, r4)) :
    Calls Tryz.prog 28 #[.agg #[.bool a0_0, .string a0_1, .string a0_2], .agg #[.bool a1_0, .string a1_1, .string a1_2]] w fun e w' => e = .returned (.tuple #[.agg #[.bool r1, .string r2, .string r3], .int .i64 r4]) ∧ Below w.heap.size w w' := by
  have hu27 := Tryz.underlying27
  have hu24 := Tryz.underlying24; have hf0 := zf240; have hf1 := zf241; have hf2 := zf270; have hf3 := zf271
  have HB := Aside0.mk (Below.refl w.heap.size w)
  have H : ((rat_both.f k a0_0 a0_1 a0_2 a1_0 a1_1 a1_2).bind fun t400 => (if t400 = 0 then ((rat_do_of_whole_Mul.f a0_0 a0_1 a1_0 a1_1).bind fun bt401 => ((rat_den.f a0_0 a0_1 a0_2).bind fun bt403 => ((rat_den.f a1_0 a1_1 a1_2).bind fun bt405 => ((rat_do_of_whole_Mul.f bt403.1 bt403.2 bt405.1 bt405.2).bind fun bt407 => ((rat_lowest.f k bt401.1 bt401.2 bt407.1 bt407.2).bind fun bt409 => (some (bt409.1, bt409.2.1, bt409.2.2, 0))))))) else (some (false, (⟨#[]⟩ : ByteArray), (⟨#[]⟩ : ByteArray), t400)))) = some (r1, r2, r3, r4) := h
  clear h
  replace H := Option.bind_eq_some_iff.mp H
  obtain ⟨t400, A30, H⟩ := H
  replace H : (if t400 = 0 then ((rat_do_of_whole_Mul.f a0_0 a0_1 a1_0 a1_1).bind fun bt401 => ((rat_den.f a0_0 a0_1 a0_2).bind fun bt403 => ((rat_den.f a1_0 a1_1 a1_2).bind fun bt405 => ((rat_do_of_whole_Mul.f bt403.1 bt403.2 bt405.1 bt405.2).bind fun bt407 => ((rat_lowest.f k bt401.1 bt401.2 bt407.1 bt407.2).bind fun bt409 => (some (bt409.1, bt409.2.1, bt409.2.2, 0))))))) else (some (false, (⟨#[]⟩ : ByteArray), (⟨#[]⟩ : ByteArray), t400))) = some (r1, r2, r3, r4) := H
  have A3 := Aside0.mk A30
  clear A30
  by_cases c4 : t400 = 0
  · rw [if_pos c4] at H
    have c4b0 : (t400 == 0) = true := beq_iff_eq.mpr c4
    have c4b1 : (t400 != 0) = false := bne_eq_false_iff_eq.mpr c4
    clear c4
    replace H := Option.bind_eq_some_iff.mp H
    obtain ⟨⟨t401, t402⟩, A50, H⟩ := H
    replace H : ((rat_den.f a0_0 a0_1 a0_2).bind fun bt403 => ((rat_den.f a1_0 a1_1 a1_2).bind fun bt405 => ((rat_do_of_whole_Mul.f bt403.1 bt403.2 bt405.1 bt405.2).bind fun bt407 => ((rat_lowest.f k t401 t402 bt407.1 bt407.2).bind fun bt409 => (some (bt409.1, bt409.2.1, bt409.2.2, 0)))))) = some (r1, r2, r3, r4) := H
    have A5 := Aside0.mk A50
    clear A50
    replace H := Option.bind_eq_some_iff.mp H
    obtain ⟨⟨t403, t404⟩, A60, H⟩ := H
    replace H : ((rat_den.f a1_0 a1_1 a1_2).bind fun bt405 => ((rat_do_of_whole_Mul.f t403 t404 bt405.1 bt405.2).bind fun bt407 => ((rat_lowest.f k t401 t402 bt407.1 bt407.2).bind fun bt409 => (some (bt409.1, bt409.2.1, bt409.2.2, 0))))) = some (r1, r2, r3, r4) := H
    have A6 := Aside0.mk A60
    clear A60
    replace H := Option.bind_eq_some_iff.mp H
    obtain ⟨⟨t405, t406⟩, A70, H⟩ := H
    replace H : ((rat_do_of_whole_Mul.f t403 t404 t405 t406).bind fun bt407 => ((rat_lowest.f k t401 t402 bt407.1 bt407.2).bind fun bt409 => (some (bt409.1, bt409.2.1, bt409.2.2, 0)))) = some (r1, r2, r3, r4) := H
    have A7 := Aside0.mk A70
    clear A70
    replace H := Option.bind_eq_some_iff.mp H
    obtain ⟨⟨t407, t408⟩, A80, H⟩ := H
    replace H : ((rat_lowest.f k t401 t402 t407 t408).bind fun bt409 => (some (bt409.1, bt409.2.1, bt409.2.2, 0))) = some (r1, r2, r3, r4) := H
    have A8 := Aside0.mk A80
    clear A80
    replace H := Option.bind_eq_some_iff.mp H
    obtain ⟨⟨t409, t410, t411⟩, A90, H⟩ := H
    replace H : (some (t409, t410, t411, 0)) = some (r1, r2, r3, r4) := H
    have A9 := Aside0.mk A90
    clear A90
    simp only [Option.some.injEq, Prod.mk.injEq] at H
    obtain ⟨rfl, rfl, rfl, rfl⟩ := H
    go_enter Tryz.func28, Tryz.ntmps28
    try go_wp2_with (first | ((with_reducible refine gate_dst (N := 2) rfl ?_); refine zY 2 #[.bool a0_0, .string a0_1, .string a0_2] 27 ?_; intro gb397 hg w10 hbox hb; have BK397 := Aside0.mk (hbox); have GW397 := zG hg HB; have GE397 := zG hg HB; replace HB := zS HB hb; clear hb hbox hg) | ((with_reducible refine gate_dst (N := 3) rfl ?_); refine zY 3 #[.bool a1_0, .string a1_1, .string a1_2] 27 ?_; intro gb398 hg w11 hbox hb; have BK398 := Aside0.mk (hbox); have GW398 := zG hg HB; have GE398 := zG hg HB; obtain ⟨NB397_398, NB398_397⟩ := zQ hg BK397; replace BK397 := zB BK397 hb; replace HB := zS HB hb; clear hb hbox hg) | ((with_reducible refine gate_dst (N := 4) rfl ?_); refine zY 4 #[.bool false, .string (⟨#[]⟩ : ByteArray), .string (⟨#[]⟩ : ByteArray)] 27 ?_; intro gb399 hg w12 hbox hb; have BK399 := Aside0.mk (hbox); have GW399 := zG hg HB; have GE399 := zG hg HB; obtain ⟨NB397_399, NB399_397⟩ := zQ hg BK397; obtain ⟨NB398_399, NB399_398⟩ := zQ hg BK398; obtain ⟨BK397, BK398⟩ := zB2 BK397 BK398 hb; replace HB := zS HB hb; clear hb hbox hg; have hnb13 := NB397_398.out; have hnc13 := NB398_397.out; have hnb14 := NB397_399.out; have hnc14 := NB399_397.out; obtain ⟨hcz15_0, hcz15_1, hcz15_2, hfz15_0, hfz15_1, hfz15_2⟩ := z3 BK397; have hnb16 := NB398_399.out; have hnc16 := NB399_398.out; obtain ⟨hcz17_0, hcz17_1, hcz17_2, hfz17_0, hfz17_1, hfz17_2⟩ := z3 BK398) | ((with_reducible refine gate_callee (f := 72) rfl ?_); refine zC Tryz.func72 (by kernel_rfl) #[.agg #[.bool a0_0, .string a0_1, .string a0_2], .agg #[.bool a1_0, .string a1_1, .string a1_2]] ?_; (with_reducible refine (rat_both.calls k a0_0 a0_1 a0_2 a1_0 a1_1 a1_2 t400 _ A3.out).mono ?_); rintro e w18 ⟨rfl, hb⟩; refine ⟨_, rfl, ?_⟩; obtain ⟨BK397, BK398, BK399⟩ := zB3 BK397 BK398 BK399 hb; replace HB := zS HB hb; (try clear hb)))
    replace BK397 := zD BK397; replace BK398 := zD BK398; replace BK399 := zD BK399; replace HB := zF HB
    refine start_ (n := 13) (S := fun w' => w'.cell? ⟨gb397, 0, none⟩ = some (.bool a0_0) ∧ w'.cell? ⟨gb397, 1, none⟩ = some (.string a0_1) ∧ w'.cell? ⟨gb397, 2, none⟩ = some (.string a0_2) ∧ w'.cell? ⟨gb398, 0, none⟩ = some (.bool a1_0) ∧ w'.cell? ⟨gb398, 1, none⟩ = some (.string a1_1) ∧ w'.cell? ⟨gb398, 2, none⟩ = some (.string a1_2)) (ds := []) #[false, false, false, false, false, false, false, false, false, false, false, false, false] (by kernel_rfl) rfl rfl ⟨(blk_cell BK397.out 0).trans rfl, (blk_cell BK397.out 1).trans rfl, (blk_cell BK397.out 2).trans rfl, (blk_cell BK398.out 0).trans rfl, (blk_cell BK398.out 1).trans rfl, (blk_cell BK398.out 2).trans rfl⟩ (fun hHeld => ?_); refine with_tabW rat_Mul.tab4 rat_Mul.bits4 (fun HT_ HW_ => ?_)
    generalize w18.drew = w19 at BK397 BK398 BK399 HB hHeld ⊢
    refine zU (i := 0) (N := some 14) #[true, false, false, false, false, false, false, false, false, false, false, false, false] (any_of HT_.out (by kernel_rfl)) ?_
    refine zU (i := 2) (N := some 16) #[true, false, true, false, false, false, false, false, false, false, false, false, false] (any_of HT_.out (by kernel_rfl)) ?_
    refine zV (i := 1) (N := some 15) #[true, true, true, false, false, false, false, false, false, false, false, false, false] (take_ofW HT_.out HW_.out (by kernel_rfl)) hHeld ?_
    refine zV (i := 3) (N := some 17) #[true, true, true, true, false, false, false, false, false, false, false, false, false] (take_ofW HT_.out HW_.out (by kernel_rfl)) hHeld ?_
    refine zV (i := 5) (N := some 19) #[true, true, true, true, false, true, false, false, false, false, false, false, false] (take_ofW HT_.out HW_.out (by kernel_rfl)) hHeld ?_
    refine zV (i := 7) (N := some 21) #[true, true, true, true, false, true, false, true, false, false, false, false, false] (take_ofW HT_.out HW_.out (by kernel_rfl)) hHeld ?_
    refine one_ (i := 4) (N := some 18) #[true, true, true, true, true, true, false, true, false, false, false, false, false] rfl rfl (one_of HT_.out (by kernel_rfl)) (by decide) (fun K hK => ?_)
    refine zX Tryz.func57 (by kernel_rfl) #[.func (.func 58) #[] #[], .agg #[.bool a0_0, .string a0_1], .agg #[.bool a1_0, .string a1_1]] ?_
    with_reducible refine (rat_do_of_whole_Mul.calls a0_0 a0_1 a1_0 a1_1 t401 t402 _ A5.out).mono ?_
    rintro e w20 ⟨rfl, hb⟩; refine ⟨_, rfl, ?_⟩
    obtain ⟨BK397, BK398, BK399⟩ := zB3 BK397 BK398 BK399 hb; replace HB := zS HB hb
    (try clear hb)
    refine hK.out _ _ ⟨(blk_cell BK397.out 0).trans rfl, (blk_cell BK397.out 1).trans rfl, (blk_cell BK397.out 2).trans rfl, (blk_cell BK398.out 0).trans rfl, (blk_cell BK398.out 1).trans rfl, (blk_cell BK398.out 2).trans rfl⟩ (fun hHeld => ?_)
    clear hK K
    refine zW (some 18) ?_
    refine one_ (i := 6) (N := some 20) #[true, true, true, true, true, true, true, true, false, false, false, false, false] rfl rfl (one_of HT_.out (by kernel_rfl)) (by decide) (fun K hK => ?_)
    refine zX Tryz.func60 (by kernel_rfl) #[.agg #[.bool a0_0, .string a0_1, .string a0_2]] ?_
    with_reducible refine (rat_den.calls a0_0 a0_1 a0_2 t403 t404 _ A6.out).mono ?_
    rintro e w21 ⟨rfl, hb⟩; refine ⟨_, rfl, ?_⟩
    obtain ⟨BK397, BK398, BK399⟩ := zB3 BK397 BK398 BK399 hb; replace HB := zS HB hb
    (try clear hb)
    refine hK.out _ _ ⟨(blk_cell BK397.out 0).trans rfl, (blk_cell BK397.out 1).trans rfl, (blk_cell BK397.out 2).trans rfl, (blk_cell BK398.out 0).trans rfl, (blk_cell BK398.out 1).trans rfl, (blk_cell BK398.out 2).trans rfl⟩ (fun hHeld => ?_)
    clear hK K
    refine zW (some 20) ?_
    refine one_ (i := 8) (N := some 22) #[true, true, true, true, true, true, true, true, true, false, false, false, false] rfl rfl (one_of HT_.out (by kernel_rfl)) (by decide) (fun K hK => ?_)
    refine zX Tryz.func60 (by kernel_rfl) #[.agg #[.bool a1_0, .string a1_1, .string a1_2]] ?_
    with_reducible refine (rat_den.calls a1_0 a1_1 a1_2 t405 t406 _ A7.out).mono ?_
    rintro e w22 ⟨rfl, hb⟩; refine ⟨_, rfl, ?_⟩
    obtain ⟨BK397, BK398, BK399⟩ := zB3 BK397 BK398 BK399 hb; replace HB := zS HB hb
    (try clear hb)
    refine hK.out _ _ ⟨(blk_cell BK397.out 0).trans rfl, (blk_cell BK397.out 1).trans rfl, (blk_cell BK397.out 2).trans rfl, (blk_cell BK398.out 0).trans rfl, (blk_cell BK398.out 1).trans rfl, (blk_cell BK398.out 2).trans rfl⟩ (fun hHeld => ?_)
    clear hK K
    refine zW (some 22) ?_
    refine one_ (i := 9) (N := some 23) #[true, true, true, true, true, true, true, true, true, true, false, false, false] rfl rfl (one_of HT_.out (by kernel_rfl)) (by decide) (fun K hK => ?_)
    refine zX Tryz.func57 (by kernel_rfl) #[.func (.func 58) #[] #[], .agg #[.bool t403, .string t404], .agg #[.bool t405, .string t406]] ?_
    with_reducible refine (rat_do_of_whole_Mul.calls t403 t404 t405 t406 t407 t408 _ A8.out).mono ?_
    rintro e w23 ⟨rfl, hb⟩; refine ⟨_, rfl, ?_⟩
    obtain ⟨BK397, BK398, BK399⟩ := zB3 BK397 BK398 BK399 hb; replace HB := zS HB hb
    (try clear hb)
    refine hK.out _ _ ⟨(blk_cell BK397.out 0).trans rfl, (blk_cell BK397.out 1).trans rfl, (blk_cell BK397.out 2).trans rfl, (blk_cell BK398.out 0).trans rfl, (blk_cell BK398.out 1).trans rfl, (blk_cell BK398.out 2).trans rfl⟩ (fun hHeld => ?_)
    clear hK K
    refine zW (some 23) ?_
    refine one_ (i := 10) (N := some 24) #[true, true, true, true, true, true, true, true, true, true, true, false, false] rfl rfl (one_of HT_.out (by kernel_rfl)) (by decide) (fun K hK => ?_)
    refine zX Tryz.func47 (by kernel_rfl) #[.agg #[.bool t401, .string t402], .agg #[.bool t407, .string t408]] ?_
    with_reducible refine (rat_lowest.calls k t401 t402 t407 t408 t409 t410 t411 _ A9.out).mono ?_
    rintro e w24 ⟨rfl, hb⟩; refine ⟨_, rfl, ?_⟩
    obtain ⟨BK397, BK398, BK399⟩ := zB3 BK397 BK398 BK399 hb; replace HB := zS HB hb
    (try clear hb)
    refine hK.out _ _ ⟨(blk_cell BK397.out 0).trans rfl, (blk_cell BK397.out 1).trans rfl, (blk_cell BK397.out 2).trans rfl, (blk_cell BK398.out 0).trans rfl, (blk_cell BK398.out 1).trans rfl, (blk_cell BK398.out 2).trans rfl⟩ (fun hHeld => ?_)
    clear hK K
    refine zW (some 24) ?_
    refine one_ (i := 11) (N := none) #[true, true, true, true, true, true, true, true, true, true, true, true, false] rfl rfl (one_of HT_.out (by kernel_rfl)) (by decide) (fun K hK => ?_)
    have hs25 : w24.cell? ⟨gb399, 0, none⟩ = some (.bool false) := (blk_cell BK399.out 0).trans rfl
    have hfs25 := blk_frozen BK399.out 0
    have hns25_0 := NB397_399.out
    have hns25_1 := NB398_399.out
    have hms25_0 := NB399_397.out
    have hms25_1 := NB399_398.out
    have hs26 : w24.cell? ⟨gb399, 1, none⟩ = some (.string (⟨#[]⟩ : ByteArray)) := (blk_cell BK399.out 1).trans rfl
    have hfs26 := blk_frozen BK399.out 1
    have hns26_0 := NB397_399.out
    have hns26_1 := NB398_399.out
    have hms26_0 := NB399_397.out
    have hms26_1 := NB399_398.out
    have hs27 : w24.cell? ⟨gb399, 2, none⟩ = some (.string (⟨#[]⟩ : ByteArray)) := (blk_cell BK399.out 2).trans rfl
    have hfs27 := blk_frozen BK399.out 2
    have hns27_0 := NB397_399.out
    have hns27_1 := NB398_399.out
    have hms27_0 := NB399_397.out
    have hms27_1 := NB399_398.out
    refine skip_ (w1 := ?_) (by rfl) rfl ?_ ?_
    rotate_left
    · go_simp
      rfl
    refine hK.out _ _ ⟨((cell_far (p := ⟨gb399, _, none⟩) NB397_399.out _).trans (((cell_far (p := ⟨gb399, _, none⟩) NB397_399.out _).trans (((cell_far (p := ⟨gb399, _, none⟩) NB397_399.out _).trans (hHeld.1)))))), ((cell_far (p := ⟨gb399, _, none⟩) NB397_399.out _).trans (((cell_far (p := ⟨gb399, _, none⟩) NB397_399.out _).trans (((cell_far (p := ⟨gb399, _, none⟩) NB397_399.out _).trans (hHeld.2.1)))))), ((cell_far (p := ⟨gb399, _, none⟩) NB397_399.out _).trans (((cell_far (p := ⟨gb399, _, none⟩) NB397_399.out _).trans (((cell_far (p := ⟨gb399, _, none⟩) NB397_399.out _).trans (hHeld.2.2.1)))))), ((cell_far (p := ⟨gb399, _, none⟩) NB398_399.out _).trans (((cell_far (p := ⟨gb399, _, none⟩) NB398_399.out _).trans (((cell_far (p := ⟨gb399, _, none⟩) NB398_399.out _).trans (hHeld.2.2.2.1)))))), ((cell_far (p := ⟨gb399, _, none⟩) NB398_399.out _).trans (((cell_far (p := ⟨gb399, _, none⟩) NB398_399.out _).trans (((cell_far (p := ⟨gb399, _, none⟩) NB398_399.out _).trans (hHeld.2.2.2.2.1)))))), ((cell_far (p := ⟨gb399, _, none⟩) NB398_399.out _).trans (((cell_far (p := ⟨gb399, _, none⟩) NB398_399.out _).trans (((cell_far (p := ⟨gb399, _, none⟩) NB398_399.out _).trans (hHeld.2.2.2.2.2))))))⟩ (fun hHeld => ?_)
    clear hK K
    refine zU (i := 12) (N := some 5) #[true, true, true, true, true, true, true, true, true, true, true, true, true] (any_of HT_.out (by kernel_rfl)) ?_
    refine done_ (done_of HT_.out (by kernel_rfl)) ?_
    try go_wp2
    refine bodyPost_ret (results_ct rfl _ _ gb399 27 #[.bool t409, .string t410, .string t411] (0, 0) _ rfl (by (with_reducible repeat (first | refine blk_drewN ?_ _ | refine blk_drew ?_ | refine blk_alloc ?_ _)); refine zP (cs := #[.bool t409, .string t410, .string (⟨#[]⟩ : ByteArray)]) ?_ 2 _; (with_reducible repeat (first | refine blk_drewN ?_ _ | refine blk_drew ?_ | refine blk_alloc ?_ _)); refine zP (cs := #[.bool t409, .string (⟨#[]⟩ : ByteArray), .string (⟨#[]⟩ : ByteArray)]) ?_ 1 _; (with_reducible repeat (first | refine blk_drewN ?_ _ | refine blk_drew ?_ | refine blk_alloc ?_ _)); refine zP (cs := #[.bool false, .string (⟨#[]⟩ : ByteArray), .string (⟨#[]⟩ : ByteArray)]) ?_ 0 _; (with_reducible repeat (first | refine blk_drewN ?_ _ | refine blk_drew ?_ | refine blk_alloc ?_ _)); exact BK399.out) Tryz.underlying27 rfl (by kernel_rfl)) rfl ?_
    exact ⟨by first | rfl | (simp [errW_none, errW_some] <;> rfl) | (simp [*, errW_none, errW_some] <;> rfl), zT HB⟩
  · rw [if_neg c4] at H
    have c4b0 : (t400 == 0) = false := beq_eq_false_iff_ne.mpr c4
    have c4b1 : (t400 != 0) = true := bne_iff_ne.mpr c4
    simp only [Option.some.injEq, Prod.mk.injEq] at H
    obtain ⟨rfl, rfl, rfl, rfl⟩ := H
    go_enter Tryz.func28, Tryz.ntmps28
    go_wp2_with (first | ((with_reducible refine gate_dst (N := 2) rfl ?_); refine zY 2 #[.bool a0_0, .string a0_1, .string a0_2] 27 ?_; intro gb397 hg w28 hbox hb; have BK397 := Aside0.mk (hbox); have GW397 := zG hg HB; have GE397 := zG hg HB; replace HB := zS HB hb; clear hb hbox hg) | ((with_reducible refine gate_dst (N := 3) rfl ?_); refine zY 3 #[.bool a1_0, .string a1_1, .string a1_2] 27 ?_; intro gb398 hg w29 hbox hb; have BK398 := Aside0.mk (hbox); have GW398 := zG hg HB; have GE398 := zG hg HB; obtain ⟨NB397_398, NB398_397⟩ := zQ hg BK397; replace BK397 := zB BK397 hb; replace HB := zS HB hb; clear hb hbox hg) | ((with_reducible refine gate_dst (N := 4) rfl ?_); refine zY 4 #[.bool false, .string (⟨#[]⟩ : ByteArray), .string (⟨#[]⟩ : ByteArray)] 27 ?_; intro gb399 hg w30 hbox hb; have BK399 := Aside0.mk (hbox); have GW399 := zG hg HB; have GE399 := zG hg HB; obtain ⟨NB397_399, NB399_397⟩ := zQ hg BK397; obtain ⟨NB398_399, NB399_398⟩ := zQ hg BK398; obtain ⟨BK397, BK398⟩ := zB2 BK397 BK398 hb; replace HB := zS HB hb; clear hb hbox hg; have hnb31 := NB397_398.out; have hnc31 := NB398_397.out; have hnb32 := NB397_399.out; have hnc32 := NB399_397.out; obtain ⟨hcz33_0, hcz33_1, hcz33_2, hfz33_0, hfz33_1, hfz33_2⟩ := z3 BK397; have hnb34 := NB398_399.out; have hnc34 := NB399_398.out; obtain ⟨hcz35_0, hcz35_1, hcz35_2, hfz35_0, hfz35_1, hfz35_2⟩ := z3 BK398) | ((with_reducible refine gate_callee (f := 72) rfl ?_); refine zC Tryz.func72 (by kernel_rfl) #[.agg #[.bool a0_0, .string a0_1, .string a0_2], .agg #[.bool a1_0, .string a1_1, .string a1_2]] ?_; (with_reducible refine (rat_both.calls k a0_0 a0_1 a0_2 a1_0 a1_1 a1_2 t400 _ A3.out).mono ?_); rintro e w36 ⟨rfl, hb⟩; refine ⟨_, rfl, ?_⟩; obtain ⟨BK397, BK398, BK399⟩ := zB3 BK397 BK398 BK399 hb; replace HB := zS HB hb; (try clear hb); obtain ⟨hcz37_0, hcz37_1, hcz37_2, hfz37_0, hfz37_1, hfz37_2⟩ := z3 BK399))
    refine bodyPost_ret (results_ct rfl _ _ gb399 27 #[.bool false, .string (⟨#[]⟩ : ByteArray), .string (⟨#[]⟩ : ByteArray)] (0, 0) _ rfl (by (with_reducible repeat (first | refine blk_drewN ?_ _ | refine blk_drew ?_ | refine blk_alloc ?_ _)); refine zP (cs := #[.bool false, .string (⟨#[]⟩ : ByteArray), .string (⟨#[]⟩ : ByteArray)]) ?_ 2 _; (with_reducible repeat (first | refine blk_drewN ?_ _ | refine blk_drew ?_ | refine blk_alloc ?_ _)); refine zP (cs := #[.bool false, .string (⟨#[]⟩ : ByteArray), .string (⟨#[]⟩ : ByteArray)]) ?_ 1 _; (with_reducible repeat (first | refine blk_drewN ?_ _ | refine blk_drew ?_ | refine blk_alloc ?_ _)); refine zP (cs := #[.bool false, .string (⟨#[]⟩ : ByteArray), .string (⟨#[]⟩ : ByteArray)]) ?_ 0 _; (with_reducible repeat (first | refine blk_drewN ?_ _ | refine blk_drew ?_ | refine blk_alloc ?_ _)); exact BK399.out) Tryz.underlying27 rfl (by kernel_rfl)) rfl ?_
    exact ⟨by first | rfl | (simp [errW_none, errW_some] <;> rfl) | (simp [*, errW_none, errW_some] <;> rfl), zT HB⟩

end Go.Proofs.YtoijlbcbbblbfaaGreatDoorH.R

-- printed by hp.py
namespace Go.Proofs.YtoijlbcbbblbfaaGreatDoorH.R
open Go.RowKit Go.Proofs.YtoijlbcbbblbfaaGreatDoorH.Z Go.Proofs.YtoijlbcbbblbfaaGreatDoorW.PrintWords Go.Proofs.YtoijlbcbbblbfaaGreatDoorW.PrintLast Go.Proofs.YtoijlbcbbblbfaaGreatDoorW.PrintMore
attribute [local go_sem] max2_int min2_int max_two min_two max_three min_three max_four min_four   -- for this text's walks alone
set_option linter.unusedVariables false
set_option linter.unusedSimpArgs false

/-! ### gussetlaw03_small: function 33 -/
def gussetlaw03_small.f (a0_0 : Bool) (a0_1 : ByteArray) (a0_2 : ByteArray) : Option (Bool) := if (a0_1.size : Int) ≤ 120 then (some (decide ((a0_2.size : Int) ≤ 120))) else (some false)
set_option maxHeartbeats 8000000 in
set_option maxRecDepth 100000 in
theorem gussetlaw03_small.calls (a0_0 : Bool) (a0_1 : ByteArray) (a0_2 : ByteArray) (r : Bool) (w : World) (h : gussetlaw03_small.f a0_0 a0_1 a0_2 = some r) :
    Calls Tryz.prog 33 #[.agg #[.bool a0_0, .string a0_1, .string a0_2]] w fun e w' => e = .returned (.bool r) ∧ Below w.heap.size w w' := by
  have hu27 := Tryz.underlying27
  have HB := Aside0.mk (Below.refl w.heap.size w)
  have H : (if (a0_1.size : Int) ≤ 120 then (some (decide ((a0_2.size : Int) ≤ 120))) else (some false)) = some r := h
  clear h
  by_cases c2 : (a0_1.size : Int) ≤ 120
  · rw [if_pos c2] at H
    have c2b0 : decide ((a0_1.size : Int) ≤ 120) = true := decide_eq_true c2
    have c2b1 : decide (a0_1.size ≤ 120) = true := decide_eq_true (by omega)
    clear c2
    obtain rfl := Option.some.inj H
    go_enter Tryz.func33, Tryz.ntmps33
    go_wp2_with (first | ((with_reducible refine gate_dst (N := 1) rfl ?_); (try (refine gate_guard (by rfl) ?_; dsimp only)); refine zY 1 #[.bool a0_0, .string a0_1, .string a0_2] 27 ?_; intro gb387 hg w3 hbox hb; have BK387 := Aside0.mk (hbox); have GW387 := zG hg HB; have GE387 := zG hg HB; replace HB := zS HB hb; clear hb hbox hg; obtain ⟨hcz4_0, hcz4_1, hcz4_2, hfz4_0, hfz4_1, hfz4_2⟩ := z3 BK387))
    go_ret
    exact ⟨by first | rfl | (simp [errW_none, errW_some] <;> rfl) | (simp [*, errW_none, errW_some] <;> rfl), zT HB⟩
  · rw [if_neg c2] at H
    have c2b0 : decide ((a0_1.size : Int) ≤ 120) = false := decide_eq_false c2
    have c2b1 : decide (a0_1.size ≤ 120) = false := decide_eq_false (by omega)
    clear c2
    obtain rfl := Option.some.inj H
    go_enter Tryz.func33, Tryz.ntmps33
    go_wp2_with (first | ((with_reducible refine gate_dst (N := 1) rfl ?_); (try (refine gate_guard (by rfl) ?_; dsimp only)); refine zY 1 #[.bool a0_0, .string a0_1, .string a0_2] 27 ?_; intro gb387 hg w5 hbox hb; have BK387 := Aside0.mk (hbox); have GW387 := zG hg HB; have GE387 := zG hg HB; replace HB := zS HB hb; clear hb hbox hg; obtain ⟨hcz6_0, hcz6_1, hcz6_2, hfz6_0, hfz6_1, hfz6_2⟩ := z3 BK387))
    go_ret
    exact ⟨by first | rfl | (simp [errW_none, errW_some] <;> rfl) | (simp [*, errW_none, errW_some] <;> rfl), zT HB⟩

end Go.Proofs.YtoijlbcbbblbfaaGreatDoorH.R

-- printed by hp.py
namespace Go.Proofs.YtoijlbcbbblbfaaGreatDoorH.R
open Go.RowKit Go.Proofs.YtoijlbcbbblbfaaGreatDoorH.Z Go.Proofs.YtoijlbcbbblbfaaGreatDoorW.PrintWords Go.Proofs.YtoijlbcbbblbfaaGreatDoorW.PrintLast Go.Proofs.YtoijlbcbbblbfaaGreatDoorW.PrintMore
attribute [local go_sem] max2_int min2_int max_two min_two max_three min_three max_four min_four   -- for this text's walks alone
set_option linter.unusedVariables false
set_option linter.unusedSimpArgs false

/-! ### rat_over_gen: function 73 -/
def rat_over_gen.j0 (F : Bool → ByteArray → Bool → ByteArray → Option (Bool × ByteArray)) : Nat → Bool → Bool → ByteArray → ByteArray → Bool → ByteArray → ByteArray → Option (Bool × ByteArray × ByteArray × Int)
  | 0, _, _, _, _, _, _, _ => none
  | k + 1, x24, x467000, x467001, x467002, x468000, x468001, x468002 => if x24 = true then ((F x467000 x467001 x468000 x468001).bind fun bt470 => (some (bt470.1, bt470.2, (⟨#[1]⟩ : ByteArray), 0))) else ((rat_den.f x468000 x468001 x468002).bind fun bt472 => ((rat_do_of_whole_Mul.f x467000 x467001 bt472.1 bt472.2).bind fun bt474 => ((rat_den.f x467000 x467001 x467002).bind fun bt476 => ((rat_do_of_whole_Mul.f x468000 x468001 bt476.1 bt476.2).bind fun bt478 => ((F bt474.1 bt474.2 bt478.1 bt478.2).bind fun bt480 => ((rat_den.f x467000 x467001 x467002).bind fun bt483 => ((rat_den.f x468000 x468001 x468002).bind fun bt485 => ((rat_do_of_whole_Mul.f bt483.1 bt483.2 bt485.1 bt485.2).bind fun bt487 => ((rat_lowest.f k bt480.1 bt480.2 bt487.1 bt487.2).bind fun bt489 => (some (bt489.1, bt489.2.1, bt489.2.2, 0)))))))))))
def rat_over_gen.f (F : Bool → ByteArray → Bool → ByteArray → Option (Bool × ByteArray)) (k : Nat) (a0_0 : Bool) (a0_1 : ByteArray) (a0_2 : ByteArray) (a1_0 : Bool) (a1_1 : ByteArray) (a1_2 : ByteArray) : Option (Bool × ByteArray × ByteArray × Int) := (rat_both.f k a0_0 a0_1 a0_2 a1_0 a1_1 a1_2).bind fun t469 => (if t469 = 0 then (if a0_2.toList = ([1] : List UInt8) then (rat_over_gen.j0 F k (a1_2.toList == ([1] : List UInt8)) a0_0 a0_1 a0_2 a1_0 a1_1 a1_2) else (rat_over_gen.j0 F k false a0_0 a0_1 a0_2 a1_0 a1_1 a1_2)) else (some (false, (⟨#[]⟩ : ByteArray), (⟨#[]⟩ : ByteArray), t469)))
def rat_over_gen.T6 : Bool × List (List Nat × List Nat) := (true, [([], []), ([], []), ([1], [1]), ([], []), ([3], [3]), ([2, 4, 4], [2, 4]), ([], []), ([6], [6]), ([], []), ([8, 5], [8]), ([7, 9, 9], [7, 9]), ([0, 5, 10, 10], [0, 5, 10]), ([], []), ([12, 11, 11, 0, 1, 2, 3, 4, 5, 6, 7, 8, 9, 10, 11, 12], [11, 12])])
def rat_over_gen.B6 : List Nat := [0, 0, 2, 0, 8, 30, 0, 64, 0, 318, 1022, 2047, 0, 8191]
theorem rat_over_gen.tab6 : rtab .any (opsOf Tryz.f73 6) = rat_over_gen.T6 := by kernel_rfl
theorem rat_over_gen.bits6 : waitsOk rat_over_gen.T6.2 rat_over_gen.B6 = true := by kernel_rfl
def rat_over_gen.T7 : Bool × List (List Nat × List Nat) := (true, [([], []), ([], []), ([1], [1]), ([], []), ([3, 2], [3]), ([2, 4, 4], [2, 4]), ([0, 5, 5], [0, 5]), ([6, 6, 0, 1, 2, 3, 4, 5, 6], [6]), ([7, 0, 1, 2, 3, 4, 5, 6, 7], [])])
def rat_over_gen.B7 : List Nat := [0, 0, 2, 0, 14, 30, 63, 127, 255]
theorem rat_over_gen.tab7 : rtab .any (opsOf Tryz.f73 7) = rat_over_gen.T7 := by kernel_rfl
theorem rat_over_gen.bits7 : waitsOk rat_over_gen.T7.2 rat_over_gen.B7 = true := by kernel_rfl
set_option maxHeartbeats 8000000 in
set_option maxRecDepth 100000 in
theorem rat_over_gen.calls (G : Nat) (F : Bool → ByteArray → Bool → ByteArray → Option (Bool × ByteArray)) (hF : Aside0 (∀ (n : Bool) (s : ByteArray) (m : Bool) (t : ByteArray) (r1 : Bool) (r2 : ByteArray) (w : World), F n s m t = some (r1, r2) → Calls Tryz.prog 57 #[.func (.func G) #[] #[], .agg #[.bool n, .string s], .agg #[.bool m, .string t]] w fun e w' => e = .returned (.agg #[.bool r1, .string r2]) ∧ Below w.heap.size w w')) (k : Nat) (a0_0 : Bool) (a0_1 : ByteArray) (a0_2 : ByteArray) (a1_0 : Bool) (a1_1 : ByteArray) (a1_2 : ByteArray) (r1 : Bool) (r2 : ByteArray) (r3 : ByteArray) (r4 : Int) (w : World) (h : rat_over_gen.f F k a0_0 a0_1 a0_2 a1_0 a1_1 a1_2 = some (r1, r2, r3, r4)) :
    Calls Tryz.prog 73 #[.agg #[.bool a0_0, .string a0_1, .string a0_2], .agg #[.bool a1_0, .string a1_1, .string a1_2], .func (.func G) #[] #[]] w fun e w' => e = .returned (.tuple #[.agg #[.bool r1, .string r2, .string r3], .int .i64 r4]) ∧ Below w.heap.size w w' := by
  have hu27 := Tryz.underlying27
  have hu24 := Tryz.underlying24; have hf0 := zf240; have hf1 := zf241; have hf2 := zf270; have hf3 := zf271
  have HB := Aside0.mk (Below.refl w.heap.size w)
  have H : ((rat_both.f k a0_0 a0_1 a0_2 a1_0 a1_1 a1_2).bind fun t469 => (if t469 = 0 then (if a0_2.toList = ([1] : List UInt8) then (rat_over_gen.j0 F k (a1_2.toList == ([1] : List UInt8)) a0_0 a0_1 a0_2 a1_0 a1_1 a1_2) else (rat_over_gen.j0 F k false a0_0 a0_1 a0_2 a1_0 a1_1 a1_2)) else (some (false, (⟨#[]⟩ : ByteArray), (⟨#[]⟩ : ByteArray), t469)))) = some (r1, r2, r3, r4) := h
  clear h
  replace H := Option.bind_eq_some_iff.mp H
  obtain ⟨t469, A30, H⟩ := H
  replace H : (if t469 = 0 then (if a0_2.toList = ([1] : List UInt8) then (rat_over_gen.j0 F k (a1_2.toList == ([1] : List UInt8)) a0_0 a0_1 a0_2 a1_0 a1_1 a1_2) else (rat_over_gen.j0 F k false a0_0 a0_1 a0_2 a1_0 a1_1 a1_2)) else (some (false, (⟨#[]⟩ : ByteArray), (⟨#[]⟩ : ByteArray), t469))) = some (r1, r2, r3, r4) := H
  have A3 := Aside0.mk A30
  clear A30
  by_cases c4 : t469 = 0
  · rw [if_pos c4] at H
    have c4b0 : (t469 == 0) = true := beq_iff_eq.mpr c4
    have c4b1 : (t469 != 0) = false := bne_eq_false_iff_eq.mpr c4
    clear c4
    have HC5 := Aside0.mk H
    clear H
    go_enter Tryz.func73, Tryz.ntmps73
    go_upto_region 4 with (first | ((with_reducible refine gate_dst (N := 3) rfl ?_); refine zY 3 #[.bool a0_0, .string a0_1, .string a0_2] 27 ?_; intro gb466 hg w6 hbox hb; have BK466 := Aside0.mk (hbox); have GW466 := zG hg HB; have GE466 := zG hg HB; replace HB := zS HB hb; clear hb hbox hg) | ((with_reducible refine gate_dst (N := 4) rfl ?_); refine zY 4 #[.bool a1_0, .string a1_1, .string a1_2] 27 ?_; intro gb467 hg w7 hbox hb; have BK467 := Aside0.mk (hbox); have GW467 := zG hg HB; have GE467 := zG hg HB; obtain ⟨NB466_467, NB467_466⟩ := zQ hg BK466; replace BK466 := zB BK466 hb; replace HB := zS HB hb; clear hb hbox hg) | ((with_reducible refine gate_dst (N := 6) rfl ?_); refine zY 6 #[.bool false, .string (⟨#[]⟩ : ByteArray), .string (⟨#[]⟩ : ByteArray)] 27 ?_; intro gb468 hg w8 hbox hb; have BK468 := Aside0.mk (hbox); have GW468 := zG hg HB; have GE468 := zG hg HB; obtain ⟨NB466_468, NB468_466⟩ := zQ hg BK466; obtain ⟨NB467_468, NB468_467⟩ := zQ hg BK467; obtain ⟨BK466, BK467⟩ := zB2 BK466 BK467 hb; replace HB := zS HB hb; clear hb hbox hg; have hnb9 := NB466_467.out; have hnc9 := NB467_466.out; have hnb10 := NB466_468.out; have hnc10 := NB468_466.out; obtain ⟨hcz11_0, hcz11_1, hcz11_2, hfz11_0, hfz11_1, hfz11_2⟩ := z3 BK466; have hnb12 := NB467_468.out; have hnc12 := NB468_467.out; obtain ⟨hcz13_0, hcz13_1, hcz13_2, hfz13_0, hfz13_1, hfz13_2⟩ := z3 BK467) | ((with_reducible refine gate_callee (f := 72) rfl ?_); refine zC Tryz.func72 (by kernel_rfl) #[.agg #[.bool a0_0, .string a0_1, .string a0_2], .agg #[.bool a1_0, .string a1_1, .string a1_2]] ?_; (with_reducible refine (rat_both.calls k a0_0 a0_1 a0_2 a1_0 a1_1 a1_2 t469 _ A3.out).mono ?_); rintro e w14 ⟨rfl, hb⟩; refine ⟨_, rfl, ?_⟩; obtain ⟨BK466, BK467, BK468⟩ := zB3 BK466 BK467 BK468 hb; replace HB := zS HB hb; (try clear hb)))
    (try simp only [Act.put, List.setIfInBounds_toArray, List.set_cons_zero, List.set_cons_succ])
    go_cut [24] (fun v24 wc => ∃ (kq : Nat) (x24_4 : Bool), v24 = .bool x24_4 ∧ Aside0 (rat_over_gen.j0 F kq x24_4 a0_0 a0_1 a0_2 a1_0 a1_1 a1_2 = some (r1, r2, r3, r4)) ∧ Aside0 (kq ≤ k) ∧ Aside0 (wc.heap[gb466]? = some (.cells #[.bool a0_0, .string a0_1, .string a0_2] 27 (0, 0))) ∧ Aside0 (wc.heap[gb467]? = some (.cells #[.bool a1_0, .string a1_1, .string a1_2] 27 (0, 0))) ∧ Aside0 (wc.heap[gb468]? = some (.cells #[.bool false, .string (⟨#[]⟩ : ByteArray), .string (⟨#[]⟩ : ByteArray)] 27 (0, 0))) ∧ Aside0 (Below w.heap.size w wc))
    case first =>
      have H := HC5.out
      clear HC5
      by_cases c15 : a0_2.toList = ([1] : List UInt8)
      · rw [if_pos c15] at H
        have c15b0 : (a0_2.toList == ([1] : List UInt8)) = true := beq_iff_eq.mpr c15
        have c15b1 : (a0_2.toList != ([1] : List UInt8)) = false := bne_eq_false_iff_eq.mpr c15
        clear c15
        (first | rw [c15b0] | (simp only [i64_w, i32_w]; rw [c15b0]) | skip)
        have H' := Aside0.mk H
        clear H; have hnb16 := NB466_467.out; have hnc16 := NB467_466.out; have hnb17 := NB466_468.out; have hnc17 := NB468_466.out; obtain ⟨hcz18_0, hcz18_1, hcz18_2, hfz18_0, hfz18_1, hfz18_2⟩ := z3 BK466; have hnb19 := NB467_468.out; have hnc19 := NB468_467.out; obtain ⟨hcz20_0, hcz20_1, hcz20_2, hfz20_0, hfz20_1, hfz20_2⟩ := z3 BK467
        go_wp2
        go_meet
        case rel => exact ⟨_, ((a1_2.toList == ([1] : List UInt8))), zR, H', zL, zK BK466, zK BK467, zK BK468, ⟨zT HB⟩⟩
      · rw [if_neg c15] at H
        have c15b0 : (a0_2.toList == ([1] : List UInt8)) = false := beq_eq_false_iff_ne.mpr c15
        have c15b1 : (a0_2.toList != ([1] : List UInt8)) = true := bne_iff_ne.mpr c15
        (first | rw [c15b0] | (simp only [i64_w, i32_w]; rw [c15b0]) | skip)
        have H' := Aside0.mk H
        clear H; have hnb21 := NB466_467.out; have hnc21 := NB467_466.out; have hnb22 := NB466_468.out; have hnc22 := NB468_466.out; obtain ⟨hcz23_0, hcz23_1, hcz23_2, hfz23_0, hfz23_1, hfz23_2⟩ := z3 BK466
        go_wp2
        go_meet
        case rel => exact ⟨_, (false), zR, H', zL, zK BK466, zK BK467, zK BK468, ⟨zT HB⟩⟩
    case rest =>
      clear HC5
      try clear c1; try clear c2; try clear p2; try clear c4; try clear c4b0; try clear c4b1; try clear c7; try clear c9; try clear c10; try clear c12; try clear c15; try clear c15b0; try clear c15b1; try clear c16; try clear c17; try clear c19; try clear c21; try clear c22; try clear hcz11_0; try clear hcz11_1; try clear hcz11_2; try clear hcz13_0; try clear hcz13_1; try clear hcz13_2; try clear hcz18_0; try clear hcz18_1; try clear hcz18_2; try clear hcz20_0; try clear hcz20_1; try clear hcz20_2; try clear hcz23_0; try clear hcz23_1; try clear hcz23_2; try clear hfz11_0; try clear hfz11_1; try clear hfz11_2; try clear hfz13_0; try clear hfz13_1; try clear hfz13_2; try clear hfz18_0; try clear hfz18_1; try clear hfz18_2; try clear hfz20_0; try clear hfz20_1; try clear hfz20_2; try clear hfz23_0; try clear hfz23_1; try clear hfz23_2
      obtain ⟨kq, x24_4, rfl, HA, HJ4, BK466, BK467, BK468, HB⟩ := hcut
      cases kq with
      | zero => exact absurd HA.out (by simp [rat_over_gen.j0])
      | succ kj4 =>
        have H := HA.out
        clear HA
        simp only [rat_over_gen.j0] at H
        by_cases c24 : x24_4 = true
        · subst c24
          have H1 : ((F a0_0 a0_1 a1_0 a1_1).bind fun bt470 => (some (bt470.1, bt470.2, (⟨#[1]⟩ : ByteArray), 0))) = some (r1, r2, r3, r4) := by rw [if_pos rfl] at H; exact H
          clear H
          have H := H1
          clear H1
          replace H := Option.bind_eq_some_iff.mp H
          obtain ⟨⟨t470, t471⟩, A250, H⟩ := H
          replace H : (some (t470, t471, (⟨#[1]⟩ : ByteArray), 0)) = some (r1, r2, r3, r4) := H
          have A25 := Aside0.mk A250
          clear A250
          simp only [Option.some.injEq, Prod.mk.injEq] at H
          obtain ⟨rfl, rfl, rfl, rfl⟩ := H
          have hnb26 := NB466_467.out; have hnc26 := NB467_466.out; have hnb27 := NB466_468.out; have hnc27 := NB468_466.out; obtain ⟨hcz28_0, hcz28_1, hcz28_2, hfz28_0, hfz28_1, hfz28_2⟩ := z3 BK466; have hnb29 := NB467_468.out; have hnc29 := NB468_467.out; obtain ⟨hcz30_0, hcz30_1, hcz30_2, hfz30_0, hfz30_1, hfz30_2⟩ := z3 BK467
          go_wp2_with (first | ((with_reducible refine gate_callee (f := 57) rfl ?_); refine zC Tryz.func57 (by kernel_rfl) #[.func (.func G) #[] #[], .agg #[.bool a0_0, .string a0_1], .agg #[.bool a1_0, .string a1_1]] ?_; (with_reducible refine (hF.out a0_0 a0_1 a1_0 a1_1 t470 t471 _ A25.out).mono ?_); rintro e w31 ⟨rfl, hb⟩; refine ⟨_, rfl, ?_⟩; obtain ⟨BK466, BK467, BK468⟩ := zB3 BK466 BK467 BK468 hb; replace HB := zS HB hb; (try clear hb); obtain ⟨hcz32_0, hcz32_1, hcz32_2, hfz32_0, hfz32_1, hfz32_2⟩ := z3 BK468))
          refine bodyPost_ret (results_ct rfl _ _ gb468 27 #[.bool t470, .string t471, .string (⟨#[1]⟩ : ByteArray)] (0, 0) _ rfl (by (with_reducible repeat (first | refine blk_drewN ?_ _ | refine blk_drew ?_ | refine blk_alloc ?_ _)); refine zP (cs := #[.bool t470, .string t471, .string (⟨#[]⟩ : ByteArray)]) ?_ 2 _; (with_reducible repeat (first | refine blk_drewN ?_ _ | refine blk_drew ?_ | refine blk_alloc ?_ _)); refine zP (cs := #[.bool t470, .string (⟨#[]⟩ : ByteArray), .string (⟨#[]⟩ : ByteArray)]) ?_ 1 _; (with_reducible repeat (first | refine blk_drewN ?_ _ | refine blk_drew ?_ | refine blk_alloc ?_ _)); refine zP (cs := #[.bool false, .string (⟨#[]⟩ : ByteArray), .string (⟨#[]⟩ : ByteArray)]) ?_ 0 _; (with_reducible repeat (first | refine blk_drewN ?_ _ | refine blk_drew ?_ | refine blk_alloc ?_ _)); exact BK468.out) Tryz.underlying27 rfl (by kernel_rfl)) rfl ?_
          exact ⟨by first | rfl | (simp [errW_none, errW_some] <;> rfl) | (simp [*, errW_none, errW_some] <;> rfl), zT HB⟩
        · replace c24 := Bool.eq_false_iff.mpr c24
          subst c24
          have H1 : ((rat_den.f a1_0 a1_1 a1_2).bind fun bt472 => ((rat_do_of_whole_Mul.f a0_0 a0_1 bt472.1 bt472.2).bind fun bt474 => ((rat_den.f a0_0 a0_1 a0_2).bind fun bt476 => ((rat_do_of_whole_Mul.f a1_0 a1_1 bt476.1 bt476.2).bind fun bt478 => ((F bt474.1 bt474.2 bt478.1 bt478.2).bind fun bt480 => ((rat_den.f a0_0 a0_1 a0_2).bind fun bt483 => ((rat_den.f a1_0 a1_1 a1_2).bind fun bt485 => ((rat_do_of_whole_Mul.f bt483.1 bt483.2 bt485.1 bt485.2).bind fun bt487 => ((rat_lowest.f kj4 bt480.1 bt480.2 bt487.1 bt487.2).bind fun bt489 => (some (bt489.1, bt489.2.1, bt489.2.2, 0))))))))))) = some (r1, r2, r3, r4) := by rw [if_neg (show ¬ (false = true) by decide)] at H; exact H
          clear H
          have H := H1
          clear H1
          replace H := Option.bind_eq_some_iff.mp H
          obtain ⟨⟨t472, t473⟩, A330, H⟩ := H
          replace H : ((rat_do_of_whole_Mul.f a0_0 a0_1 t472 t473).bind fun bt474 => ((rat_den.f a0_0 a0_1 a0_2).bind fun bt476 => ((rat_do_of_whole_Mul.f a1_0 a1_1 bt476.1 bt476.2).bind fun bt478 => ((F bt474.1 bt474.2 bt478.1 bt478.2).bind fun bt480 => ((rat_den.f a0_0 a0_1 a0_2).bind fun bt483 => ((rat_den.f a1_0 a1_1 a1_2).bind fun bt485 => ((rat_do_of_whole_Mul.f bt483.1 bt483.2 bt485.1 bt485.2).bind fun bt487 => ((rat_lowest.f kj4 bt480.1 bt480.2 bt487.1 bt487.2).bind fun bt489 => (some (bt489.1, bt489.2.1, bt489.2.2, 0)))))))))) = some (r1, r2, r3, r4) := H
          have A33 := Aside0.mk A330
          clear A330
          replace H := Option.bind_eq_some_iff.mp H
          obtain ⟨⟨t474, t475⟩, A340, H⟩ := H
          replace H : ((rat_den.f a0_0 a0_1 a0_2).bind fun bt476 => ((rat_do_of_whole_Mul.f a1_0 a1_1 bt476.1 bt476.2).bind fun bt478 => ((F t474 t475 bt478.1 bt478.2).bind fun bt480 => ((rat_den.f a0_0 a0_1 a0_2).bind fun bt483 => ((rat_den.f a1_0 a1_1 a1_2).bind fun bt485 => ((rat_do_of_whole_Mul.f bt483.1 bt483.2 bt485.1 bt485.2).bind fun bt487 => ((rat_lowest.f kj4 bt480.1 bt480.2 bt487.1 bt487.2).bind fun bt489 => (some (bt489.1, bt489.2.1, bt489.2.2, 0))))))))) = some (r1, r2, r3, r4) := H
          have A34 := Aside0.mk A340
          clear A340
          replace H := Option.bind_eq_some_iff.mp H
          obtain ⟨⟨t476, t477⟩, A350, H⟩ := H
          replace H : ((rat_do_of_whole_Mul.f a1_0 a1_1 t476 t477).bind fun bt478 => ((F t474 t475 bt478.1 bt478.2).bind fun bt480 => ((rat_den.f a0_0 a0_1 a0_2).bind fun bt483 => ((rat_den.f a1_0 a1_1 a1_2).bind fun bt485 => ((rat_do_of_whole_Mul.f bt483.1 bt483.2 bt485.1 bt485.2).bind fun bt487 => ((rat_lowest.f kj4 bt480.1 bt480.2 bt487.1 bt487.2).bind fun bt489 => (some (bt489.1, bt489.2.1, bt489.2.2, 0)))))))) = some (r1, r2, r3, r4) := H
          have A35 := Aside0.mk A350
          clear A350
          replace H := Option.bind_eq_some_iff.mp H
          obtain ⟨⟨t478, t479⟩, A360, H⟩ := H
          replace H : ((F t474 t475 t478 t479).bind fun bt480 => ((rat_den.f a0_0 a0_1 a0_2).bind fun bt483 => ((rat_den.f a1_0 a1_1 a1_2).bind fun bt485 => ((rat_do_of_whole_Mul.f bt483.1 bt483.2 bt485.1 bt485.2).bind fun bt487 => ((rat_lowest.f kj4 bt480.1 bt480.2 bt487.1 bt487.2).bind fun bt489 => (some (bt489.1, bt489.2.1, bt489.2.2, 0))))))) = some (r1, r2, r3, r4) := H
          have A36 := Aside0.mk A360
          clear A360
          replace H := Option.bind_eq_some_iff.mp H
          obtain ⟨⟨t480, t481⟩, A370, H⟩ := H
          replace H : ((rat_den.f a0_0 a0_1 a0_2).bind fun bt483 => ((rat_den.f a1_0 a1_1 a1_2).bind fun bt485 => ((rat_do_of_whole_Mul.f bt483.1 bt483.2 bt485.1 bt485.2).bind fun bt487 => ((rat_lowest.f kj4 t480 t481 bt487.1 bt487.2).bind fun bt489 => (some (bt489.1, bt489.2.1, bt489.2.2, 0)))))) = some (r1, r2, r3, r4) := H
          have A37 := Aside0.mk A370
          clear A370
          replace H := Option.bind_eq_some_iff.mp H
          obtain ⟨⟨t483, t484⟩, A380, H⟩ := H
          replace H : ((rat_den.f a1_0 a1_1 a1_2).bind fun bt485 => ((rat_do_of_whole_Mul.f t483 t484 bt485.1 bt485.2).bind fun bt487 => ((rat_lowest.f kj4 t480 t481 bt487.1 bt487.2).bind fun bt489 => (some (bt489.1, bt489.2.1, bt489.2.2, 0))))) = some (r1, r2, r3, r4) := H
          have A38 := Aside0.mk A380
          clear A380
          replace H := Option.bind_eq_some_iff.mp H
          obtain ⟨⟨t485, t486⟩, A390, H⟩ := H
          replace H : ((rat_do_of_whole_Mul.f t483 t484 t485 t486).bind fun bt487 => ((rat_lowest.f kj4 t480 t481 bt487.1 bt487.2).bind fun bt489 => (some (bt489.1, bt489.2.1, bt489.2.2, 0)))) = some (r1, r2, r3, r4) := H
          have A39 := Aside0.mk A390
          clear A390
          replace H := Option.bind_eq_some_iff.mp H
          obtain ⟨⟨t487, t488⟩, A400, H⟩ := H
          replace H : ((rat_lowest.f kj4 t480 t481 t487 t488).bind fun bt489 => (some (bt489.1, bt489.2.1, bt489.2.2, 0))) = some (r1, r2, r3, r4) := H
          have A40 := Aside0.mk A400
          clear A400
          replace H := Option.bind_eq_some_iff.mp H
          obtain ⟨⟨t489, t490, t491⟩, A410, H⟩ := H
          replace H : (some (t489, t490, t491, 0)) = some (r1, r2, r3, r4) := H
          have A41 := Aside0.mk A410
          clear A410
          simp only [Option.some.injEq, Prod.mk.injEq] at H
          obtain ⟨rfl, rfl, rfl, rfl⟩ := H
          try go_wp2
          replace BK466 := zD BK466; replace BK467 := zD BK467; replace BK468 := zD BK468; replace HB := zF HB
          refine start_ (n := 14) (S := fun w' => w'.cell? ⟨gb466, 0, none⟩ = some (.bool a0_0) ∧ w'.cell? ⟨gb466, 1, none⟩ = some (.string a0_1) ∧ w'.cell? ⟨gb466, 2, none⟩ = some (.string a0_2) ∧ w'.cell? ⟨gb467, 0, none⟩ = some (.bool a1_0) ∧ w'.cell? ⟨gb467, 1, none⟩ = some (.string a1_1) ∧ w'.cell? ⟨gb467, 2, none⟩ = some (.string a1_2)) (ds := []) #[false, false, false, false, false, false, false, false, false, false, false, false, false, false] (by kernel_rfl) rfl rfl ⟨(blk_cell BK466.out 0).trans rfl, (blk_cell BK466.out 1).trans rfl, (blk_cell BK466.out 2).trans rfl, (blk_cell BK467.out 0).trans rfl, (blk_cell BK467.out 1).trans rfl, (blk_cell BK467.out 2).trans rfl⟩ (fun hHeld => ?_); refine with_tabW rat_over_gen.tab6 rat_over_gen.bits6 (fun HT_ HW_ => ?_)
          generalize wc.drew = w42 at BK466 BK467 BK468 HB hHeld ⊢
          refine zU (i := 0) (N := some 32) #[true, false, false, false, false, false, false, false, false, false, false, false, false, false] (any_of HT_.out (by kernel_rfl)) ?_
          refine zU (i := 1) (N := some 33) #[true, true, false, false, false, false, false, false, false, false, false, false, false, false] (any_of HT_.out (by kernel_rfl)) ?_
          refine zU (i := 6) (N := some 38) #[true, true, false, false, false, false, true, false, false, false, false, false, false, false] (any_of HT_.out (by kernel_rfl)) ?_
          refine zV (i := 2) (N := some 34) #[true, true, true, false, false, false, true, false, false, false, false, false, false, false] (take_ofW HT_.out HW_.out (by kernel_rfl)) hHeld ?_
          refine zV (i := 3) (N := some 35) #[true, true, true, true, false, false, true, false, false, false, false, false, false, false] (take_ofW HT_.out HW_.out (by kernel_rfl)) hHeld ?_
          refine zV (i := 7) (N := some 39) #[true, true, true, true, false, false, true, true, false, false, false, false, false, false] (take_ofW HT_.out HW_.out (by kernel_rfl)) hHeld ?_
          refine zV (i := 8) (N := some 40) #[true, true, true, true, false, false, true, true, true, false, false, false, false, false] (take_ofW HT_.out HW_.out (by kernel_rfl)) hHeld ?_
          refine join_ (σ := Nat) 1 #[true, true, true, true, true, true, true, true, true, true, true, true, true, false] (fun s_ => [(36, .agg #[.bool t472, .string t473]), (37, .agg #[.bool t474, .string t475]), (41, .agg #[.bool t476, .string t477]), (42, .agg #[.bool t478, .string t479]), (43, .agg #[.bool t480, .string t481]), (9, .pointer (some ⟨s_, 0, none⟩))]) (fun s_ w' => (w'.cell? ⟨gb466, 0, none⟩ = some (.bool a0_0) ∧ w'.cell? ⟨gb466, 1, none⟩ = some (.string a0_1) ∧ w'.cell? ⟨gb466, 2, none⟩ = some (.string a0_2) ∧ w'.cell? ⟨gb467, 0, none⟩ = some (.bool a1_0) ∧ w'.cell? ⟨gb467, 1, none⟩ = some (.string a1_1) ∧ w'.cell? ⟨gb467, 2, none⟩ = some (.string a1_2)) ∧ (w'.heap[gb466]? = some (.cells #[.bool a0_0, .string a0_1, .string a0_2] 27 (0, 0))) ∧ (w'.heap[gb467]? = some (.cells #[.bool a1_0, .string a1_1, .string a1_2] 27 (0, 0))) ∧ (w'.heap[gb468]? = some (.cells #[.bool false, .string (⟨#[]⟩ : ByteArray), .string (⟨#[]⟩ : ByteArray)] 27 (0, 0))) ∧ (w'.heap[s_]? = some (.cells #[.bool false, .string (⟨#[]⟩ : ByteArray)] 24 (0, 0))) ∧ (w.heap.size ≤ s_) ∧ (w.heap.size ≤ s_) ∧ (gb466 ≠ s_) ∧ (s_ ≠ gb466) ∧ (gb467 ≠ s_) ∧ (s_ ≠ gb467) ∧ (gb468 ≠ s_) ∧ (s_ ≠ gb468) ∧ (Below w.heap.size w w')) ?_ ?_
          rotate_left
          · intro hJ4_5_9_10_11_12
            refine join_ (σ := Unit) 2 #[true, true, true, true, true, true, true, true, true, true, true, true, false, false] (fun s_ => [(36, .agg #[.bool t472, .string t473]), (37, .agg #[.bool t474, .string t475]), (41, .agg #[.bool t476, .string t477]), (42, .agg #[.bool t478, .string t479]), (43, .agg #[.bool t480, .string t481])]) (fun s_ w' => (w'.cell? ⟨gb466, 0, none⟩ = some (.bool a0_0) ∧ w'.cell? ⟨gb466, 1, none⟩ = some (.string a0_1) ∧ w'.cell? ⟨gb466, 2, none⟩ = some (.string a0_2) ∧ w'.cell? ⟨gb467, 0, none⟩ = some (.bool a1_0) ∧ w'.cell? ⟨gb467, 1, none⟩ = some (.string a1_1) ∧ w'.cell? ⟨gb467, 2, none⟩ = some (.string a1_2)) ∧ (w'.heap[gb466]? = some (.cells #[.bool a0_0, .string a0_1, .string a0_2] 27 (0, 0))) ∧ (w'.heap[gb467]? = some (.cells #[.bool a1_0, .string a1_1, .string a1_2] 27 (0, 0))) ∧ (w'.heap[gb468]? = some (.cells #[.bool false, .string (⟨#[]⟩ : ByteArray), .string (⟨#[]⟩ : ByteArray)] 27 (0, 0))) ∧ (Below w.heap.size w w')) ?_ ?_
            rotate_left
            · intro hJ4_5_9_10_11
              refine join_ (σ := Nat) 2 #[true, true, true, true, true, true, true, true, true, true, true, false, true, false] (fun s_ => [(36, .agg #[.bool t472, .string t473]), (37, .agg #[.bool t474, .string t475]), (41, .agg #[.bool t476, .string t477]), (42, .agg #[.bool t478, .string t479]), (9, .pointer (some ⟨s_, 0, none⟩))]) (fun s_ w' => (w'.cell? ⟨gb466, 0, none⟩ = some (.bool a0_0) ∧ w'.cell? ⟨gb466, 1, none⟩ = some (.string a0_1) ∧ w'.cell? ⟨gb466, 2, none⟩ = some (.string a0_2) ∧ w'.cell? ⟨gb467, 0, none⟩ = some (.bool a1_0) ∧ w'.cell? ⟨gb467, 1, none⟩ = some (.string a1_1) ∧ w'.cell? ⟨gb467, 2, none⟩ = some (.string a1_2)) ∧ (w'.heap[gb466]? = some (.cells #[.bool a0_0, .string a0_1, .string a0_2] 27 (0, 0))) ∧ (w'.heap[gb467]? = some (.cells #[.bool a1_0, .string a1_1, .string a1_2] 27 (0, 0))) ∧ (w'.heap[gb468]? = some (.cells #[.bool false, .string (⟨#[]⟩ : ByteArray), .string (⟨#[]⟩ : ByteArray)] 27 (0, 0))) ∧ (w'.heap[s_]? = some (.cells #[.bool false, .string (⟨#[]⟩ : ByteArray)] 24 (0, 0))) ∧ (w.heap.size ≤ s_) ∧ (w.heap.size ≤ s_) ∧ (gb466 ≠ s_) ∧ (s_ ≠ gb466) ∧ (gb467 ≠ s_) ∧ (s_ ≠ gb467) ∧ (gb468 ≠ s_) ∧ (s_ ≠ gb468) ∧ (Below w.heap.size w w')) ?_ ?_
              rotate_left
              · intro hJ4_5_9_10_12
                refine join_ (σ := Unit) 3 #[true, true, true, true, true, true, true, true, true, true, true, false, false, false] (fun s_ => [(36, .agg #[.bool t472, .string t473]), (37, .agg #[.bool t474, .string t475]), (41, .agg #[.bool t476, .string t477]), (42, .agg #[.bool t478, .string t479])]) (fun s_ w' => (w'.cell? ⟨gb466, 0, none⟩ = some (.bool a0_0) ∧ w'.cell? ⟨gb466, 1, none⟩ = some (.string a0_1) ∧ w'.cell? ⟨gb466, 2, none⟩ = some (.string a0_2) ∧ w'.cell? ⟨gb467, 0, none⟩ = some (.bool a1_0) ∧ w'.cell? ⟨gb467, 1, none⟩ = some (.string a1_1) ∧ w'.cell? ⟨gb467, 2, none⟩ = some (.string a1_2)) ∧ (w'.heap[gb466]? = some (.cells #[.bool a0_0, .string a0_1, .string a0_2] 27 (0, 0))) ∧ (w'.heap[gb467]? = some (.cells #[.bool a1_0, .string a1_1, .string a1_2] 27 (0, 0))) ∧ (w'.heap[gb468]? = some (.cells #[.bool false, .string (⟨#[]⟩ : ByteArray), .string (⟨#[]⟩ : ByteArray)] 27 (0, 0))) ∧ (Below w.heap.size w w')) ?_ ?_
                rotate_left
                · intro hJ4_5_9_10
                  refine join_ (σ := Nat) 3 #[true, true, true, true, true, true, true, true, true, true, false, false, true, false] (fun s_ => [(36, .agg #[.bool t472, .string t473]), (37, .agg #[.bool t474, .string t475]), (41, .agg #[.bool t476, .string t477]), (9, .pointer (some ⟨s_, 0, none⟩))]) (fun s_ w' => (w'.cell? ⟨gb466, 0, none⟩ = some (.bool a0_0) ∧ w'.cell? ⟨gb466, 1, none⟩ = some (.string a0_1) ∧ w'.cell? ⟨gb466, 2, none⟩ = some (.string a0_2) ∧ w'.cell? ⟨gb467, 0, none⟩ = some (.bool a1_0) ∧ w'.cell? ⟨gb467, 1, none⟩ = some (.string a1_1) ∧ w'.cell? ⟨gb467, 2, none⟩ = some (.string a1_2)) ∧ (w'.heap[gb466]? = some (.cells #[.bool a0_0, .string a0_1, .string a0_2] 27 (0, 0))) ∧ (w'.heap[gb467]? = some (.cells #[.bool a1_0, .string a1_1, .string a1_2] 27 (0, 0))) ∧ (w'.heap[gb468]? = some (.cells #[.bool false, .string (⟨#[]⟩ : ByteArray), .string (⟨#[]⟩ : ByteArray)] 27 (0, 0))) ∧ (w'.heap[s_]? = some (.cells #[.bool false, .string (⟨#[]⟩ : ByteArray)] 24 (0, 0))) ∧ (w.heap.size ≤ s_) ∧ (w.heap.size ≤ s_) ∧ (gb466 ≠ s_) ∧ (s_ ≠ gb466) ∧ (gb467 ≠ s_) ∧ (s_ ≠ gb467) ∧ (gb468 ≠ s_) ∧ (s_ ≠ gb468) ∧ (Below w.heap.size w w')) ?_ ?_
                  rotate_left
                  · intro hJ4_5_9_12
                    refine join_ (σ := Unit) 4 #[true, true, true, true, true, true, true, true, true, true, false, false, false, false] (fun s_ => [(36, .agg #[.bool t472, .string t473]), (37, .agg #[.bool t474, .string t475]), (41, .agg #[.bool t476, .string t477])]) (fun s_ w' => (w'.cell? ⟨gb466, 0, none⟩ = some (.bool a0_0) ∧ w'.cell? ⟨gb466, 1, none⟩ = some (.string a0_1) ∧ w'.cell? ⟨gb466, 2, none⟩ = some (.string a0_2) ∧ w'.cell? ⟨gb467, 0, none⟩ = some (.bool a1_0) ∧ w'.cell? ⟨gb467, 1, none⟩ = some (.string a1_1) ∧ w'.cell? ⟨gb467, 2, none⟩ = some (.string a1_2)) ∧ (w'.heap[gb466]? = some (.cells #[.bool a0_0, .string a0_1, .string a0_2] 27 (0, 0))) ∧ (w'.heap[gb467]? = some (.cells #[.bool a1_0, .string a1_1, .string a1_2] 27 (0, 0))) ∧ (w'.heap[gb468]? = some (.cells #[.bool false, .string (⟨#[]⟩ : ByteArray), .string (⟨#[]⟩ : ByteArray)] 27 (0, 0))) ∧ (Below w.heap.size w w')) ?_ ?_
                    rotate_left
                    · intro hJ4_5_9
                      refine join_ (σ := Nat) 4 #[true, true, true, true, true, true, true, true, true, false, false, false, true, false] (fun s_ => [(36, .agg #[.bool t472, .string t473]), (37, .agg #[.bool t474, .string t475]), (9, .pointer (some ⟨s_, 0, none⟩))]) (fun s_ w' => (w'.cell? ⟨gb466, 0, none⟩ = some (.bool a0_0) ∧ w'.cell? ⟨gb466, 1, none⟩ = some (.string a0_1) ∧ w'.cell? ⟨gb466, 2, none⟩ = some (.string a0_2) ∧ w'.cell? ⟨gb467, 0, none⟩ = some (.bool a1_0) ∧ w'.cell? ⟨gb467, 1, none⟩ = some (.string a1_1) ∧ w'.cell? ⟨gb467, 2, none⟩ = some (.string a1_2)) ∧ (w'.heap[gb466]? = some (.cells #[.bool a0_0, .string a0_1, .string a0_2] 27 (0, 0))) ∧ (w'.heap[gb467]? = some (.cells #[.bool a1_0, .string a1_1, .string a1_2] 27 (0, 0))) ∧ (w'.heap[gb468]? = some (.cells #[.bool false, .string (⟨#[]⟩ : ByteArray), .string (⟨#[]⟩ : ByteArray)] 27 (0, 0))) ∧ (w'.heap[s_]? = some (.cells #[.bool false, .string (⟨#[]⟩ : ByteArray)] 24 (0, 0))) ∧ (w.heap.size ≤ s_) ∧ (w.heap.size ≤ s_) ∧ (gb466 ≠ s_) ∧ (s_ ≠ gb466) ∧ (gb467 ≠ s_) ∧ (s_ ≠ gb467) ∧ (gb468 ≠ s_) ∧ (s_ ≠ gb468) ∧ (Below w.heap.size w w')) ?_ ?_
                      rotate_left
                      · intro hJ4_5_12
                        refine join_ (σ := Unit) 5 #[true, true, true, true, true, true, true, true, true, false, false, false, false, false] (fun s_ => [(36, .agg #[.bool t472, .string t473]), (37, .agg #[.bool t474, .string t475])]) (fun s_ w' => (w'.cell? ⟨gb466, 0, none⟩ = some (.bool a0_0) ∧ w'.cell? ⟨gb466, 1, none⟩ = some (.string a0_1) ∧ w'.cell? ⟨gb466, 2, none⟩ = some (.string a0_2) ∧ w'.cell? ⟨gb467, 0, none⟩ = some (.bool a1_0) ∧ w'.cell? ⟨gb467, 1, none⟩ = some (.string a1_1) ∧ w'.cell? ⟨gb467, 2, none⟩ = some (.string a1_2)) ∧ (w'.heap[gb466]? = some (.cells #[.bool a0_0, .string a0_1, .string a0_2] 27 (0, 0))) ∧ (w'.heap[gb467]? = some (.cells #[.bool a1_0, .string a1_1, .string a1_2] 27 (0, 0))) ∧ (w'.heap[gb468]? = some (.cells #[.bool false, .string (⟨#[]⟩ : ByteArray), .string (⟨#[]⟩ : ByteArray)] 27 (0, 0))) ∧ (Below w.heap.size w w')) ?_ ?_
                        rotate_left
                        · intro hJ4_5
                          refine join_ (σ := Nat) 5 #[true, true, true, true, true, false, true, true, true, false, false, false, true, false] (fun s_ => [(36, .agg #[.bool t472, .string t473]), (9, .pointer (some ⟨s_, 0, none⟩))]) (fun s_ w' => (w'.cell? ⟨gb466, 0, none⟩ = some (.bool a0_0) ∧ w'.cell? ⟨gb466, 1, none⟩ = some (.string a0_1) ∧ w'.cell? ⟨gb466, 2, none⟩ = some (.string a0_2) ∧ w'.cell? ⟨gb467, 0, none⟩ = some (.bool a1_0) ∧ w'.cell? ⟨gb467, 1, none⟩ = some (.string a1_1) ∧ w'.cell? ⟨gb467, 2, none⟩ = some (.string a1_2)) ∧ (w'.heap[gb466]? = some (.cells #[.bool a0_0, .string a0_1, .string a0_2] 27 (0, 0))) ∧ (w'.heap[gb467]? = some (.cells #[.bool a1_0, .string a1_1, .string a1_2] 27 (0, 0))) ∧ (w'.heap[gb468]? = some (.cells #[.bool false, .string (⟨#[]⟩ : ByteArray), .string (⟨#[]⟩ : ByteArray)] 27 (0, 0))) ∧ (w'.heap[s_]? = some (.cells #[.bool false, .string (⟨#[]⟩ : ByteArray)] 24 (0, 0))) ∧ (w.heap.size ≤ s_) ∧ (w.heap.size ≤ s_) ∧ (gb466 ≠ s_) ∧ (s_ ≠ gb466) ∧ (gb467 ≠ s_) ∧ (s_ ≠ gb467) ∧ (gb468 ≠ s_) ∧ (s_ ≠ gb468) ∧ (Below w.heap.size w w')) ?_ ?_
                          rotate_left
                          · intro hJ4_12
                            refine join_ (σ := Unit) 6 #[true, true, true, true, true, false, true, true, true, false, false, false, false, false] (fun s_ => [(36, .agg #[.bool t472, .string t473])]) (fun s_ w' => (w'.cell? ⟨gb466, 0, none⟩ = some (.bool a0_0) ∧ w'.cell? ⟨gb466, 1, none⟩ = some (.string a0_1) ∧ w'.cell? ⟨gb466, 2, none⟩ = some (.string a0_2) ∧ w'.cell? ⟨gb467, 0, none⟩ = some (.bool a1_0) ∧ w'.cell? ⟨gb467, 1, none⟩ = some (.string a1_1) ∧ w'.cell? ⟨gb467, 2, none⟩ = some (.string a1_2)) ∧ (w'.heap[gb466]? = some (.cells #[.bool a0_0, .string a0_1, .string a0_2] 27 (0, 0))) ∧ (w'.heap[gb467]? = some (.cells #[.bool a1_0, .string a1_1, .string a1_2] 27 (0, 0))) ∧ (w'.heap[gb468]? = some (.cells #[.bool false, .string (⟨#[]⟩ : ByteArray), .string (⟨#[]⟩ : ByteArray)] 27 (0, 0))) ∧ (Below w.heap.size w w')) ?_ ?_
                            rotate_left
                            · intro hJ4
                              refine join_ (σ := Nat) 6 #[true, true, true, true, false, false, true, true, true, false, false, false, true, false] (fun s_ => [(9, .pointer (some ⟨s_, 0, none⟩))]) (fun s_ w' => (w'.cell? ⟨gb466, 0, none⟩ = some (.bool a0_0) ∧ w'.cell? ⟨gb466, 1, none⟩ = some (.string a0_1) ∧ w'.cell? ⟨gb466, 2, none⟩ = some (.string a0_2) ∧ w'.cell? ⟨gb467, 0, none⟩ = some (.bool a1_0) ∧ w'.cell? ⟨gb467, 1, none⟩ = some (.string a1_1) ∧ w'.cell? ⟨gb467, 2, none⟩ = some (.string a1_2)) ∧ (w'.heap[gb466]? = some (.cells #[.bool a0_0, .string a0_1, .string a0_2] 27 (0, 0))) ∧ (w'.heap[gb467]? = some (.cells #[.bool a1_0, .string a1_1, .string a1_2] 27 (0, 0))) ∧ (w'.heap[gb468]? = some (.cells #[.bool false, .string (⟨#[]⟩ : ByteArray), .string (⟨#[]⟩ : ByteArray)] 27 (0, 0))) ∧ (w'.heap[s_]? = some (.cells #[.bool false, .string (⟨#[]⟩ : ByteArray)] 24 (0, 0))) ∧ (w.heap.size ≤ s_) ∧ (w.heap.size ≤ s_) ∧ (gb466 ≠ s_) ∧ (s_ ≠ gb466) ∧ (gb467 ≠ s_) ∧ (s_ ≠ gb467) ∧ (gb468 ≠ s_) ∧ (s_ ≠ gb468) ∧ (Below w.heap.size w w')) ?_ ?_
                              rotate_left
                              · intro hJ12
                                refine two_ (i := 4) (j := 12) (Ni := some 36) (Nj := some 9) #[true, true, true, true, true, false, true, true, true, false, false, false, false, false] #[true, true, true, true, false, false, true, true, true, false, false, false, true, false] rfl rfl rfl rfl (two_of HT_.out (by kernel_rfl)) (by decide) (by decide) (fun K hK => ?_) (fun K hK => ?_)
                                · skip
                                  refine zX Tryz.func60 (by kernel_rfl) #[.agg #[.bool a1_0, .string a1_1, .string a1_2]] ?_
                                  with_reducible refine (rat_den.calls a1_0 a1_1 a1_2 t472 t473 _ A33.out).mono ?_
                                  rintro e w43 ⟨rfl, hb⟩; refine ⟨_, rfl, ?_⟩
                                  obtain ⟨BK466, BK467, BK468⟩ := zB3 BK466 BK467 BK468 hb; replace HB := zS HB hb
                                  (try clear hb)
                                  refine hK.out _ _ ⟨(blk_cell BK466.out 0).trans rfl, (blk_cell BK466.out 1).trans rfl, (blk_cell BK466.out 2).trans rfl, (blk_cell BK467.out 0).trans rfl, (blk_cell BK467.out 1).trans rfl, (blk_cell BK467.out 2).trans rfl⟩ (fun hHeld => ?_)
                                  clear hK K
                                  refine zW (some 36) ?_
                                  exact zA (hJ4 () _ ⟨hHeld, (zK BK466).out, (zK BK467).out, (zK BK468).out, (zT HB)⟩)
                                · skip
                                  refine box_step ?hg (N := 9) ?hd (cs := #[.bool false, .string (⟨#[]⟩ : ByteArray)]) (t := 24) ?hr ?_; (case hd => rfl); (case hg => rfl); (case hr => first | (go_simp; done) | (go_simp; rfl))
                                  intro gb482 hg w43 hbox hb
                                  have BK482 := Aside0.mk (hbox); have GW482 := zG hg HB; have GE482 := zG hg HB; obtain ⟨NB466_482, NB482_466⟩ := zQ hg BK466; obtain ⟨NB467_482, NB482_467⟩ := zQ hg BK467; obtain ⟨NB468_482, NB482_468⟩ := zQ hg BK468; obtain ⟨BK466, BK467, BK468⟩ := zB3 BK466 BK467 BK468 hb; replace HB := zS HB hb; clear hb hbox hg
                                  refine hK.out _ _ ⟨(blk_cell BK466.out 0).trans rfl, (blk_cell BK466.out 1).trans rfl, (blk_cell BK466.out 2).trans rfl, (blk_cell BK467.out 0).trans rfl, (blk_cell BK467.out 1).trans rfl, (blk_cell BK467.out 2).trans rfl⟩ (fun hHeld => ?_)
                                  clear hK K
                                  refine zW (some 9) ?_
                                  exact zA (hJ12 (gb482) _ ⟨hHeld, (zK BK466).out, (zK BK467).out, (zK BK468).out, (zK BK482).out, GW482.out, GE482.out, NB466_482.out, NB482_466.out, NB467_482.out, NB482_467.out, NB468_482.out, NB482_468.out, (zT HB)⟩)
                              · skip
                                rintro gb482 w44 ⟨hS_, h0_, h1_, h2_, h3_, h4_, h5_, h6_, h7_, h8_, h9_, h10_, h11_, h12_⟩
                                have n0_ : Aside0 (w44.heap[gb466]? = some (.cells #[.bool a0_0, .string a0_1, .string a0_2] 27 (0, 0))) := ⟨h0_⟩; have n1_ : Aside0 (w44.heap[gb467]? = some (.cells #[.bool a1_0, .string a1_1, .string a1_2] 27 (0, 0))) := ⟨h1_⟩; have n2_ : Aside0 (w44.heap[gb468]? = some (.cells #[.bool false, .string (⟨#[]⟩ : ByteArray), .string (⟨#[]⟩ : ByteArray)] 27 (0, 0))) := ⟨h2_⟩; have n3_ : Aside0 (w44.heap[gb482]? = some (.cells #[.bool false, .string (⟨#[]⟩ : ByteArray)] 24 (0, 0))) := ⟨h3_⟩; have n4_ : Aside0 (w.heap.size ≤ gb482) := ⟨h4_⟩; have n5_ : Aside0 (w.heap.size ≤ gb482) := ⟨h5_⟩; have n6_ : Aside0 (gb466 ≠ gb482) := ⟨h6_⟩; have n7_ : Aside0 (gb482 ≠ gb466) := ⟨h7_⟩; have n8_ : Aside0 (gb467 ≠ gb482) := ⟨h8_⟩; have n9_ : Aside0 (gb482 ≠ gb467) := ⟨h9_⟩; have n10_ : Aside0 (gb468 ≠ gb482) := ⟨h10_⟩; have n11_ : Aside0 (gb482 ≠ gb468) := ⟨h11_⟩; have n12_ : Aside0 (Below w.heap.size w w44) := ⟨h12_⟩; clear BK466; clear BK467; clear BK468; clear HB; clear h0_ h1_ h2_ h3_ h4_ h5_ h6_ h7_ h8_ h9_ h10_ h11_ h12_; have BK466 := n0_; have BK467 := n1_; have BK468 := n2_; have BK482 := n3_; have GW482 := n4_; have GE482 := n5_; have NB466_482 := n6_; have NB482_466 := n7_; have NB467_482 := n8_; have NB482_467 := n9_; have NB468_482 := n10_; have NB482_468 := n11_; have HB := n12_; clear n0_ n1_ n2_ n3_ n4_ n5_ n6_ n7_ n8_ n9_ n10_ n11_ n12_
                                have hHeld : w44.cell? ⟨gb466, 0, none⟩ = some (.bool a0_0) ∧ w44.cell? ⟨gb466, 1, none⟩ = some (.string a0_1) ∧ w44.cell? ⟨gb466, 2, none⟩ = some (.string a0_2) ∧ w44.cell? ⟨gb467, 0, none⟩ = some (.bool a1_0) ∧ w44.cell? ⟨gb467, 1, none⟩ = some (.string a1_1) ∧ w44.cell? ⟨gb467, 2, none⟩ = some (.string a1_2) := hS_
                                refine norm_ (a' := ?_) ?_ ?_
                                rotate_left
                                · simp only [putAll, Act.put, List.setIfInBounds_toArray, List.set_cons_zero, List.set_cons_succ]
                                  rfl
                                refine one_ (i := 4) (N := some 36) #[true, true, true, true, true, false, true, true, true, false, false, false, true, false] rfl rfl (one_of HT_.out (by kernel_rfl)) (by decide) (fun K hK => ?_)
                                refine zX Tryz.func60 (by kernel_rfl) #[.agg #[.bool a1_0, .string a1_1, .string a1_2]] ?_
                                with_reducible refine (rat_den.calls a1_0 a1_1 a1_2 t472 t473 _ A33.out).mono ?_
                                rintro e w45 ⟨rfl, hb⟩; refine ⟨_, rfl, ?_⟩
                                obtain ⟨BK466, BK467, BK468, BK482⟩ := zB4 BK466 BK467 BK468 BK482 hb; replace HB := zS HB hb
                                (try clear hb)
                                refine hK.out _ _ ⟨(blk_cell BK466.out 0).trans rfl, (blk_cell BK466.out 1).trans rfl, (blk_cell BK466.out 2).trans rfl, (blk_cell BK467.out 0).trans rfl, (blk_cell BK467.out 1).trans rfl, (blk_cell BK467.out 2).trans rfl⟩ (fun hHeld => ?_)
                                clear hK K
                                refine zW (some 36) ?_
                                exact zA (hJ4_12 (gb482) _ ⟨hHeld, (zK BK466).out, (zK BK467).out, (zK BK468).out, (zK BK482).out, GW482.out, GE482.out, NB466_482.out, NB482_466.out, NB467_482.out, NB482_467.out, NB468_482.out, NB482_468.out, (zT HB)⟩)
                            · skip
                              rintro _ w44 ⟨hS_, h0_, h1_, h2_, h3_⟩
                              have n0_ : Aside0 (w44.heap[gb466]? = some (.cells #[.bool a0_0, .string a0_1, .string a0_2] 27 (0, 0))) := ⟨h0_⟩; have n1_ : Aside0 (w44.heap[gb467]? = some (.cells #[.bool a1_0, .string a1_1, .string a1_2] 27 (0, 0))) := ⟨h1_⟩; have n2_ : Aside0 (w44.heap[gb468]? = some (.cells #[.bool false, .string (⟨#[]⟩ : ByteArray), .string (⟨#[]⟩ : ByteArray)] 27 (0, 0))) := ⟨h2_⟩; have n3_ : Aside0 (Below w.heap.size w w44) := ⟨h3_⟩; clear BK466; clear BK467; clear BK468; clear HB; clear h0_ h1_ h2_ h3_; have BK466 := n0_; have BK467 := n1_; have BK468 := n2_; have HB := n3_; clear n0_ n1_ n2_ n3_
                              have hHeld : w44.cell? ⟨gb466, 0, none⟩ = some (.bool a0_0) ∧ w44.cell? ⟨gb466, 1, none⟩ = some (.string a0_1) ∧ w44.cell? ⟨gb466, 2, none⟩ = some (.string a0_2) ∧ w44.cell? ⟨gb467, 0, none⟩ = some (.bool a1_0) ∧ w44.cell? ⟨gb467, 1, none⟩ = some (.string a1_1) ∧ w44.cell? ⟨gb467, 2, none⟩ = some (.string a1_2) := hS_
                              refine norm_ (a' := ?_) ?_ ?_
                              rotate_left
                              · simp only [putAll, Act.put, List.setIfInBounds_toArray, List.set_cons_zero, List.set_cons_succ]
                                rfl
                              refine two_ (i := 5) (j := 12) (Ni := some 37) (Nj := some 9) #[true, true, true, true, true, true, true, true, true, false, false, false, false, false] #[true, true, true, true, true, false, true, true, true, false, false, false, true, false] rfl rfl rfl rfl (two_of HT_.out (by kernel_rfl)) (by decide) (by decide) (fun K hK => ?_) (fun K hK => ?_)
                              · skip
                                refine zX Tryz.func57 (by kernel_rfl) #[.func (.func 58) #[] #[], .agg #[.bool a0_0, .string a0_1], .agg #[.bool t472, .string t473]] ?_
                                with_reducible refine (rat_do_of_whole_Mul.calls a0_0 a0_1 t472 t473 t474 t475 _ A34.out).mono ?_
                                rintro e w45 ⟨rfl, hb⟩; refine ⟨_, rfl, ?_⟩
                                obtain ⟨BK466, BK467, BK468⟩ := zB3 BK466 BK467 BK468 hb; replace HB := zS HB hb
                                (try clear hb)
                                refine hK.out _ _ ⟨(blk_cell BK466.out 0).trans rfl, (blk_cell BK466.out 1).trans rfl, (blk_cell BK466.out 2).trans rfl, (blk_cell BK467.out 0).trans rfl, (blk_cell BK467.out 1).trans rfl, (blk_cell BK467.out 2).trans rfl⟩ (fun hHeld => ?_)
                                clear hK K
                                refine zW (some 37) ?_
                                exact zA (hJ4_5 () _ ⟨hHeld, (zK BK466).out, (zK BK467).out, (zK BK468).out, (zT HB)⟩)
                              · skip
                                refine box_step ?hg (N := 9) ?hd (cs := #[.bool false, .string (⟨#[]⟩ : ByteArray)]) (t := 24) ?hr ?_; (case hd => rfl); (case hg => rfl); (case hr => first | (go_simp; done) | (go_simp; rfl))
                                intro gb482 hg w45 hbox hb
                                have BK482 := Aside0.mk (hbox); have GW482 := zG hg HB; have GE482 := zG hg HB; obtain ⟨NB466_482, NB482_466⟩ := zQ hg BK466; obtain ⟨NB467_482, NB482_467⟩ := zQ hg BK467; obtain ⟨NB468_482, NB482_468⟩ := zQ hg BK468; obtain ⟨BK466, BK467, BK468⟩ := zB3 BK466 BK467 BK468 hb; replace HB := zS HB hb; clear hb hbox hg
                                refine hK.out _ _ ⟨(blk_cell BK466.out 0).trans rfl, (blk_cell BK466.out 1).trans rfl, (blk_cell BK466.out 2).trans rfl, (blk_cell BK467.out 0).trans rfl, (blk_cell BK467.out 1).trans rfl, (blk_cell BK467.out 2).trans rfl⟩ (fun hHeld => ?_)
                                clear hK K
                                refine zW (some 9) ?_
                                exact zA (hJ4_12 (gb482) _ ⟨hHeld, (zK BK466).out, (zK BK467).out, (zK BK468).out, (zK BK482).out, GW482.out, GE482.out, NB466_482.out, NB482_466.out, NB467_482.out, NB482_467.out, NB468_482.out, NB482_468.out, (zT HB)⟩)
                          · skip
                            rintro gb482 w45 ⟨hS_, h0_, h1_, h2_, h3_, h4_, h5_, h6_, h7_, h8_, h9_, h10_, h11_, h12_⟩
                            have n0_ : Aside0 (w45.heap[gb466]? = some (.cells #[.bool a0_0, .string a0_1, .string a0_2] 27 (0, 0))) := ⟨h0_⟩; have n1_ : Aside0 (w45.heap[gb467]? = some (.cells #[.bool a1_0, .string a1_1, .string a1_2] 27 (0, 0))) := ⟨h1_⟩; have n2_ : Aside0 (w45.heap[gb468]? = some (.cells #[.bool false, .string (⟨#[]⟩ : ByteArray), .string (⟨#[]⟩ : ByteArray)] 27 (0, 0))) := ⟨h2_⟩; have n3_ : Aside0 (w45.heap[gb482]? = some (.cells #[.bool false, .string (⟨#[]⟩ : ByteArray)] 24 (0, 0))) := ⟨h3_⟩; have n4_ : Aside0 (w.heap.size ≤ gb482) := ⟨h4_⟩; have n5_ : Aside0 (w.heap.size ≤ gb482) := ⟨h5_⟩; have n6_ : Aside0 (gb466 ≠ gb482) := ⟨h6_⟩; have n7_ : Aside0 (gb482 ≠ gb466) := ⟨h7_⟩; have n8_ : Aside0 (gb467 ≠ gb482) := ⟨h8_⟩; have n9_ : Aside0 (gb482 ≠ gb467) := ⟨h9_⟩; have n10_ : Aside0 (gb468 ≠ gb482) := ⟨h10_⟩; have n11_ : Aside0 (gb482 ≠ gb468) := ⟨h11_⟩; have n12_ : Aside0 (Below w.heap.size w w45) := ⟨h12_⟩; clear BK466; clear BK467; clear BK468; clear HB; clear h0_ h1_ h2_ h3_ h4_ h5_ h6_ h7_ h8_ h9_ h10_ h11_ h12_; have BK466 := n0_; have BK467 := n1_; have BK468 := n2_; have BK482 := n3_; have GW482 := n4_; have GE482 := n5_; have NB466_482 := n6_; have NB482_466 := n7_; have NB467_482 := n8_; have NB482_467 := n9_; have NB468_482 := n10_; have NB482_468 := n11_; have HB := n12_; clear n0_ n1_ n2_ n3_ n4_ n5_ n6_ n7_ n8_ n9_ n10_ n11_ n12_
                            have hHeld : w45.cell? ⟨gb466, 0, none⟩ = some (.bool a0_0) ∧ w45.cell? ⟨gb466, 1, none⟩ = some (.string a0_1) ∧ w45.cell? ⟨gb466, 2, none⟩ = some (.string a0_2) ∧ w45.cell? ⟨gb467, 0, none⟩ = some (.bool a1_0) ∧ w45.cell? ⟨gb467, 1, none⟩ = some (.string a1_1) ∧ w45.cell? ⟨gb467, 2, none⟩ = some (.string a1_2) := hS_
                            refine norm_ (a' := ?_) ?_ ?_
                            rotate_left
                            · simp only [putAll, Act.put, List.setIfInBounds_toArray, List.set_cons_zero, List.set_cons_succ]
                              rfl
                            refine one_ (i := 5) (N := some 37) #[true, true, true, true, true, true, true, true, true, false, false, false, true, false] rfl rfl (one_of HT_.out (by kernel_rfl)) (by decide) (fun K hK => ?_)
                            refine zX Tryz.func57 (by kernel_rfl) #[.func (.func 58) #[] #[], .agg #[.bool a0_0, .string a0_1], .agg #[.bool t472, .string t473]] ?_
                            with_reducible refine (rat_do_of_whole_Mul.calls a0_0 a0_1 t472 t473 t474 t475 _ A34.out).mono ?_
                            rintro e w46 ⟨rfl, hb⟩; refine ⟨_, rfl, ?_⟩
                            obtain ⟨BK466, BK467, BK468, BK482⟩ := zB4 BK466 BK467 BK468 BK482 hb; replace HB := zS HB hb
                            (try clear hb)
                            refine hK.out _ _ ⟨(blk_cell BK466.out 0).trans rfl, (blk_cell BK466.out 1).trans rfl, (blk_cell BK466.out 2).trans rfl, (blk_cell BK467.out 0).trans rfl, (blk_cell BK467.out 1).trans rfl, (blk_cell BK467.out 2).trans rfl⟩ (fun hHeld => ?_)
                            clear hK K
                            refine zW (some 37) ?_
                            exact zA (hJ4_5_12 (gb482) _ ⟨hHeld, (zK BK466).out, (zK BK467).out, (zK BK468).out, (zK BK482).out, GW482.out, GE482.out, NB466_482.out, NB482_466.out, NB467_482.out, NB482_467.out, NB468_482.out, NB482_468.out, (zT HB)⟩)
                        · skip
                          rintro _ w45 ⟨hS_, h0_, h1_, h2_, h3_⟩
                          have n0_ : Aside0 (w45.heap[gb466]? = some (.cells #[.bool a0_0, .string a0_1, .string a0_2] 27 (0, 0))) := ⟨h0_⟩; have n1_ : Aside0 (w45.heap[gb467]? = some (.cells #[.bool a1_0, .string a1_1, .string a1_2] 27 (0, 0))) := ⟨h1_⟩; have n2_ : Aside0 (w45.heap[gb468]? = some (.cells #[.bool false, .string (⟨#[]⟩ : ByteArray), .string (⟨#[]⟩ : ByteArray)] 27 (0, 0))) := ⟨h2_⟩; have n3_ : Aside0 (Below w.heap.size w w45) := ⟨h3_⟩; clear BK466; clear BK467; clear BK468; clear HB; clear h0_ h1_ h2_ h3_; have BK466 := n0_; have BK467 := n1_; have BK468 := n2_; have HB := n3_; clear n0_ n1_ n2_ n3_
                          have hHeld : w45.cell? ⟨gb466, 0, none⟩ = some (.bool a0_0) ∧ w45.cell? ⟨gb466, 1, none⟩ = some (.string a0_1) ∧ w45.cell? ⟨gb466, 2, none⟩ = some (.string a0_2) ∧ w45.cell? ⟨gb467, 0, none⟩ = some (.bool a1_0) ∧ w45.cell? ⟨gb467, 1, none⟩ = some (.string a1_1) ∧ w45.cell? ⟨gb467, 2, none⟩ = some (.string a1_2) := hS_
                          refine norm_ (a' := ?_) ?_ ?_
                          rotate_left
                          · simp only [putAll, Act.put, List.setIfInBounds_toArray, List.set_cons_zero, List.set_cons_succ]
                            rfl
                          refine two_ (i := 9) (j := 12) (Ni := some 41) (Nj := some 9) #[true, true, true, true, true, true, true, true, true, true, false, false, false, false] #[true, true, true, true, true, true, true, true, true, false, false, false, true, false] rfl rfl rfl rfl (two_of HT_.out (by kernel_rfl)) (by decide) (by decide) (fun K hK => ?_) (fun K hK => ?_)
                          · skip
                            refine zX Tryz.func60 (by kernel_rfl) #[.agg #[.bool a0_0, .string a0_1, .string a0_2]] ?_
                            with_reducible refine (rat_den.calls a0_0 a0_1 a0_2 t476 t477 _ A35.out).mono ?_
                            rintro e w46 ⟨rfl, hb⟩; refine ⟨_, rfl, ?_⟩
                            obtain ⟨BK466, BK467, BK468⟩ := zB3 BK466 BK467 BK468 hb; replace HB := zS HB hb
                            (try clear hb)
                            refine hK.out _ _ ⟨(blk_cell BK466.out 0).trans rfl, (blk_cell BK466.out 1).trans rfl, (blk_cell BK466.out 2).trans rfl, (blk_cell BK467.out 0).trans rfl, (blk_cell BK467.out 1).trans rfl, (blk_cell BK467.out 2).trans rfl⟩ (fun hHeld => ?_)
                            clear hK K
                            refine zW (some 41) ?_
                            exact zA (hJ4_5_9 () _ ⟨hHeld, (zK BK466).out, (zK BK467).out, (zK BK468).out, (zT HB)⟩)
                          · skip
                            refine box_step ?hg (N := 9) ?hd (cs := #[.bool false, .string (⟨#[]⟩ : ByteArray)]) (t := 24) ?hr ?_; (case hd => rfl); (case hg => rfl); (case hr => first | (go_simp; done) | (go_simp; rfl))
                            intro gb482 hg w46 hbox hb
                            have BK482 := Aside0.mk (hbox); have GW482 := zG hg HB; have GE482 := zG hg HB; obtain ⟨NB466_482, NB482_466⟩ := zQ hg BK466; obtain ⟨NB467_482, NB482_467⟩ := zQ hg BK467; obtain ⟨NB468_482, NB482_468⟩ := zQ hg BK468; obtain ⟨BK466, BK467, BK468⟩ := zB3 BK466 BK467 BK468 hb; replace HB := zS HB hb; clear hb hbox hg
                            refine hK.out _ _ ⟨(blk_cell BK466.out 0).trans rfl, (blk_cell BK466.out 1).trans rfl, (blk_cell BK466.out 2).trans rfl, (blk_cell BK467.out 0).trans rfl, (blk_cell BK467.out 1).trans rfl, (blk_cell BK467.out 2).trans rfl⟩ (fun hHeld => ?_)
                            clear hK K
                            refine zW (some 9) ?_
                            exact zA (hJ4_5_12 (gb482) _ ⟨hHeld, (zK BK466).out, (zK BK467).out, (zK BK468).out, (zK BK482).out, GW482.out, GE482.out, NB466_482.out, NB482_466.out, NB467_482.out, NB482_467.out, NB468_482.out, NB482_468.out, (zT HB)⟩)
                      · skip
                        rintro gb482 w46 ⟨hS_, h0_, h1_, h2_, h3_, h4_, h5_, h6_, h7_, h8_, h9_, h10_, h11_, h12_⟩
                        have n0_ : Aside0 (w46.heap[gb466]? = some (.cells #[.bool a0_0, .string a0_1, .string a0_2] 27 (0, 0))) := ⟨h0_⟩; have n1_ : Aside0 (w46.heap[gb467]? = some (.cells #[.bool a1_0, .string a1_1, .string a1_2] 27 (0, 0))) := ⟨h1_⟩; have n2_ : Aside0 (w46.heap[gb468]? = some (.cells #[.bool false, .string (⟨#[]⟩ : ByteArray), .string (⟨#[]⟩ : ByteArray)] 27 (0, 0))) := ⟨h2_⟩; have n3_ : Aside0 (w46.heap[gb482]? = some (.cells #[.bool false, .string (⟨#[]⟩ : ByteArray)] 24 (0, 0))) := ⟨h3_⟩; have n4_ : Aside0 (w.heap.size ≤ gb482) := ⟨h4_⟩; have n5_ : Aside0 (w.heap.size ≤ gb482) := ⟨h5_⟩; have n6_ : Aside0 (gb466 ≠ gb482) := ⟨h6_⟩; have n7_ : Aside0 (gb482 ≠ gb466) := ⟨h7_⟩; have n8_ : Aside0 (gb467 ≠ gb482) := ⟨h8_⟩; have n9_ : Aside0 (gb482 ≠ gb467) := ⟨h9_⟩; have n10_ : Aside0 (gb468 ≠ gb482) := ⟨h10_⟩; have n11_ : Aside0 (gb482 ≠ gb468) := ⟨h11_⟩; have n12_ : Aside0 (Below w.heap.size w w46) := ⟨h12_⟩; clear BK466; clear BK467; clear BK468; clear HB; clear h0_ h1_ h2_ h3_ h4_ h5_ h6_ h7_ h8_ h9_ h10_ h11_ h12_; have BK466 := n0_; have BK467 := n1_; have BK468 := n2_; have BK482 := n3_; have GW482 := n4_; have GE482 := n5_; have NB466_482 := n6_; have NB482_466 := n7_; have NB467_482 := n8_; have NB482_467 := n9_; have NB468_482 := n10_; have NB482_468 := n11_; have HB := n12_; clear n0_ n1_ n2_ n3_ n4_ n5_ n6_ n7_ n8_ n9_ n10_ n11_ n12_
                        have hHeld : w46.cell? ⟨gb466, 0, none⟩ = some (.bool a0_0) ∧ w46.cell? ⟨gb466, 1, none⟩ = some (.string a0_1) ∧ w46.cell? ⟨gb466, 2, none⟩ = some (.string a0_2) ∧ w46.cell? ⟨gb467, 0, none⟩ = some (.bool a1_0) ∧ w46.cell? ⟨gb467, 1, none⟩ = some (.string a1_1) ∧ w46.cell? ⟨gb467, 2, none⟩ = some (.string a1_2) := hS_
                        refine norm_ (a' := ?_) ?_ ?_
                        rotate_left
                        · simp only [putAll, Act.put, List.setIfInBounds_toArray, List.set_cons_zero, List.set_cons_succ]
                          rfl
                        refine one_ (i := 9) (N := some 41) #[true, true, true, true, true, true, true, true, true, true, false, false, true, false] rfl rfl (one_of HT_.out (by kernel_rfl)) (by decide) (fun K hK => ?_)
                        refine zX Tryz.func60 (by kernel_rfl) #[.agg #[.bool a0_0, .string a0_1, .string a0_2]] ?_
                        with_reducible refine (rat_den.calls a0_0 a0_1 a0_2 t476 t477 _ A35.out).mono ?_
                        rintro e w47 ⟨rfl, hb⟩; refine ⟨_, rfl, ?_⟩
                        obtain ⟨BK466, BK467, BK468, BK482⟩ := zB4 BK466 BK467 BK468 BK482 hb; replace HB := zS HB hb
                        (try clear hb)
                        refine hK.out _ _ ⟨(blk_cell BK466.out 0).trans rfl, (blk_cell BK466.out 1).trans rfl, (blk_cell BK466.out 2).trans rfl, (blk_cell BK467.out 0).trans rfl, (blk_cell BK467.out 1).trans rfl, (blk_cell BK467.out 2).trans rfl⟩ (fun hHeld => ?_)
                        clear hK K
                        refine zW (some 41) ?_
                        exact zA (hJ4_5_9_12 (gb482) _ ⟨hHeld, (zK BK466).out, (zK BK467).out, (zK BK468).out, (zK BK482).out, GW482.out, GE482.out, NB466_482.out, NB482_466.out, NB467_482.out, NB482_467.out, NB468_482.out, NB482_468.out, (zT HB)⟩)
                    · skip
                      rintro _ w46 ⟨hS_, h0_, h1_, h2_, h3_⟩
                      have n0_ : Aside0 (w46.heap[gb466]? = some (.cells #[.bool a0_0, .string a0_1, .string a0_2] 27 (0, 0))) := ⟨h0_⟩; have n1_ : Aside0 (w46.heap[gb467]? = some (.cells #[.bool a1_0, .string a1_1, .string a1_2] 27 (0, 0))) := ⟨h1_⟩; have n2_ : Aside0 (w46.heap[gb468]? = some (.cells #[.bool false, .string (⟨#[]⟩ : ByteArray), .string (⟨#[]⟩ : ByteArray)] 27 (0, 0))) := ⟨h2_⟩; have n3_ : Aside0 (Below w.heap.size w w46) := ⟨h3_⟩; clear BK466; clear BK467; clear BK468; clear HB; clear h0_ h1_ h2_ h3_; have BK466 := n0_; have BK467 := n1_; have BK468 := n2_; have HB := n3_; clear n0_ n1_ n2_ n3_
                      have hHeld : w46.cell? ⟨gb466, 0, none⟩ = some (.bool a0_0) ∧ w46.cell? ⟨gb466, 1, none⟩ = some (.string a0_1) ∧ w46.cell? ⟨gb466, 2, none⟩ = some (.string a0_2) ∧ w46.cell? ⟨gb467, 0, none⟩ = some (.bool a1_0) ∧ w46.cell? ⟨gb467, 1, none⟩ = some (.string a1_1) ∧ w46.cell? ⟨gb467, 2, none⟩ = some (.string a1_2) := hS_
                      refine norm_ (a' := ?_) ?_ ?_
                      rotate_left
                      · simp only [putAll, Act.put, List.setIfInBounds_toArray, List.set_cons_zero, List.set_cons_succ]
                        rfl
                      refine two_ (i := 10) (j := 12) (Ni := some 42) (Nj := some 9) #[true, true, true, true, true, true, true, true, true, true, true, false, false, false] #[true, true, true, true, true, true, true, true, true, true, false, false, true, false] rfl rfl rfl rfl (two_of HT_.out (by kernel_rfl)) (by decide) (by decide) (fun K hK => ?_) (fun K hK => ?_)
                      · skip
                        refine zX Tryz.func57 (by kernel_rfl) #[.func (.func 58) #[] #[], .agg #[.bool a1_0, .string a1_1], .agg #[.bool t476, .string t477]] ?_
                        with_reducible refine (rat_do_of_whole_Mul.calls a1_0 a1_1 t476 t477 t478 t479 _ A36.out).mono ?_
                        rintro e w47 ⟨rfl, hb⟩; refine ⟨_, rfl, ?_⟩
                        obtain ⟨BK466, BK467, BK468⟩ := zB3 BK466 BK467 BK468 hb; replace HB := zS HB hb
                        (try clear hb)
                        refine hK.out _ _ ⟨(blk_cell BK466.out 0).trans rfl, (blk_cell BK466.out 1).trans rfl, (blk_cell BK466.out 2).trans rfl, (blk_cell BK467.out 0).trans rfl, (blk_cell BK467.out 1).trans rfl, (blk_cell BK467.out 2).trans rfl⟩ (fun hHeld => ?_)
                        clear hK K
                        refine zW (some 42) ?_
                        exact zA (hJ4_5_9_10 () _ ⟨hHeld, (zK BK466).out, (zK BK467).out, (zK BK468).out, (zT HB)⟩)
                      · skip
                        refine box_step ?hg (N := 9) ?hd (cs := #[.bool false, .string (⟨#[]⟩ : ByteArray)]) (t := 24) ?hr ?_; (case hd => rfl); (case hg => rfl); (case hr => first | (go_simp; done) | (go_simp; rfl))
                        intro gb482 hg w47 hbox hb
                        have BK482 := Aside0.mk (hbox); have GW482 := zG hg HB; have GE482 := zG hg HB; obtain ⟨NB466_482, NB482_466⟩ := zQ hg BK466; obtain ⟨NB467_482, NB482_467⟩ := zQ hg BK467; obtain ⟨NB468_482, NB482_468⟩ := zQ hg BK468; obtain ⟨BK466, BK467, BK468⟩ := zB3 BK466 BK467 BK468 hb; replace HB := zS HB hb; clear hb hbox hg
                        refine hK.out _ _ ⟨(blk_cell BK466.out 0).trans rfl, (blk_cell BK466.out 1).trans rfl, (blk_cell BK466.out 2).trans rfl, (blk_cell BK467.out 0).trans rfl, (blk_cell BK467.out 1).trans rfl, (blk_cell BK467.out 2).trans rfl⟩ (fun hHeld => ?_)
                        clear hK K
                        refine zW (some 9) ?_
                        exact zA (hJ4_5_9_12 (gb482) _ ⟨hHeld, (zK BK466).out, (zK BK467).out, (zK BK468).out, (zK BK482).out, GW482.out, GE482.out, NB466_482.out, NB482_466.out, NB467_482.out, NB482_467.out, NB468_482.out, NB482_468.out, (zT HB)⟩)
                  · skip
                    rintro gb482 w47 ⟨hS_, h0_, h1_, h2_, h3_, h4_, h5_, h6_, h7_, h8_, h9_, h10_, h11_, h12_⟩
                    have n0_ : Aside0 (w47.heap[gb466]? = some (.cells #[.bool a0_0, .string a0_1, .string a0_2] 27 (0, 0))) := ⟨h0_⟩; have n1_ : Aside0 (w47.heap[gb467]? = some (.cells #[.bool a1_0, .string a1_1, .string a1_2] 27 (0, 0))) := ⟨h1_⟩; have n2_ : Aside0 (w47.heap[gb468]? = some (.cells #[.bool false, .string (⟨#[]⟩ : ByteArray), .string (⟨#[]⟩ : ByteArray)] 27 (0, 0))) := ⟨h2_⟩; have n3_ : Aside0 (w47.heap[gb482]? = some (.cells #[.bool false, .string (⟨#[]⟩ : ByteArray)] 24 (0, 0))) := ⟨h3_⟩; have n4_ : Aside0 (w.heap.size ≤ gb482) := ⟨h4_⟩; have n5_ : Aside0 (w.heap.size ≤ gb482) := ⟨h5_⟩; have n6_ : Aside0 (gb466 ≠ gb482) := ⟨h6_⟩; have n7_ : Aside0 (gb482 ≠ gb466) := ⟨h7_⟩; have n8_ : Aside0 (gb467 ≠ gb482) := ⟨h8_⟩; have n9_ : Aside0 (gb482 ≠ gb467) := ⟨h9_⟩; have n10_ : Aside0 (gb468 ≠ gb482) := ⟨h10_⟩; have n11_ : Aside0 (gb482 ≠ gb468) := ⟨h11_⟩; have n12_ : Aside0 (Below w.heap.size w w47) := ⟨h12_⟩; clear BK466; clear BK467; clear BK468; clear HB; clear h0_ h1_ h2_ h3_ h4_ h5_ h6_ h7_ h8_ h9_ h10_ h11_ h12_; have BK466 := n0_; have BK467 := n1_; have BK468 := n2_; have BK482 := n3_; have GW482 := n4_; have GE482 := n5_; have NB466_482 := n6_; have NB482_466 := n7_; have NB467_482 := n8_; have NB482_467 := n9_; have NB468_482 := n10_; have NB482_468 := n11_; have HB := n12_; clear n0_ n1_ n2_ n3_ n4_ n5_ n6_ n7_ n8_ n9_ n10_ n11_ n12_
                    have hHeld : w47.cell? ⟨gb466, 0, none⟩ = some (.bool a0_0) ∧ w47.cell? ⟨gb466, 1, none⟩ = some (.string a0_1) ∧ w47.cell? ⟨gb466, 2, none⟩ = some (.string a0_2) ∧ w47.cell? ⟨gb467, 0, none⟩ = some (.bool a1_0) ∧ w47.cell? ⟨gb467, 1, none⟩ = some (.string a1_1) ∧ w47.cell? ⟨gb467, 2, none⟩ = some (.string a1_2) := hS_
                    refine norm_ (a' := ?_) ?_ ?_
                    rotate_left
                    · simp only [putAll, Act.put, List.setIfInBounds_toArray, List.set_cons_zero, List.set_cons_succ]
                      rfl
                    refine one_ (i := 10) (N := some 42) #[true, true, true, true, true, true, true, true, true, true, true, false, true, false] rfl rfl (one_of HT_.out (by kernel_rfl)) (by decide) (fun K hK => ?_)
                    refine zX Tryz.func57 (by kernel_rfl) #[.func (.func 58) #[] #[], .agg #[.bool a1_0, .string a1_1], .agg #[.bool t476, .string t477]] ?_
                    with_reducible refine (rat_do_of_whole_Mul.calls a1_0 a1_1 t476 t477 t478 t479 _ A36.out).mono ?_
                    rintro e w48 ⟨rfl, hb⟩; refine ⟨_, rfl, ?_⟩
                    obtain ⟨BK466, BK467, BK468, BK482⟩ := zB4 BK466 BK467 BK468 BK482 hb; replace HB := zS HB hb
                    (try clear hb)
                    refine hK.out _ _ ⟨(blk_cell BK466.out 0).trans rfl, (blk_cell BK466.out 1).trans rfl, (blk_cell BK466.out 2).trans rfl, (blk_cell BK467.out 0).trans rfl, (blk_cell BK467.out 1).trans rfl, (blk_cell BK467.out 2).trans rfl⟩ (fun hHeld => ?_)
                    clear hK K
                    refine zW (some 42) ?_
                    exact zA (hJ4_5_9_10_12 (gb482) _ ⟨hHeld, (zK BK466).out, (zK BK467).out, (zK BK468).out, (zK BK482).out, GW482.out, GE482.out, NB466_482.out, NB482_466.out, NB467_482.out, NB482_467.out, NB468_482.out, NB482_468.out, (zT HB)⟩)
                · skip
                  rintro _ w47 ⟨hS_, h0_, h1_, h2_, h3_⟩
                  have n0_ : Aside0 (w47.heap[gb466]? = some (.cells #[.bool a0_0, .string a0_1, .string a0_2] 27 (0, 0))) := ⟨h0_⟩; have n1_ : Aside0 (w47.heap[gb467]? = some (.cells #[.bool a1_0, .string a1_1, .string a1_2] 27 (0, 0))) := ⟨h1_⟩; have n2_ : Aside0 (w47.heap[gb468]? = some (.cells #[.bool false, .string (⟨#[]⟩ : ByteArray), .string (⟨#[]⟩ : ByteArray)] 27 (0, 0))) := ⟨h2_⟩; have n3_ : Aside0 (Below w.heap.size w w47) := ⟨h3_⟩; clear BK466; clear BK467; clear BK468; clear HB; clear h0_ h1_ h2_ h3_; have BK466 := n0_; have BK467 := n1_; have BK468 := n2_; have HB := n3_; clear n0_ n1_ n2_ n3_
                  have hHeld : w47.cell? ⟨gb466, 0, none⟩ = some (.bool a0_0) ∧ w47.cell? ⟨gb466, 1, none⟩ = some (.string a0_1) ∧ w47.cell? ⟨gb466, 2, none⟩ = some (.string a0_2) ∧ w47.cell? ⟨gb467, 0, none⟩ = some (.bool a1_0) ∧ w47.cell? ⟨gb467, 1, none⟩ = some (.string a1_1) ∧ w47.cell? ⟨gb467, 2, none⟩ = some (.string a1_2) := hS_
                  refine norm_ (a' := ?_) ?_ ?_
                  rotate_left
                  · simp only [putAll, Act.put, List.setIfInBounds_toArray, List.set_cons_zero, List.set_cons_succ]
                    rfl
                  refine two_ (i := 11) (j := 12) (Ni := some 43) (Nj := some 9) #[true, true, true, true, true, true, true, true, true, true, true, true, false, false] #[true, true, true, true, true, true, true, true, true, true, true, false, true, false] rfl rfl rfl rfl (two_of HT_.out (by kernel_rfl)) (by decide) (by decide) (fun K hK => ?_) (fun K hK => ?_)
                  · skip
                    refine zX Tryz.func57 (by kernel_rfl) #[.func (.func G) #[] #[], .agg #[.bool t474, .string t475], .agg #[.bool t478, .string t479]] ?_
                    with_reducible refine (hF.out t474 t475 t478 t479 t480 t481 _ A37.out).mono ?_
                    rintro e w48 ⟨rfl, hb⟩; refine ⟨_, rfl, ?_⟩
                    obtain ⟨BK466, BK467, BK468⟩ := zB3 BK466 BK467 BK468 hb; replace HB := zS HB hb
                    (try clear hb)
                    refine hK.out _ _ ⟨(blk_cell BK466.out 0).trans rfl, (blk_cell BK466.out 1).trans rfl, (blk_cell BK466.out 2).trans rfl, (blk_cell BK467.out 0).trans rfl, (blk_cell BK467.out 1).trans rfl, (blk_cell BK467.out 2).trans rfl⟩ (fun hHeld => ?_)
                    clear hK K
                    refine zW (some 43) ?_
                    exact zA (hJ4_5_9_10_11 () _ ⟨hHeld, (zK BK466).out, (zK BK467).out, (zK BK468).out, (zT HB)⟩)
                  · skip
                    refine box_step ?hg (N := 9) ?hd (cs := #[.bool false, .string (⟨#[]⟩ : ByteArray)]) (t := 24) ?hr ?_; (case hd => rfl); (case hg => rfl); (case hr => first | (go_simp; done) | (go_simp; rfl))
                    intro gb482 hg w48 hbox hb
                    have BK482 := Aside0.mk (hbox); have GW482 := zG hg HB; have GE482 := zG hg HB; obtain ⟨NB466_482, NB482_466⟩ := zQ hg BK466; obtain ⟨NB467_482, NB482_467⟩ := zQ hg BK467; obtain ⟨NB468_482, NB482_468⟩ := zQ hg BK468; obtain ⟨BK466, BK467, BK468⟩ := zB3 BK466 BK467 BK468 hb; replace HB := zS HB hb; clear hb hbox hg
                    refine hK.out _ _ ⟨(blk_cell BK466.out 0).trans rfl, (blk_cell BK466.out 1).trans rfl, (blk_cell BK466.out 2).trans rfl, (blk_cell BK467.out 0).trans rfl, (blk_cell BK467.out 1).trans rfl, (blk_cell BK467.out 2).trans rfl⟩ (fun hHeld => ?_)
                    clear hK K
                    refine zW (some 9) ?_
                    exact zA (hJ4_5_9_10_12 (gb482) _ ⟨hHeld, (zK BK466).out, (zK BK467).out, (zK BK468).out, (zK BK482).out, GW482.out, GE482.out, NB466_482.out, NB482_466.out, NB467_482.out, NB482_467.out, NB468_482.out, NB482_468.out, (zT HB)⟩)
              · skip
                rintro gb482 w48 ⟨hS_, h0_, h1_, h2_, h3_, h4_, h5_, h6_, h7_, h8_, h9_, h10_, h11_, h12_⟩
                have n0_ : Aside0 (w48.heap[gb466]? = some (.cells #[.bool a0_0, .string a0_1, .string a0_2] 27 (0, 0))) := ⟨h0_⟩; have n1_ : Aside0 (w48.heap[gb467]? = some (.cells #[.bool a1_0, .string a1_1, .string a1_2] 27 (0, 0))) := ⟨h1_⟩; have n2_ : Aside0 (w48.heap[gb468]? = some (.cells #[.bool false, .string (⟨#[]⟩ : ByteArray), .string (⟨#[]⟩ : ByteArray)] 27 (0, 0))) := ⟨h2_⟩; have n3_ : Aside0 (w48.heap[gb482]? = some (.cells #[.bool false, .string (⟨#[]⟩ : ByteArray)] 24 (0, 0))) := ⟨h3_⟩; have n4_ : Aside0 (w.heap.size ≤ gb482) := ⟨h4_⟩; have n5_ : Aside0 (w.heap.size ≤ gb482) := ⟨h5_⟩; have n6_ : Aside0 (gb466 ≠ gb482) := ⟨h6_⟩; have n7_ : Aside0 (gb482 ≠ gb466) := ⟨h7_⟩; have n8_ : Aside0 (gb467 ≠ gb482) := ⟨h8_⟩; have n9_ : Aside0 (gb482 ≠ gb467) := ⟨h9_⟩; have n10_ : Aside0 (gb468 ≠ gb482) := ⟨h10_⟩; have n11_ : Aside0 (gb482 ≠ gb468) := ⟨h11_⟩; have n12_ : Aside0 (Below w.heap.size w w48) := ⟨h12_⟩; clear BK466; clear BK467; clear BK468; clear HB; clear h0_ h1_ h2_ h3_ h4_ h5_ h6_ h7_ h8_ h9_ h10_ h11_ h12_; have BK466 := n0_; have BK467 := n1_; have BK468 := n2_; have BK482 := n3_; have GW482 := n4_; have GE482 := n5_; have NB466_482 := n6_; have NB482_466 := n7_; have NB467_482 := n8_; have NB482_467 := n9_; have NB468_482 := n10_; have NB482_468 := n11_; have HB := n12_; clear n0_ n1_ n2_ n3_ n4_ n5_ n6_ n7_ n8_ n9_ n10_ n11_ n12_
                have hHeld : w48.cell? ⟨gb466, 0, none⟩ = some (.bool a0_0) ∧ w48.cell? ⟨gb466, 1, none⟩ = some (.string a0_1) ∧ w48.cell? ⟨gb466, 2, none⟩ = some (.string a0_2) ∧ w48.cell? ⟨gb467, 0, none⟩ = some (.bool a1_0) ∧ w48.cell? ⟨gb467, 1, none⟩ = some (.string a1_1) ∧ w48.cell? ⟨gb467, 2, none⟩ = some (.string a1_2) := hS_
                refine norm_ (a' := ?_) ?_ ?_
                rotate_left
                · simp only [putAll, Act.put, List.setIfInBounds_toArray, List.set_cons_zero, List.set_cons_succ]
                  rfl
                refine one_ (i := 11) (N := some 43) #[true, true, true, true, true, true, true, true, true, true, true, true, true, false] rfl rfl (one_of HT_.out (by kernel_rfl)) (by decide) (fun K hK => ?_)
                refine zX Tryz.func57 (by kernel_rfl) #[.func (.func G) #[] #[], .agg #[.bool t474, .string t475], .agg #[.bool t478, .string t479]] ?_
                with_reducible refine (hF.out t474 t475 t478 t479 t480 t481 _ A37.out).mono ?_
                rintro e w49 ⟨rfl, hb⟩; refine ⟨_, rfl, ?_⟩
                obtain ⟨BK466, BK467, BK468, BK482⟩ := zB4 BK466 BK467 BK468 BK482 hb; replace HB := zS HB hb
                (try clear hb)
                refine hK.out _ _ ⟨(blk_cell BK466.out 0).trans rfl, (blk_cell BK466.out 1).trans rfl, (blk_cell BK466.out 2).trans rfl, (blk_cell BK467.out 0).trans rfl, (blk_cell BK467.out 1).trans rfl, (blk_cell BK467.out 2).trans rfl⟩ (fun hHeld => ?_)
                clear hK K
                refine zW (some 43) ?_
                exact zA (hJ4_5_9_10_11_12 (gb482) _ ⟨hHeld, (zK BK466).out, (zK BK467).out, (zK BK468).out, (zK BK482).out, GW482.out, GE482.out, NB466_482.out, NB482_466.out, NB467_482.out, NB482_467.out, NB468_482.out, NB482_468.out, (zT HB)⟩)
            · skip
              rintro _ w48 ⟨hS_, h0_, h1_, h2_, h3_⟩
              have n0_ : Aside0 (w48.heap[gb466]? = some (.cells #[.bool a0_0, .string a0_1, .string a0_2] 27 (0, 0))) := ⟨h0_⟩; have n1_ : Aside0 (w48.heap[gb467]? = some (.cells #[.bool a1_0, .string a1_1, .string a1_2] 27 (0, 0))) := ⟨h1_⟩; have n2_ : Aside0 (w48.heap[gb468]? = some (.cells #[.bool false, .string (⟨#[]⟩ : ByteArray), .string (⟨#[]⟩ : ByteArray)] 27 (0, 0))) := ⟨h2_⟩; have n3_ : Aside0 (Below w.heap.size w w48) := ⟨h3_⟩; clear BK466; clear BK467; clear BK468; clear HB; clear h0_ h1_ h2_ h3_; have BK466 := n0_; have BK467 := n1_; have BK468 := n2_; have HB := n3_; clear n0_ n1_ n2_ n3_
              have hHeld : w48.cell? ⟨gb466, 0, none⟩ = some (.bool a0_0) ∧ w48.cell? ⟨gb466, 1, none⟩ = some (.string a0_1) ∧ w48.cell? ⟨gb466, 2, none⟩ = some (.string a0_2) ∧ w48.cell? ⟨gb467, 0, none⟩ = some (.bool a1_0) ∧ w48.cell? ⟨gb467, 1, none⟩ = some (.string a1_1) ∧ w48.cell? ⟨gb467, 2, none⟩ = some (.string a1_2) := hS_
              refine norm_ (a' := ?_) ?_ ?_
              rotate_left
              · simp only [putAll, Act.put, List.setIfInBounds_toArray, List.set_cons_zero, List.set_cons_succ]
                rfl
              refine one_ (i := 12) (N := some 9) #[true, true, true, true, true, true, true, true, true, true, true, true, true, false] rfl rfl (one_of HT_.out (by kernel_rfl)) (by decide) (fun K hK => ?_)
              refine box_step ?hg (N := 9) ?hd (cs := #[.bool false, .string (⟨#[]⟩ : ByteArray)]) (t := 24) ?hr ?_; (case hd => rfl); (case hg => rfl); (case hr => first | (go_simp; done) | (go_simp; rfl))
              intro gb482 hg w49 hbox hb
              have BK482 := Aside0.mk (hbox); have GW482 := zG hg HB; have GE482 := zG hg HB; obtain ⟨NB466_482, NB482_466⟩ := zQ hg BK466; obtain ⟨NB467_482, NB482_467⟩ := zQ hg BK467; obtain ⟨NB468_482, NB482_468⟩ := zQ hg BK468; obtain ⟨BK466, BK467, BK468⟩ := zB3 BK466 BK467 BK468 hb; replace HB := zS HB hb; clear hb hbox hg
              refine hK.out _ _ ⟨(blk_cell BK466.out 0).trans rfl, (blk_cell BK466.out 1).trans rfl, (blk_cell BK466.out 2).trans rfl, (blk_cell BK467.out 0).trans rfl, (blk_cell BK467.out 1).trans rfl, (blk_cell BK467.out 2).trans rfl⟩ (fun hHeld => ?_)
              clear hK K
              refine zW (some 9) ?_
              exact zA (hJ4_5_9_10_11_12 (gb482) _ ⟨hHeld, (zK BK466).out, (zK BK467).out, (zK BK468).out, (zK BK482).out, GW482.out, GE482.out, NB466_482.out, NB482_466.out, NB467_482.out, NB482_467.out, NB468_482.out, NB482_468.out, (zT HB)⟩)
          rintro gb482 w49 ⟨hS_, h0_, h1_, h2_, h3_, h4_, h5_, h6_, h7_, h8_, h9_, h10_, h11_, h12_⟩
          have n0_ : Aside0 (w49.heap[gb466]? = some (.cells #[.bool a0_0, .string a0_1, .string a0_2] 27 (0, 0))) := ⟨h0_⟩; have n1_ : Aside0 (w49.heap[gb467]? = some (.cells #[.bool a1_0, .string a1_1, .string a1_2] 27 (0, 0))) := ⟨h1_⟩; have n2_ : Aside0 (w49.heap[gb468]? = some (.cells #[.bool false, .string (⟨#[]⟩ : ByteArray), .string (⟨#[]⟩ : ByteArray)] 27 (0, 0))) := ⟨h2_⟩; have n3_ : Aside0 (w49.heap[gb482]? = some (.cells #[.bool false, .string (⟨#[]⟩ : ByteArray)] 24 (0, 0))) := ⟨h3_⟩; have n4_ : Aside0 (w.heap.size ≤ gb482) := ⟨h4_⟩; have n5_ : Aside0 (w.heap.size ≤ gb482) := ⟨h5_⟩; have n6_ : Aside0 (gb466 ≠ gb482) := ⟨h6_⟩; have n7_ : Aside0 (gb482 ≠ gb466) := ⟨h7_⟩; have n8_ : Aside0 (gb467 ≠ gb482) := ⟨h8_⟩; have n9_ : Aside0 (gb482 ≠ gb467) := ⟨h9_⟩; have n10_ : Aside0 (gb468 ≠ gb482) := ⟨h10_⟩; have n11_ : Aside0 (gb482 ≠ gb468) := ⟨h11_⟩; have n12_ : Aside0 (Below w.heap.size w w49) := ⟨h12_⟩; clear BK466; clear BK467; clear BK468; clear HB; clear h0_ h1_ h2_ h3_ h4_ h5_ h6_ h7_ h8_ h9_ h10_ h11_ h12_; have BK466 := n0_; have BK467 := n1_; have BK468 := n2_; have BK482 := n3_; have GW482 := n4_; have GE482 := n5_; have NB466_482 := n6_; have NB482_466 := n7_; have NB467_482 := n8_; have NB482_467 := n9_; have NB468_482 := n10_; have NB482_468 := n11_; have HB := n12_; clear n0_ n1_ n2_ n3_ n4_ n5_ n6_ n7_ n8_ n9_ n10_ n11_ n12_
          have hHeld : w49.cell? ⟨gb466, 0, none⟩ = some (.bool a0_0) ∧ w49.cell? ⟨gb466, 1, none⟩ = some (.string a0_1) ∧ w49.cell? ⟨gb466, 2, none⟩ = some (.string a0_2) ∧ w49.cell? ⟨gb467, 0, none⟩ = some (.bool a1_0) ∧ w49.cell? ⟨gb467, 1, none⟩ = some (.string a1_1) ∧ w49.cell? ⟨gb467, 2, none⟩ = some (.string a1_2) := hS_
          refine norm_ (a' := ?_) ?_ ?_
          rotate_left
          · simp only [putAll, Act.put, List.setIfInBounds_toArray, List.set_cons_zero, List.set_cons_succ]
            rfl
          refine one_ (i := 13) (N := none) #[true, true, true, true, true, true, true, true, true, true, true, true, true, true] rfl rfl (one_of HT_.out (by kernel_rfl)) (by decide) (fun K hK => ?_)
          have hs50 : w49.cell? ⟨gb482, 0, none⟩ = some (.bool false) := (blk_cell BK482.out 0).trans rfl
          have hfs50 := blk_frozen BK482.out 0
          have hns50_0 := NB466_482.out
          have hns50_1 := NB467_482.out
          have hns50_2 := NB468_482.out
          have hms50_0 := NB482_466.out
          have hms50_1 := NB482_467.out
          have hms50_2 := NB482_468.out
          have hs51 : w49.cell? ⟨gb482, 1, none⟩ = some (.string (⟨#[]⟩ : ByteArray)) := (blk_cell BK482.out 1).trans rfl
          have hfs51 := blk_frozen BK482.out 1
          have hns51_0 := NB466_482.out
          have hns51_1 := NB467_482.out
          have hns51_2 := NB468_482.out
          have hms51_0 := NB482_466.out
          have hms51_1 := NB482_467.out
          have hms51_2 := NB482_468.out
          refine skip_ (w1 := ?_) (by rfl) rfl ?_ ?_
          rotate_left
          · go_simp
            rfl
          refine hK.out _ _ ⟨((cell_far (p := ⟨gb482, _, none⟩) NB466_482.out _).trans (((cell_far (p := ⟨gb482, _, none⟩) NB466_482.out _).trans (hHeld.1)))), ((cell_far (p := ⟨gb482, _, none⟩) NB466_482.out _).trans (((cell_far (p := ⟨gb482, _, none⟩) NB466_482.out _).trans (hHeld.2.1)))), ((cell_far (p := ⟨gb482, _, none⟩) NB466_482.out _).trans (((cell_far (p := ⟨gb482, _, none⟩) NB466_482.out _).trans (hHeld.2.2.1)))), ((cell_far (p := ⟨gb482, _, none⟩) NB467_482.out _).trans (((cell_far (p := ⟨gb482, _, none⟩) NB467_482.out _).trans (hHeld.2.2.2.1)))), ((cell_far (p := ⟨gb482, _, none⟩) NB467_482.out _).trans (((cell_far (p := ⟨gb482, _, none⟩) NB467_482.out _).trans (hHeld.2.2.2.2.1)))), ((cell_far (p := ⟨gb482, _, none⟩) NB467_482.out _).trans (((cell_far (p := ⟨gb482, _, none⟩) NB467_482.out _).trans (hHeld.2.2.2.2.2))))⟩ (fun hHeld => ?_)
          clear hK K
          refine done_ (done_of HT_.out (by kernel_rfl)) ?_
          try go_wp2
          have n0_ : Aside0 (((w49.setCell ⟨gb482, 0, none⟩ (.bool t480)).setCell ⟨gb482, 1, none⟩ (.string t481)).heap[gb466]? = some (.cells #[.bool a0_0, .string a0_1, .string a0_2] 27 (0, 0))) := zK BK466; have n1_ : Aside0 (((w49.setCell ⟨gb482, 0, none⟩ (.bool t480)).setCell ⟨gb482, 1, none⟩ (.string t481)).heap[gb467]? = some (.cells #[.bool a1_0, .string a1_1, .string a1_2] 27 (0, 0))) := zK BK467; have n2_ : Aside0 (((w49.setCell ⟨gb482, 0, none⟩ (.bool t480)).setCell ⟨gb482, 1, none⟩ (.string t481)).heap[gb468]? = some (.cells #[.bool false, .string (⟨#[]⟩ : ByteArray), .string (⟨#[]⟩ : ByteArray)] 27 (0, 0))) := zK BK468; have n3_ : Aside0 (((w49.setCell ⟨gb482, 0, none⟩ (.bool t480)).setCell ⟨gb482, 1, none⟩ (.string t481)).heap[gb482]? = some (.cells #[.bool t480, .string t481] 24 (0, 0))) := ⟨by (with_reducible repeat (first | refine blk_drewN ?_ _ | refine blk_drew ?_ | refine blk_alloc ?_ _)); refine zP (cs := #[.bool t480, .string (⟨#[]⟩ : ByteArray)]) ?_ 1 _; (with_reducible repeat (first | refine blk_drewN ?_ _ | refine blk_drew ?_ | refine blk_alloc ?_ _)); refine zP (cs := #[.bool false, .string (⟨#[]⟩ : ByteArray)]) ?_ 0 _; (with_reducible repeat (first | refine blk_drewN ?_ _ | refine blk_drew ?_ | refine blk_alloc ?_ _)); exact BK482.out⟩; have n4_ : Aside0 (Below w.heap.size w ((w49.setCell ⟨gb482, 0, none⟩ (.bool t480)).setCell ⟨gb482, 1, none⟩ (.string t481))) := ⟨zT HB⟩
          (try clear BK466)
          (try clear BK467)
          (try clear BK468)
          (try clear BK482)
          (try clear HB)
          generalize ((w49.setCell ⟨gb482, 0, none⟩ (.bool t480)).setCell ⟨gb482, 1, none⟩ (.string t481)) = w52 at n0_ n1_ n2_ n3_ n4_ ⊢
          have BK466 := n0_; have BK467 := n1_
          have BK468 := n2_; have BK482 := n3_
          have HB := n4_; clear n0_ n1_ n2_ n3_ n4_
          replace BK466 := zD BK466; replace BK467 := zD BK467; replace BK468 := zD BK468; replace BK482 := zD BK482; replace HB := zF HB
          refine start_ (n := 9) (S := fun w' => w'.cell? ⟨gb482, 0, none⟩ = some (.bool t480) ∧ w'.cell? ⟨gb482, 1, none⟩ = some (.string t481) ∧ w'.cell? ⟨gb466, 0, none⟩ = some (.bool a0_0) ∧ w'.cell? ⟨gb466, 1, none⟩ = some (.string a0_1) ∧ w'.cell? ⟨gb466, 2, none⟩ = some (.string a0_2) ∧ w'.cell? ⟨gb467, 0, none⟩ = some (.bool a1_0) ∧ w'.cell? ⟨gb467, 1, none⟩ = some (.string a1_1) ∧ w'.cell? ⟨gb467, 2, none⟩ = some (.string a1_2)) (ds := []) #[false, false, false, false, false, false, false, false, false] (by kernel_rfl) rfl rfl ⟨(blk_cell BK482.out 0).trans rfl, (blk_cell BK482.out 1).trans rfl, (blk_cell BK466.out 0).trans rfl, (blk_cell BK466.out 1).trans rfl, (blk_cell BK466.out 2).trans rfl, (blk_cell BK467.out 0).trans rfl, (blk_cell BK467.out 1).trans rfl, (blk_cell BK467.out 2).trans rfl⟩ (fun hHeld => ?_); refine with_tabW rat_over_gen.tab7 rat_over_gen.bits7 (fun HT_ HW_ => ?_)
          generalize w52.drew = w53 at BK466 BK467 BK468 BK482 HB hHeld ⊢
          refine zV (i := 0) (N := some 44) #[true, false, false, false, false, false, false, false, false] (take_ofW HT_.out HW_.out (by kernel_rfl)) hHeld ?_
          refine zV (i := 1) (N := some 45) #[true, true, false, false, false, false, false, false, false] (take_ofW HT_.out HW_.out (by kernel_rfl)) hHeld ?_
          refine zV (i := 3) (N := some 47) #[true, true, false, true, false, false, false, false, false] (take_ofW HT_.out HW_.out (by kernel_rfl)) hHeld ?_
          refine one_ (i := 2) (N := some 46) #[true, true, true, true, false, false, false, false, false] rfl rfl (one_of HT_.out (by kernel_rfl)) (by decide) (fun K hK => ?_)
          refine zX Tryz.func60 (by kernel_rfl) #[.agg #[.bool a0_0, .string a0_1, .string a0_2]] ?_
          with_reducible refine (rat_den.calls a0_0 a0_1 a0_2 t483 t484 _ A38.out).mono ?_
          rintro e w54 ⟨rfl, hb⟩; refine ⟨_, rfl, ?_⟩
          obtain ⟨BK466, BK467, BK468, BK482⟩ := zB4 BK466 BK467 BK468 BK482 hb; replace HB := zS HB hb
          (try clear hb)
          refine hK.out _ _ ⟨(blk_cell BK482.out 0).trans rfl, (blk_cell BK482.out 1).trans rfl, (blk_cell BK466.out 0).trans rfl, (blk_cell BK466.out 1).trans rfl, (blk_cell BK466.out 2).trans rfl, (blk_cell BK467.out 0).trans rfl, (blk_cell BK467.out 1).trans rfl, (blk_cell BK467.out 2).trans rfl⟩ (fun hHeld => ?_)
          clear hK K
          refine zW (some 46) ?_
          refine one_ (i := 4) (N := some 48) #[true, true, true, true, true, false, false, false, false] rfl rfl (one_of HT_.out (by kernel_rfl)) (by decide) (fun K hK => ?_)
          refine zX Tryz.func60 (by kernel_rfl) #[.agg #[.bool a1_0, .string a1_1, .string a1_2]] ?_
          with_reducible refine (rat_den.calls a1_0 a1_1 a1_2 t485 t486 _ A39.out).mono ?_
          rintro e w55 ⟨rfl, hb⟩; refine ⟨_, rfl, ?_⟩
          obtain ⟨BK466, BK467, BK468, BK482⟩ := zB4 BK466 BK467 BK468 BK482 hb; replace HB := zS HB hb
          (try clear hb)
          refine hK.out _ _ ⟨(blk_cell BK482.out 0).trans rfl, (blk_cell BK482.out 1).trans rfl, (blk_cell BK466.out 0).trans rfl, (blk_cell BK466.out 1).trans rfl, (blk_cell BK466.out 2).trans rfl, (blk_cell BK467.out 0).trans rfl, (blk_cell BK467.out 1).trans rfl, (blk_cell BK467.out 2).trans rfl⟩ (fun hHeld => ?_)
          clear hK K
          refine zW (some 48) ?_
          refine one_ (i := 5) (N := some 49) #[true, true, true, true, true, true, false, false, false] rfl rfl (one_of HT_.out (by kernel_rfl)) (by decide) (fun K hK => ?_)
          refine zX Tryz.func57 (by kernel_rfl) #[.func (.func 58) #[] #[], .agg #[.bool t483, .string t484], .agg #[.bool t485, .string t486]] ?_
          with_reducible refine (rat_do_of_whole_Mul.calls t483 t484 t485 t486 t487 t488 _ A40.out).mono ?_
          rintro e w56 ⟨rfl, hb⟩; refine ⟨_, rfl, ?_⟩
          obtain ⟨BK466, BK467, BK468, BK482⟩ := zB4 BK466 BK467 BK468 BK482 hb; replace HB := zS HB hb
          (try clear hb)
          refine hK.out _ _ ⟨(blk_cell BK482.out 0).trans rfl, (blk_cell BK482.out 1).trans rfl, (blk_cell BK466.out 0).trans rfl, (blk_cell BK466.out 1).trans rfl, (blk_cell BK466.out 2).trans rfl, (blk_cell BK467.out 0).trans rfl, (blk_cell BK467.out 1).trans rfl, (blk_cell BK467.out 2).trans rfl⟩ (fun hHeld => ?_)
          clear hK K
          refine zW (some 49) ?_
          refine one_ (i := 6) (N := some 50) #[true, true, true, true, true, true, true, false, false] rfl rfl (one_of HT_.out (by kernel_rfl)) (by decide) (fun K hK => ?_)
          refine zX Tryz.func47 (by kernel_rfl) #[.agg #[.bool t480, .string t481], .agg #[.bool t487, .string t488]] ?_
          with_reducible refine (rat_lowest.calls kj4 t480 t481 t487 t488 t489 t490 t491 _ A41.out).mono ?_
          rintro e w57 ⟨rfl, hb⟩; refine ⟨_, rfl, ?_⟩
          obtain ⟨BK466, BK467, BK468, BK482⟩ := zB4 BK466 BK467 BK468 BK482 hb; replace HB := zS HB hb
          (try clear hb)
          refine hK.out _ _ ⟨(blk_cell BK482.out 0).trans rfl, (blk_cell BK482.out 1).trans rfl, (blk_cell BK466.out 0).trans rfl, (blk_cell BK466.out 1).trans rfl, (blk_cell BK466.out 2).trans rfl, (blk_cell BK467.out 0).trans rfl, (blk_cell BK467.out 1).trans rfl, (blk_cell BK467.out 2).trans rfl⟩ (fun hHeld => ?_)
          clear hK K
          refine zW (some 50) ?_
          refine one_ (i := 7) (N := none) #[true, true, true, true, true, true, true, true, false] rfl rfl (one_of HT_.out (by kernel_rfl)) (by decide) (fun K hK => ?_)
          have hs58 : w57.cell? ⟨gb468, 0, none⟩ = some (.bool false) := (blk_cell BK468.out 0).trans rfl
          have hfs58 := blk_frozen BK468.out 0
          have hns58_0 := NB466_468.out
          have hns58_1 := NB467_468.out
          have hns58_3 := NB482_468.out
          have hms58_0 := NB468_466.out
          have hms58_1 := NB468_467.out
          have hms58_3 := NB468_482.out
          have hs59 : w57.cell? ⟨gb468, 1, none⟩ = some (.string (⟨#[]⟩ : ByteArray)) := (blk_cell BK468.out 1).trans rfl
          have hfs59 := blk_frozen BK468.out 1
          have hns59_0 := NB466_468.out
          have hns59_1 := NB467_468.out
          have hns59_3 := NB482_468.out
          have hms59_0 := NB468_466.out
          have hms59_1 := NB468_467.out
          have hms59_3 := NB468_482.out
          have hs60 : w57.cell? ⟨gb468, 2, none⟩ = some (.string (⟨#[]⟩ : ByteArray)) := (blk_cell BK468.out 2).trans rfl
          have hfs60 := blk_frozen BK468.out 2
          have hns60_0 := NB466_468.out
          have hns60_1 := NB467_468.out
          have hns60_3 := NB482_468.out
          have hms60_0 := NB468_466.out
          have hms60_1 := NB468_467.out
          have hms60_3 := NB468_482.out
          refine skip_ (w1 := ?_) (by rfl) rfl ?_ ?_
          rotate_left
          · go_simp
            rfl
          refine hK.out _ _ ⟨((cell_far (p := ⟨gb468, _, none⟩) NB482_468.out _).trans (((cell_far (p := ⟨gb468, _, none⟩) NB482_468.out _).trans (((cell_far (p := ⟨gb468, _, none⟩) NB482_468.out _).trans (hHeld.1)))))), ((cell_far (p := ⟨gb468, _, none⟩) NB482_468.out _).trans (((cell_far (p := ⟨gb468, _, none⟩) NB482_468.out _).trans (((cell_far (p := ⟨gb468, _, none⟩) NB482_468.out _).trans (hHeld.2.1)))))), ((cell_far (p := ⟨gb468, _, none⟩) NB466_468.out _).trans (((cell_far (p := ⟨gb468, _, none⟩) NB466_468.out _).trans (((cell_far (p := ⟨gb468, _, none⟩) NB466_468.out _).trans (hHeld.2.2.1)))))), ((cell_far (p := ⟨gb468, _, none⟩) NB466_468.out _).trans (((cell_far (p := ⟨gb468, _, none⟩) NB466_468.out _).trans (((cell_far (p := ⟨gb468, _, none⟩) NB466_468.out _).trans (hHeld.2.2.2.1)))))), ((cell_far (p := ⟨gb468, _, none⟩) NB466_468.out _).trans (((cell_far (p := ⟨gb468, _, none⟩) NB466_468.out _).trans (((cell_far (p := ⟨gb468, _, none⟩) NB466_468.out _).trans (hHeld.2.2.2.2.1)))))), ((cell_far (p := ⟨gb468, _, none⟩) NB467_468.out _).trans (((cell_far (p := ⟨gb468, _, none⟩) NB467_468.out _).trans (((cell_far (p := ⟨gb468, _, none⟩) NB467_468.out _).trans (hHeld.2.2.2.2.2.1)))))), ((cell_far (p := ⟨gb468, _, none⟩) NB467_468.out _).trans (((cell_far (p := ⟨gb468, _, none⟩) NB467_468.out _).trans (((cell_far (p := ⟨gb468, _, none⟩) NB467_468.out _).trans (hHeld.2.2.2.2.2.2.1)))))), ((cell_far (p := ⟨gb468, _, none⟩) NB467_468.out _).trans (((cell_far (p := ⟨gb468, _, none⟩) NB467_468.out _).trans (((cell_far (p := ⟨gb468, _, none⟩) NB467_468.out _).trans (hHeld.2.2.2.2.2.2.2))))))⟩ (fun hHeld => ?_)
          clear hK K
          refine zU (i := 8) (N := some 7) #[true, true, true, true, true, true, true, true, true] (any_of HT_.out (by kernel_rfl)) ?_
          refine done_ (done_of HT_.out (by kernel_rfl)) ?_
          try go_wp2
          refine bodyPost_ret (results_ct rfl _ _ gb468 27 #[.bool t489, .string t490, .string t491] (0, 0) _ rfl (by (with_reducible repeat (first | refine blk_drewN ?_ _ | refine blk_drew ?_ | refine blk_alloc ?_ _)); refine zP (cs := #[.bool t489, .string t490, .string (⟨#[]⟩ : ByteArray)]) ?_ 2 _; (with_reducible repeat (first | refine blk_drewN ?_ _ | refine blk_drew ?_ | refine blk_alloc ?_ _)); refine zP (cs := #[.bool t489, .string (⟨#[]⟩ : ByteArray), .string (⟨#[]⟩ : ByteArray)]) ?_ 1 _; (with_reducible repeat (first | refine blk_drewN ?_ _ | refine blk_drew ?_ | refine blk_alloc ?_ _)); refine zP (cs := #[.bool false, .string (⟨#[]⟩ : ByteArray), .string (⟨#[]⟩ : ByteArray)]) ?_ 0 _; (with_reducible repeat (first | refine blk_drewN ?_ _ | refine blk_drew ?_ | refine blk_alloc ?_ _)); exact BK468.out) Tryz.underlying27 rfl (by kernel_rfl)) rfl ?_
          exact ⟨by first | rfl | (simp [errW_none, errW_some] <;> rfl) | (simp [*, errW_none, errW_some] <;> rfl), zT HB⟩
  · rw [if_neg c4] at H
    have c4b0 : (t469 == 0) = false := beq_eq_false_iff_ne.mpr c4
    have c4b1 : (t469 != 0) = true := bne_iff_ne.mpr c4
    simp only [Option.some.injEq, Prod.mk.injEq] at H
    obtain ⟨rfl, rfl, rfl, rfl⟩ := H
    go_enter Tryz.func73, Tryz.ntmps73
    go_wp2_with (first | ((with_reducible refine gate_dst (N := 3) rfl ?_); refine zY 3 #[.bool a0_0, .string a0_1, .string a0_2] 27 ?_; intro gb466 hg w61 hbox hb; have BK466 := Aside0.mk (hbox); have GW466 := zG hg HB; have GE466 := zG hg HB; replace HB := zS HB hb; clear hb hbox hg) | ((with_reducible refine gate_dst (N := 4) rfl ?_); refine zY 4 #[.bool a1_0, .string a1_1, .string a1_2] 27 ?_; intro gb467 hg w62 hbox hb; have BK467 := Aside0.mk (hbox); have GW467 := zG hg HB; have GE467 := zG hg HB; obtain ⟨NB466_467, NB467_466⟩ := zQ hg BK466; replace BK466 := zB BK466 hb; replace HB := zS HB hb; clear hb hbox hg) | ((with_reducible refine gate_dst (N := 6) rfl ?_); refine zY 6 #[.bool false, .string (⟨#[]⟩ : ByteArray), .string (⟨#[]⟩ : ByteArray)] 27 ?_; intro gb468 hg w63 hbox hb; have BK468 := Aside0.mk (hbox); have GW468 := zG hg HB; have GE468 := zG hg HB; obtain ⟨NB466_468, NB468_466⟩ := zQ hg BK466; obtain ⟨NB467_468, NB468_467⟩ := zQ hg BK467; obtain ⟨BK466, BK467⟩ := zB2 BK466 BK467 hb; replace HB := zS HB hb; clear hb hbox hg; have hnb64 := NB466_467.out; have hnc64 := NB467_466.out; have hnb65 := NB466_468.out; have hnc65 := NB468_466.out; obtain ⟨hcz66_0, hcz66_1, hcz66_2, hfz66_0, hfz66_1, hfz66_2⟩ := z3 BK466; have hnb67 := NB467_468.out; have hnc67 := NB468_467.out; obtain ⟨hcz68_0, hcz68_1, hcz68_2, hfz68_0, hfz68_1, hfz68_2⟩ := z3 BK467) | ((with_reducible refine gate_callee (f := 72) rfl ?_); refine zC Tryz.func72 (by kernel_rfl) #[.agg #[.bool a0_0, .string a0_1, .string a0_2], .agg #[.bool a1_0, .string a1_1, .string a1_2]] ?_; (with_reducible refine (rat_both.calls k a0_0 a0_1 a0_2 a1_0 a1_1 a1_2 t469 _ A3.out).mono ?_); rintro e w69 ⟨rfl, hb⟩; refine ⟨_, rfl, ?_⟩; obtain ⟨BK466, BK467, BK468⟩ := zB3 BK466 BK467 BK468 hb; replace HB := zS HB hb; (try clear hb); obtain ⟨hcz70_0, hcz70_1, hcz70_2, hfz70_0, hfz70_1, hfz70_2⟩ := z3 BK468))
    refine bodyPost_ret (results_ct rfl _ _ gb468 27 #[.bool false, .string (⟨#[]⟩ : ByteArray), .string (⟨#[]⟩ : ByteArray)] (0, 0) _ rfl (by (with_reducible repeat (first | refine blk_drewN ?_ _ | refine blk_drew ?_ | refine blk_alloc ?_ _)); refine zP (cs := #[.bool false, .string (⟨#[]⟩ : ByteArray), .string (⟨#[]⟩ : ByteArray)]) ?_ 2 _; (with_reducible repeat (first | refine blk_drewN ?_ _ | refine blk_drew ?_ | refine blk_alloc ?_ _)); refine zP (cs := #[.bool false, .string (⟨#[]⟩ : ByteArray), .string (⟨#[]⟩ : ByteArray)]) ?_ 1 _; (with_reducible repeat (first | refine blk_drewN ?_ _ | refine blk_drew ?_ | refine blk_alloc ?_ _)); refine zP (cs := #[.bool false, .string (⟨#[]⟩ : ByteArray), .string (⟨#[]⟩ : ByteArray)]) ?_ 0 _; (with_reducible repeat (first | refine blk_drewN ?_ _ | refine blk_drew ?_ | refine blk_alloc ?_ _)); exact BK468.out) Tryz.underlying27 rfl (by kernel_rfl)) rfl ?_
    exact ⟨by first | rfl | (simp [errW_none, errW_some] <;> rfl) | (simp [*, errW_none, errW_some] <;> rfl), zT HB⟩

end Go.Proofs.YtoijlbcbbblbfaaGreatDoorH.R

namespace Go.Proofs.YtoijlbcbbblbfaaGreatDoorH.R
open Go.RowKit Go.Proofs.YtoijlbcbbblbfaaGreatDoorH.Z Go.Proofs.YtoijlbcbbblbfaaGreatDoorW.PrintWords Go.Proofs.YtoijlbcbbblbfaaGreatDoorW.PrintLast Go.Proofs.YtoijlbcbbblbfaaGreatDoorW.PrintMore
set_option linter.unusedVariables false
set_option linter.unusedSimpArgs false
def rat_over_of_whole_Add.f (k : Nat) (a0_0 : Bool) (a0_1 : ByteArray) (a0_2 : ByteArray) (a1_0 : Bool) (a1_1 : ByteArray) (a1_2 : ByteArray) : Option (Bool × ByteArray × ByteArray × Int) := rat_over_gen.f rat_do_of_whole_Add.f k a0_0 a0_1 a0_2 a1_0 a1_1 a1_2
theorem rat_over_of_whole_Add.calls (k : Nat) (a0_0 : Bool) (a0_1 : ByteArray) (a0_2 : ByteArray) (a1_0 : Bool) (a1_1 : ByteArray) (a1_2 : ByteArray) (r1 : Bool) (r2 : ByteArray) (r3 : ByteArray) (r4 : Int) (w : World) (h : rat_over_of_whole_Add.f k a0_0 a0_1 a0_2 a1_0 a1_1 a1_2 = some (r1, r2, r3, r4)) :
    Calls Tryz.prog 73 #[.agg #[.bool a0_0, .string a0_1, .string a0_2], .agg #[.bool a1_0, .string a1_1, .string a1_2], .func (.func 74) #[] #[]] w fun e w' => e = .returned (.tuple #[.agg #[.bool r1, .string r2, .string r3], .int .i64 r4]) ∧ Below w.heap.size w w' :=
  rat_over_gen.calls 74 _ ⟨fun n s m t r1 r2 w h => rat_do_of_whole_Add.calls n s m t r1 r2 w h⟩ k _ _ _ _ _ _ _ _ _ _ w h
end Go.Proofs.YtoijlbcbbblbfaaGreatDoorH.R

-- printed by hp.py
namespace Go.Proofs.YtoijlbcbbblbfaaGreatDoorH.R
open Go.RowKit Go.Proofs.YtoijlbcbbblbfaaGreatDoorH.Z Go.Proofs.YtoijlbcbbblbfaaGreatDoorW.PrintWords Go.Proofs.YtoijlbcbbblbfaaGreatDoorW.PrintLast Go.Proofs.YtoijlbcbbblbfaaGreatDoorW.PrintMore
attribute [local go_sem] max2_int min2_int max_two min_two max_three min_three max_four min_four   -- for this text's walks alone
set_option linter.unusedVariables false
set_option linter.unusedSimpArgs false

/-! ### rat_Add: function 34 -/
def rat_Add.f (k : Nat) (a0_0 : Bool) (a0_1 : ByteArray) (a0_2 : ByteArray) (a1_0 : Bool) (a1_1 : ByteArray) (a1_2 : ByteArray) : Option (Bool × ByteArray × ByteArray × Int) := (rat_over_of_whole_Add.f k a0_0 a0_1 a0_2 a1_0 a1_1 a1_2).bind fun bt495 => (some (bt495.1, bt495.2.1, bt495.2.2.1, bt495.2.2.2))
set_option maxHeartbeats 8000000 in
set_option maxRecDepth 100000 in
theorem rat_Add.calls (k : Nat) (a0_0 : Bool) (a0_1 : ByteArray) (a0_2 : ByteArray) (a1_0 : Bool) (a1_1 : ByteArray) (a1_2 : ByteArray) (r1 : Bool) (r2 : ByteArray) (r3 : ByteArray) (r4 : Int) (w : World) (h : rat_Add.f k a0_0 a0_1 a0_2 a1_0 a1_1 a1_2 = some (r1, r2, r3, r4)) :
    Calls Tryz.prog 34 #[.agg #[.bool a0_0, .string a0_1, .string a0_2], .agg #[.bool a1_0, .string a1_1, .string a1_2]] w fun e w' => e = .returned (.tuple #[.agg #[.bool r1, .string r2, .string r3], .int .i64 r4]) ∧ Below w.heap.size w w' := by
  have hu27 := Tryz.underlying27
  have HB := Aside0.mk (Below.refl w.heap.size w)
  have H : ((rat_over_of_whole_Add.f k a0_0 a0_1 a0_2 a1_0 a1_1 a1_2).bind fun bt495 => (some (bt495.1, bt495.2.1, bt495.2.2.1, bt495.2.2.2))) = some (r1, r2, r3, r4) := h
  clear h
  replace H := Option.bind_eq_some_iff.mp H
  obtain ⟨⟨t495, t496, t497, t498⟩, A30, H⟩ := H
  replace H : (some (t495, t496, t497, t498)) = some (r1, r2, r3, r4) := H
  have A3 := Aside0.mk A30
  clear A30
  simp only [Option.some.injEq, Prod.mk.injEq] at H
  obtain ⟨rfl, rfl, rfl, rfl⟩ := H
  go_enter Tryz.func34, Tryz.ntmps34
  go_wp2_with (first | ((with_reducible refine gate_dst (N := 2) rfl ?_); refine zY 2 #[.bool a0_0, .string a0_1, .string a0_2] 27 ?_; intro gb492 hg w4 hbox hb; have BK492 := Aside0.mk (hbox); have GW492 := zG hg HB; have GE492 := zG hg HB; replace HB := zS HB hb; clear hb hbox hg) | ((with_reducible refine gate_dst (N := 3) rfl ?_); refine zY 3 #[.bool a1_0, .string a1_1, .string a1_2] 27 ?_; intro gb493 hg w5 hbox hb; have BK493 := Aside0.mk (hbox); have GW493 := zG hg HB; have GE493 := zG hg HB; obtain ⟨NB492_493, NB493_492⟩ := zQ hg BK492; replace BK492 := zB BK492 hb; replace HB := zS HB hb; clear hb hbox hg) | ((with_reducible refine gate_dst (N := 4) rfl ?_); refine zY 4 #[.bool false, .string (⟨#[]⟩ : ByteArray), .string (⟨#[]⟩ : ByteArray)] 27 ?_; intro gb494 hg w6 hbox hb; have BK494 := Aside0.mk (hbox); have GW494 := zG hg HB; have GE494 := zG hg HB; obtain ⟨NB492_494, NB494_492⟩ := zQ hg BK492; obtain ⟨NB493_494, NB494_493⟩ := zQ hg BK493; obtain ⟨BK492, BK493⟩ := zB2 BK492 BK493 hb; replace HB := zS HB hb; clear hb hbox hg; have hnb7 := NB492_493.out; have hnc7 := NB493_492.out; have hnb8 := NB492_494.out; have hnc8 := NB494_492.out; obtain ⟨hcz9_0, hcz9_1, hcz9_2, hfz9_0, hfz9_1, hfz9_2⟩ := z3 BK492; have hnb10 := NB493_494.out; have hnc10 := NB494_493.out; obtain ⟨hcz11_0, hcz11_1, hcz11_2, hfz11_0, hfz11_1, hfz11_2⟩ := z3 BK493) | ((with_reducible refine gate_callee (f := 73) rfl ?_); refine zC Tryz.func73 (by kernel_rfl) #[.agg #[.bool a0_0, .string a0_1, .string a0_2], .agg #[.bool a1_0, .string a1_1, .string a1_2], .func (.func 74) #[] #[]] ?_; (with_reducible refine (rat_over_of_whole_Add.calls k a0_0 a0_1 a0_2 a1_0 a1_1 a1_2 t495 t496 t497 t498 _ A3.out).mono ?_); rintro e w12 ⟨rfl, hb⟩; refine ⟨_, rfl, ?_⟩; obtain ⟨BK492, BK493, BK494⟩ := zB3 BK492 BK493 BK494 hb; replace HB := zS HB hb; (try clear hb); obtain ⟨hcz13_0, hcz13_1, hcz13_2, hfz13_0, hfz13_1, hfz13_2⟩ := z3 BK494))
  refine bodyPost_ret (results_ct rfl _ _ gb494 27 #[.bool t495, .string t496, .string t497] (0, 0) _ rfl (by (with_reducible repeat (first | refine blk_drewN ?_ _ | refine blk_drew ?_ | refine blk_alloc ?_ _)); refine zP (cs := #[.bool t495, .string t496, .string (⟨#[]⟩ : ByteArray)]) ?_ 2 _; (with_reducible repeat (first | refine blk_drewN ?_ _ | refine blk_drew ?_ | refine blk_alloc ?_ _)); refine zP (cs := #[.bool t495, .string (⟨#[]⟩ : ByteArray), .string (⟨#[]⟩ : ByteArray)]) ?_ 1 _; (with_reducible repeat (first | refine blk_drewN ?_ _ | refine blk_drew ?_ | refine blk_alloc ?_ _)); refine zP (cs := #[.bool false, .string (⟨#[]⟩ : ByteArray), .string (⟨#[]⟩ : ByteArray)]) ?_ 0 _; (with_reducible repeat (first | refine blk_drewN ?_ _ | refine blk_drew ?_ | refine blk_alloc ?_ _)); exact BK494.out) Tryz.underlying27 rfl (by kernel_rfl)) rfl ?_
  exact ⟨by first | rfl | (simp [errW_none, errW_some] <;> rfl) | (simp [*, errW_none, errW_some] <;> rfl), zT HB⟩

end Go.Proofs.YtoijlbcbbblbfaaGreatDoorH.R

-- printed by hp.py
namespace Go.Proofs.YtoijlbcbbblbfaaGreatDoorH.R
open Go.RowKit Go.Proofs.YtoijlbcbbblbfaaGreatDoorH.Z Go.Proofs.YtoijlbcbbblbfaaGreatDoorW.PrintWords Go.Proofs.YtoijlbcbbblbfaaGreatDoorW.PrintLast Go.Proofs.YtoijlbcbbblbfaaGreatDoorW.PrintMore
attribute [local go_sem] max2_int min2_int max_two min_two max_three min_three max_four min_four   -- for this text's walks alone
set_option linter.unusedVariables false
set_option linter.unusedSimpArgs false

/-! ### whole_Sub: function 76 -/
open Go.Proofs.YtoijlbcbbblbfaaGreatDoor Go.Proofs.YtoijlbcbbblbfaaGreatDoor.Num in
def whole_Sub.f (a0_0 : Bool) (a0_1 : ByteArray) (a1_0 : Bool) (a1_1 : ByteArray) : Option (Bool × ByteArray × Int) := if a0_1.size ≤ 15000 ∧ a1_1.size ≤ 15000 then some ((binF (· - ·) (a0_0, a0_1) (a1_0, a1_1)).1.1, (binF (· - ·) (a0_0, a0_1) (a1_0, a1_1)).1.2, (binF (· - ·) (a0_0, a0_1) (a1_0, a1_1)).2) else none
open Go.Proofs.YtoijlbcbbblbfaaGreatDoor Go.Proofs.YtoijlbcbbblbfaaGreatDoor.Num in
theorem whole_Sub.calls (a0_0 : Bool) (a0_1 : ByteArray) (a1_0 : Bool) (a1_1 : ByteArray) (r1 : Bool) (r2 : ByteArray) (r3 : Int) (w : World) (h : whole_Sub.f a0_0 a0_1 a1_0 a1_1 = some (r1, r2, r3)) :
    Calls Tryz.prog 76 #[.agg #[.bool a0_0, .string a0_1], .agg #[.bool a1_0, .string a1_1]] w fun e w' => e = .returned (.tuple #[.agg #[.bool r1, .string r2], .int .i64 r3]) ∧ Below w.heap.size w w' := by
  unfold whole_Sub.f at h
  split at h
  · rename_i hc
    simp only [Option.some.injEq, Prod.mk.injEq] at h
    obtain ⟨rfl, rfl, rfl⟩ := h
    exact (sub_f (a0_0, a0_1) (a1_0, a1_1) hc.1 hc.2).out w
  · exact absurd h (by simp)


end Go.Proofs.YtoijlbcbbblbfaaGreatDoorH.R

-- printed by hp.py
namespace Go.Proofs.YtoijlbcbbblbfaaGreatDoorH.R
open Go.RowKit Go.Proofs.YtoijlbcbbblbfaaGreatDoorH.Z Go.Proofs.YtoijlbcbbblbfaaGreatDoorW.PrintWords Go.Proofs.YtoijlbcbbblbfaaGreatDoorW.PrintLast Go.Proofs.YtoijlbcbbblbfaaGreatDoorW.PrintMore
attribute [local go_sem] max2_int min2_int max_two min_two max_three min_three max_four min_four   -- for this text's walks alone
set_option linter.unusedVariables false
set_option linter.unusedSimpArgs false

/-! ### rat_do_of_whole_Sub: function 9000003 -/
open Go.Proofs.YtoijlbcbbblbfaaGreatDoor Go.Proofs.YtoijlbcbbblbfaaGreatDoor.Num in
def rat_do_of_whole_Sub.f (a0_0 : Bool) (a0_1 : ByteArray) (a1_0 : Bool) (a1_1 : ByteArray) : Option (Bool × ByteArray) := (whole_Sub.f a0_0 a0_1 a1_0 a1_1).map fun r => (r.1, r.2.1)
open Go.Proofs.YtoijlbcbbblbfaaGreatDoor Go.Proofs.YtoijlbcbbblbfaaGreatDoor.Num in
theorem rat_do_of_whole_Sub.calls (a0_0 : Bool) (a0_1 : ByteArray) (a1_0 : Bool) (a1_1 : ByteArray) (r1 : Bool) (r2 : ByteArray) (w : World) (h : rat_do_of_whole_Sub.f a0_0 a0_1 a1_0 a1_1 = some (r1, r2)) :
    Calls Tryz.prog 57 #[.func (.func 76) #[] #[], .agg #[.bool a0_0, .string a0_1], .agg #[.bool a1_0, .string a1_1]] w fun e w' => e = .returned (.agg #[.bool r1, .string r2]) ∧ Below w.heap.size w w' := by
  unfold rat_do_of_whole_Sub.f at h
  obtain ⟨⟨x1, x2, x3⟩, hx, he⟩ := Option.map_eq_some_iff.1 h
  simp only [Prod.mk.injEq] at he
  obtain ⟨rfl, rfl⟩ := he
  exact do_Sub _ _ _ _ _ _ _ (Lib.hid fun w => whole_Sub.calls _ _ _ _ _ _ _ w hx) w


end Go.Proofs.YtoijlbcbbblbfaaGreatDoorH.R

namespace Go.Proofs.YtoijlbcbbblbfaaGreatDoorH.R
open Go.RowKit Go.Proofs.YtoijlbcbbblbfaaGreatDoorH.Z Go.Proofs.YtoijlbcbbblbfaaGreatDoorW.PrintWords Go.Proofs.YtoijlbcbbblbfaaGreatDoorW.PrintLast Go.Proofs.YtoijlbcbbblbfaaGreatDoorW.PrintMore
set_option linter.unusedVariables false
set_option linter.unusedSimpArgs false
def rat_over_of_whole_Sub.f (k : Nat) (a0_0 : Bool) (a0_1 : ByteArray) (a0_2 : ByteArray) (a1_0 : Bool) (a1_1 : ByteArray) (a1_2 : ByteArray) : Option (Bool × ByteArray × ByteArray × Int) := rat_over_gen.f rat_do_of_whole_Sub.f k a0_0 a0_1 a0_2 a1_0 a1_1 a1_2
theorem rat_over_of_whole_Sub.calls (k : Nat) (a0_0 : Bool) (a0_1 : ByteArray) (a0_2 : ByteArray) (a1_0 : Bool) (a1_1 : ByteArray) (a1_2 : ByteArray) (r1 : Bool) (r2 : ByteArray) (r3 : ByteArray) (r4 : Int) (w : World) (h : rat_over_of_whole_Sub.f k a0_0 a0_1 a0_2 a1_0 a1_1 a1_2 = some (r1, r2, r3, r4)) :
    Calls Tryz.prog 73 #[.agg #[.bool a0_0, .string a0_1, .string a0_2], .agg #[.bool a1_0, .string a1_1, .string a1_2], .func (.func 76) #[] #[]] w fun e w' => e = .returned (.tuple #[.agg #[.bool r1, .string r2, .string r3], .int .i64 r4]) ∧ Below w.heap.size w w' :=
  rat_over_gen.calls 76 _ ⟨fun n s m t r1 r2 w h => rat_do_of_whole_Sub.calls n s m t r1 r2 w h⟩ k _ _ _ _ _ _ _ _ _ _ w h
end Go.Proofs.YtoijlbcbbblbfaaGreatDoorH.R
