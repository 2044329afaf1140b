import Derived.Test.YtoijlbcbbblbfaaGreatDoorZG0x0
-- printed by hp.py
namespace Go.Proofs.YtoijlbcbbblbfaaGreatDoorH.R
open Go.RowKit Go.Proofs.YtoijlbcbbblbfaaGreatDoorH.Z Go.Proofs.YtoijlbcbbblbfaaGreatDoorW.PrintWords Go.Proofs.YtoijlbcbbblbfaaGreatDoorW.PrintLast Go.Proofs.YtoijlbcbbblbfaaGreatDoorW.PrintMore
attribute [local go_sem] max2_int min2_int max_two min_two max_three min_three max_four min_four   -- for this text's walks alone
set_option linter.unusedVariables false
set_option linter.unusedSimpArgs false

/-! ### rat_Mul: function 28 -/
def rat_Mul.f (k : Nat) (a0_0 : Bool) (a0_1 : ByteArray) (a0_2 : ByteArray) (a1_0 : Bool) (a1_1 : ByteArray) (a1_2 : ByteArray) : Option (Bool × ByteArray × ByteArray × Int) := (rat_both.f k a0_0 a0_1 a0_2 a1_0 a1_1 a1_2).bind fun t400 => (if t400 = 0 then ((rat_do_of_whole_Mul.f a0_0 a0_1 a1_0 a1_1).bind fun bt401 => ((rat_den.f a0_0 a0_1 a0_2).bind fun bt403 => ((rat_den.f a1_0 a1_1 a1_2).bind fun bt405 => ((rat_do_of_whole_Mul.f bt403.1 bt403.2 bt405.1 bt405.2).bind fun bt407 => ((rat_lowest.f k bt401.1 bt401.2 bt407.1 bt407.2).bind fun bt409 => (some (bt409.1, bt409.2.1, bt409.2.2, 0))))))) else (some (false, (⟨#[]⟩ : ByteArray), (⟨#[]⟩ : ByteArray), t400)))
def rat_Mul.T4 : Bool × List (List Nat × List Nat) := (true, [([], []), ([0], [0]), ([], []), ([2], [2]), ([1, 3], [1, 3]), ([], []), ([5, 4], [5]), ([], []), ([7, 6], [7]), ([6, 8, 8], [6, 8]), ([4, 9, 9], [4, 9]), ([10, 10, 0, 1, 2, 3, 4, 5, 6, 7, 8, 9, 10], [10]), ([11, 0, 1, 2, 3, 4, 5, 6, 7, 8, 9, 10, 11], [])])
def rat_Mul.B4 : List Nat := [0, 1, 0, 4, 15, 0, 63, 0, 255, 511, 1023, 2047, 4095]
theorem rat_Mul.tab4 : rtab .any (opsOf Tryz.f28 4) = rat_Mul.T4 := by kernel_rfl
theorem rat_Mul.bits4 : waitsOk rat_Mul.T4.2 rat_Mul.B4 = true := by kernel_rfl
set_option maxHeartbeats 8000000 in
set_option maxRecDepth 100000 in
theorem rat_Mul.calls (k : Nat) (a0_0 : Bool) (a0_1 : ByteArray) (a0_2 : ByteArray) (a1_0 : Bool) (a1_1 : ByteArray) (a1_2 : ByteArray) (r1 : Bool) (r2 : ByteArray) (r3 : ByteArray) (r4 : Int) (w : World) (h : rat_Mul.f k a0_0 a0_1 a0_2 a1_0 a1_1 a1_2 = some (r1, r2, r3, r4)) :
    Calls Tryz.prog 28 #[.agg #[.bool a0_0, .string a0_1, .string a0_2], .agg #[.bool a1_0, .string a1_1, .string a1_2]] w fun e w' => e = .returned (.tuple #[.agg #[.bool r1, .string r2, .string r3], .int .i64 r4]) ∧ Below w.heap.size w w' := by
  have hu27 := Tryz.underlying27
  have hu24 := Tryz.underlying24; have hf0 := zf240; have hf1 := zf241; have hf2 := zf270; have hf3 := zf271
  have HB := Aside0.mk (Below.refl w.heap.size w)
  have H : ((rat_both.f k a0_0 a0_1 a0_2 a1_0 a1_1 a1_2).bind fun t400 => (if t400 = 0 then ((rat_do_of_whole_Mul.f a0_0 a0_1 a1_0 a1_1).bind fun bt401 => ((rat_den.f a0_0 a0_1 a0_2).bind fun bt403 => ((rat_den.f a1_0 a1_1 a1_2).bind fun bt405 => ((rat_do_of_whole_Mul.f bt403.1 bt403.2 bt405.1 bt405.2).bind fun bt407 => ((rat_lowest.f k bt401.1 bt401.2 bt407.1 bt407.2).bind fun bt409 => (some (bt409.1, bt409.2.1, bt409.2.2, 0))))))) else (some (false, (⟨#[]⟩ : ByteArray), (⟨#[]⟩ : ByteArray), t400)))) = some (r1, r2, r3, r4) := h
  clear h
  replace H := Option.bind_eq_some_iff.mp H
  obtain ⟨t400, A30, H⟩ := H
  replace H : (if t400 = 0 then ((rat_do_of_whole_Mul.f a0_0 a0_1 a1_0 a1_1).bind fun bt401 => ((rat_den.f a0_0 a0_1 a0_2).bind fun bt403 => ((rat_den.f a1_0 a1_1 a1_2).bind fun bt405 => ((rat_do_of_whole_Mul.f bt403.1 bt403.2 bt405.1 bt405.2).bind fun bt407 => ((rat_lowest.f k bt401.1 bt401.2 bt407.1 bt407.2).bind fun bt409 => (some (bt409.1, bt409.2.1, bt409.2.2, 0))))))) else (some (false, (⟨#[]⟩ : ByteArray), (⟨#[]⟩ : ByteArray), t400))) = some (r1, r2, r3, r4) := H
  have A3 := Aside0.mk A30
  clear A30
  by_cases c4 : t400 = 0
  · rw [if_pos c4] at H
    have c4b0 : (t400 == 0) = true := beq_iff_eq.mpr c4
    have c4b1 : (t400 != 0) = false := bne_eq_false_iff_eq.mpr c4
    clear c4
    replace H := Option.bind_eq_some_iff.mp H
    obtain ⟨⟨t401, t402⟩, A50, H⟩ := H
    replace H : ((rat_den.f a0_0 a0_1 a0_2).bind fun bt403 => ((rat_den.f a1_0 a1_1 a1_2).bind fun bt405 => ((rat_do_of_whole_Mul.f bt403.1 bt403.2 bt405.1 bt405.2).bind fun bt407 => ((rat_lowest.f k t401 t402 bt407.1 bt407.2).bind fun bt409 => (some (bt409.1, bt409.2.1, bt409.2.2, 0)))))) = some (r1, r2, r3, r4) := H
    have A5 := Aside0.mk A50
    clear A50
    replace H := Option.bind_eq_some_iff.mp H
    obtain ⟨⟨t403, t404⟩, A60, H⟩ := H
    replace H : ((rat_den.f a1_0 a1_1 a1_2).bind fun bt405 => ((rat_do_of_whole_Mul.f t403 t404 bt405.1 bt405.2).bind fun bt407 => ((rat_lowest.f k t401 t402 bt407.1 bt407.2).bind fun bt409 => (some (bt409.1, bt409.2.1, bt409.2.2, 0))))) = some (r1, r2, r3, r4) := H
    have A6 := Aside0.mk A60
    clear A60
    replace H := Option.bind_eq_some_iff.mp H
    obtain ⟨⟨t405, t406⟩, A70, H⟩ := H
    replace H : ((rat_do_of_whole_Mul.f t403 t404 t405 t406).bind fun bt407 => ((rat_lowest.f k t401 t402 bt407.1 bt407.2).bind fun bt409 => (some (bt409.1, bt409.2.1, bt409.2.2, 0)))) = some (r1, r2, r3, r4) := H
    have A7 := Aside0.mk A70
    clear A70
    replace H := Option.bind_eq_some_iff.mp H
    obtain ⟨⟨t407, t408⟩, A80, H⟩ := H
    replace H : ((rat_lowest.f k t401 t402 t407 t408).bind fun bt409 => (some (bt409.1, bt409.2.1, bt409.2.2, 0))) = some (r1, r2, r3, r4) := H
    have A8 := Aside0.mk A80
    clear A80
    replace H := Option.bind_eq_some_iff.mp H
    obtain ⟨⟨t409, t410, t411⟩, A90, H⟩ := H
    replace H : (some (t409, t410, t411, 0)) = some (r1, r2, r3, r4) := H
    have A9 := Aside0.mk A90
    clear A90
    simp only [Option.some.injEq, Prod.mk.injEq] at H
    obtain ⟨rfl, rfl, rfl, rfl⟩ := H
    go_enter Tryz.func28, Tryz.ntmps28
    try go_wp2_with (first | ((with_reducible refine gate_dst (N := 2) rfl ?_); refine box_event ?hg (N := 2) ?hd (cs := #[.bool a0_0, .string a0_1, .string a0_2]) (t := 27) ?hr ?_; (case hd => rfl); (case hg => rfl); (case hr => first | (go_simp; done) | (go_simp; rfl)); intro gb397 hg w10 hbox hb; have BK397 := Aside0.mk (hbox); have GW397 := zG hg HB; have GE397 := zG hg HB; replace HB := zS HB hb; clear hb hbox hg) | ((with_reducible refine gate_dst (N := 3) rfl ?_); refine box_event ?hg (N := 3) ?hd (cs := #[.bool a1_0, .string a1_1, .string a1_2]) (t := 27) ?hr ?_; (case hd => rfl); (case hg => rfl); (case hr => first | (go_simp; done) | (go_simp; rfl)); intro gb398 hg w11 hbox hb; have BK398 := Aside0.mk (hbox); have GW398 := zG hg HB; have GE398 := zG hg HB; have NB397_398 := zN hg BK397; have NB398_397 := zM hg BK397; replace BK397 := zB BK397 hb; replace HB := zS HB hb; clear hb hbox hg) | ((with_reducible refine gate_dst (N := 4) rfl ?_); refine box_event ?hg (N := 4) ?hd (cs := #[.bool false, .string (⟨#[]⟩ : ByteArray), .string (⟨#[]⟩ : ByteArray)]) (t := 27) ?hr ?_; (case hd => rfl); (case hg => rfl); (case hr => first | (go_simp; done) | (go_simp; rfl)); intro gb399 hg w12 hbox hb; have BK399 := Aside0.mk (hbox); have GW399 := zG hg HB; have GE399 := zG hg HB; have NB397_399 := zN hg BK397; have NB399_397 := zM hg BK397; have NB398_399 := zN hg BK398; have NB399_398 := zM hg BK398; replace BK397 := zB BK397 hb; replace BK398 := zB BK398 hb; replace HB := zS HB hb; clear hb hbox hg; have hnb13 := NB397_398.out; have hnc13 := NB398_397.out; have hnb14 := NB397_399.out; have hnc14 := NB399_397.out; obtain ⟨hcz15_0, hcz15_1, hcz15_2, hfz15_0, hfz15_1, hfz15_2⟩ := z3 BK397; have hnb16 := NB398_399.out; have hnc16 := NB399_398.out; obtain ⟨hcz17_0, hcz17_1, hcz17_2, hfz17_0, hfz17_1, hfz17_2⟩ := z3 BK398) | ((with_reducible refine gate_callee (f := 72) rfl ?_); refine zC Tryz.func72 (by kernel_rfl) #[.agg #[.bool a0_0, .string a0_1, .string a0_2], .agg #[.bool a1_0, .string a1_1, .string a1_2]] ?_; (with_reducible refine (rat_both.calls k a0_0 a0_1 a0_2 a1_0 a1_1 a1_2 t400 _ A3.out).mono ?_); rintro e w18 ⟨rfl, hb⟩; refine ⟨_, rfl, ?_⟩; replace BK397 := zB BK397 hb; replace BK398 := zB BK398 hb; replace BK399 := zB BK399 hb; replace HB := zS HB hb; (try clear hb)))
    replace BK397 := zD BK397; replace BK398 := zD BK398; replace BK399 := zD BK399; replace HB := zF HB
    refine start_ (n := 13) (S := fun w' => w'.cell? ⟨gb397, 0, none⟩ = some (.bool a0_0) ∧ w'.cell? ⟨gb397, 1, none⟩ = some (.string a0_1) ∧ w'.cell? ⟨gb397, 2, none⟩ = some (.string a0_2) ∧ w'.cell? ⟨gb398, 0, none⟩ = some (.bool a1_0) ∧ w'.cell? ⟨gb398, 1, none⟩ = some (.string a1_1) ∧ w'.cell? ⟨gb398, 2, none⟩ = some (.string a1_2)) (ds := []) #[false, false, false, false, false, false, false, false, false, false, false, false, false] (by kernel_rfl) rfl rfl ⟨(blk_cell BK397.out 0).trans rfl, (blk_cell BK397.out 1).trans rfl, (blk_cell BK397.out 2).trans rfl, (blk_cell BK398.out 0).trans rfl, (blk_cell BK398.out 1).trans rfl, (blk_cell BK398.out 2).trans rfl⟩ (fun hHeld => ?_); refine with_tabW rat_Mul.tab4 rat_Mul.bits4 (fun HT_ HW_ => ?_)
    generalize w18.drew = w19 at BK397 BK398 BK399 HB hHeld ⊢
    refine zU (i := 0) (N := some 14) #[true, false, false, false, false, false, false, false, false, false, false, false, false] (any_of HT_.out (by kernel_rfl)) ?_
    refine zU (i := 2) (N := some 16) #[true, false, true, false, false, false, false, false, false, false, false, false, false] (any_of HT_.out (by kernel_rfl)) ?_
    refine zV (i := 1) (N := some 15) #[true, true, true, false, false, false, false, false, false, false, false, false, false] (take_ofW HT_.out HW_.out (by kernel_rfl)) hHeld ?_
    refine zV (i := 3) (N := some 17) #[true, true, true, true, false, false, false, false, false, false, false, false, false] (take_ofW HT_.out HW_.out (by kernel_rfl)) hHeld ?_
    refine zV (i := 5) (N := some 19) #[true, true, true, true, false, true, false, false, false, false, false, false, false] (take_ofW HT_.out HW_.out (by kernel_rfl)) hHeld ?_
    refine zV (i := 7) (N := some 21) #[true, true, true, true, false, true, false, true, false, false, false, false, false] (take_ofW HT_.out HW_.out (by kernel_rfl)) hHeld ?_
    refine one_ (i := 4) (N := some 18) #[true, true, true, true, true, true, false, true, false, false, false, false, false] rfl rfl (one_of HT_.out (by kernel_rfl)) (by decide) (fun K hK => ?_)
    refine zX Tryz.func57 (by kernel_rfl) #[.func (.func 58) #[] #[], .agg #[.bool a0_0, .string a0_1], .agg #[.bool a1_0, .string a1_1]] ?_
    with_reducible refine (rat_do_of_whole_Mul.calls a0_0 a0_1 a1_0 a1_1 t401 t402 _ A5.out).mono ?_
    rintro e w20 ⟨rfl, hb⟩; refine ⟨_, rfl, ?_⟩
    replace BK397 := zB BK397 hb; replace BK398 := zB BK398 hb; replace BK399 := zB BK399 hb; replace HB := zS HB hb
    (try clear hb)
    refine hK.out _ _ ⟨(blk_cell BK397.out 0).trans rfl, (blk_cell BK397.out 1).trans rfl, (blk_cell BK397.out 2).trans rfl, (blk_cell BK398.out 0).trans rfl, (blk_cell BK398.out 1).trans rfl, (blk_cell BK398.out 2).trans rfl⟩ (fun hHeld => ?_)
    clear hK K
    refine zW (some 18) ?_
    refine one_ (i := 6) (N := some 20) #[true, true, true, true, true, true, true, true, false, false, false, false, false] rfl rfl (one_of HT_.out (by kernel_rfl)) (by decide) (fun K hK => ?_)
    refine zX Tryz.func60 (by kernel_rfl) #[.agg #[.bool a0_0, .string a0_1, .string a0_2]] ?_
    with_reducible refine (rat_den.calls a0_0 a0_1 a0_2 t403 t404 _ A6.out).mono ?_
    rintro e w21 ⟨rfl, hb⟩; refine ⟨_, rfl, ?_⟩
    replace BK397 := zB BK397 hb; replace BK398 := zB BK398 hb; replace BK399 := zB BK399 hb; replace HB := zS HB hb
    (try clear hb)
    refine hK.out _ _ ⟨(blk_cell BK397.out 0).trans rfl, (blk_cell BK397.out 1).trans rfl, (blk_cell BK397.out 2).trans rfl, (blk_cell BK398.out 0).trans rfl, (blk_cell BK398.out 1).trans rfl, (blk_cell BK398.out 2).trans rfl⟩ (fun hHeld => ?_)
    clear hK K
    refine zW (some 20) ?_
    refine one_ (i := 8) (N := some 22) #[true, true, true, true, true, true, true, true, true, false, false, false, false] rfl rfl (one_of HT_.out (by kernel_rfl)) (by decide) (fun K hK => ?_)
    refine zX Tryz.func60 (by kernel_rfl) #[.agg #[.bool a1_0, .string a1_1, .string a1_2]] ?_
    with_reducible refine (rat_den.calls a1_0 a1_1 a1_2 t405 t406 _ A7.out).mono ?_
    rintro e w22 ⟨rfl, hb⟩; refine ⟨_, rfl, ?_⟩
    replace BK397 := zB BK397 hb; replace BK398 := zB BK398 hb; replace BK399 := zB BK399 hb; replace HB := zS HB hb
    (try clear hb)
    refine hK.out _ _ ⟨(blk_cell BK397.out 0).trans rfl, (blk_cell BK397.out 1).trans rfl, (blk_cell BK397.out 2).trans rfl, (blk_cell BK398.out 0).trans rfl, (blk_cell BK398.out 1).trans rfl, (blk_cell BK398.out 2).trans rfl⟩ (fun hHeld => ?_)
    clear hK K
    refine zW (some 22) ?_
    refine one_ (i := 9) (N := some 23) #[true, true, true, true, true, true, true, true, true, true, false, false, false] rfl rfl (one_of HT_.out (by kernel_rfl)) (by decide) (fun K hK => ?_)
    refine zX Tryz.func57 (by kernel_rfl) #[.func (.func 58) #[] #[], .agg #[.bool t403, .string t404], .agg #[.bool t405, .string t406]] ?_
    with_reducible refine (rat_do_of_whole_Mul.calls t403 t404 t405 t406 t407 t408 _ A8.out).mono ?_
    rintro e w23 ⟨rfl, hb⟩; refine ⟨_, rfl, ?_⟩
    replace BK397 := zB BK397 hb; replace BK398 := zB BK398 hb; replace BK399 := zB BK399 hb; replace HB := zS HB hb
    (try clear hb)
    refine hK.out _ _ ⟨(blk_cell BK397.out 0).trans rfl, (blk_cell BK397.out 1).trans rfl, (blk_cell BK397.out 2).trans rfl, (blk_cell BK398.out 0).trans rfl, (blk_cell BK398.out 1).trans rfl, (blk_cell BK398.out 2).trans rfl⟩ (fun hHeld => ?_)
    clear hK K
    refine zW (some 23) ?_
    refine one_ (i := 10) (N := some 24) #[true, true, true, true, true, true, true, true, true, true, true, false, false] rfl rfl (one_of HT_.out (by kernel_rfl)) (by decide) (fun K hK => ?_)
    refine zX Tryz.func47 (by kernel_rfl) #[.agg #[.bool t401, .string t402], .agg #[.bool t407, .string t408]] ?_
    with_reducible refine (rat_lowest.calls k t401 t402 t407 t408 t409 t410 t411 _ A9.out).mono ?_
    rintro e w24 ⟨rfl, hb⟩; refine ⟨_, rfl, ?_⟩
    replace BK397 := zB BK397 hb; replace BK398 := zB BK398 hb; replace BK399 := zB BK399 hb; replace HB := zS HB hb
    (try clear hb)
    refine hK.out _ _ ⟨(blk_cell BK397.out 0).trans rfl, (blk_cell BK397.out 1).trans rfl, (blk_cell BK397.out 2).trans rfl, (blk_cell BK398.out 0).trans rfl, (blk_cell BK398.out 1).trans rfl, (blk_cell BK398.out 2).trans rfl⟩ (fun hHeld => ?_)
    clear hK K
    refine zW (some 24) ?_
    refine one_ (i := 11) (N := none) #[true, true, true, true, true, true, true, true, true, true, true, true, false] rfl rfl (one_of HT_.out (by kernel_rfl)) (by decide) (fun K hK => ?_)
    have hs25 : w24.cell? ⟨gb399, 0, none⟩ = some (.bool false) := (blk_cell BK399.out 0).trans rfl
    have hfs25 := blk_frozen BK399.out 0
    have hns25_0 := NB397_399.out
    have hns25_1 := NB398_399.out
    have hms25_0 := NB399_397.out
    have hms25_1 := NB399_398.out
    have hs26 : w24.cell? ⟨gb399, 1, none⟩ = some (.string (⟨#[]⟩ : ByteArray)) := (blk_cell BK399.out 1).trans rfl
    have hfs26 := blk_frozen BK399.out 1
    have hns26_0 := NB397_399.out
    have hns26_1 := NB398_399.out
    have hms26_0 := NB399_397.out
    have hms26_1 := NB399_398.out
    have hs27 : w24.cell? ⟨gb399, 2, none⟩ = some (.string (⟨#[]⟩ : ByteArray)) := (blk_cell BK399.out 2).trans rfl
    have hfs27 := blk_frozen BK399.out 2
    have hns27_0 := NB397_399.out
    have hns27_1 := NB398_399.out
    have hms27_0 := NB399_397.out
    have hms27_1 := NB399_398.out
    refine skip_ (w1 := ?_) (by rfl) rfl ?_ ?_
    rotate_left
    · go_simp
      rfl
    refine hK.out _ _ ⟨((cell_far (p := ⟨gb399, _, none⟩) NB397_399.out _).trans (((cell_far (p := ⟨gb399, _, none⟩) NB397_399.out _).trans (((cell_far (p := ⟨gb399, _, none⟩) NB397_399.out _).trans (hHeld.1)))))), ((cell_far (p := ⟨gb399, _, none⟩) NB397_399.out _).trans (((cell_far (p := ⟨gb399, _, none⟩) NB397_399.out _).trans (((cell_far (p := ⟨gb399, _, none⟩) NB397_399.out _).trans (hHeld.2.1)))))), ((cell_far (p := ⟨gb399, _, none⟩) NB397_399.out _).trans (((cell_far (p := ⟨gb399, _, none⟩) NB397_399.out _).trans (((cell_far (p := ⟨gb399, _, none⟩) NB397_399.out _).trans (hHeld.2.2.1)))))), ((cell_far (p := ⟨gb399, _, none⟩) NB398_399.out _).trans (((cell_far (p := ⟨gb399, _, none⟩) NB398_399.out _).trans (((cell_far (p := ⟨gb399, _, none⟩) NB398_399.out _).trans (hHeld.2.2.2.1)))))), ((cell_far (p := ⟨gb399, _, none⟩) NB398_399.out _).trans (((cell_far (p := ⟨gb399, _, none⟩) NB398_399.out _).trans (((cell_far (p := ⟨gb399, _, none⟩) NB398_399.out _).trans (hHeld.2.2.2.2.1)))))), ((cell_far (p := ⟨gb399, _, none⟩) NB398_399.out _).trans (((cell_far (p := ⟨gb399, _, none⟩) NB398_399.out _).trans (((cell_far (p := ⟨gb399, _, none⟩) NB398_399.out _).trans (hHeld.2.2.2.2.2))))))⟩ (fun hHeld => ?_)
    clear hK K
    refine zU (i := 12) (N := some 5) #[true, true, true, true, true, true, true, true, true, true, true, true, true] (any_of HT_.out (by kernel_rfl)) ?_
    refine done_ (done_of HT_.out (by kernel_rfl)) ?_
    try go_wp2
    refine bodyPost_ret (results_ct rfl _ _ gb399 27 #[.bool t409, .string t410, .string t411] (0, 0) _ rfl (by (with_reducible repeat (first | refine blk_drewN ?_ _ | refine blk_drew ?_ | refine blk_alloc ?_ _)); refine zP (cs := #[.bool t409, .string t410, .string (⟨#[]⟩ : ByteArray)]) ?_ 2 _; (with_reducible repeat (first | refine blk_drewN ?_ _ | refine blk_drew ?_ | refine blk_alloc ?_ _)); refine zP (cs := #[.bool t409, .string (⟨#[]⟩ : ByteArray), .string (⟨#[]⟩ : ByteArray)]) ?_ 1 _; (with_reducible repeat (first | refine blk_drewN ?_ _ | refine blk_drew ?_ | refine blk_alloc ?_ _)); refine zP (cs := #[.bool false, .string (⟨#[]⟩ : ByteArray), .string (⟨#[]⟩ : ByteArray)]) ?_ 0 _; (with_reducible repeat (first | refine blk_drewN ?_ _ | refine blk_drew ?_ | refine blk_alloc ?_ _)); exact BK399.out) Tryz.underlying27 rfl (by kernel_rfl)) rfl ?_
    exact ⟨by first | rfl | (simp [errW_none, errW_some] <;> rfl) | (simp [*, errW_none, errW_some] <;> rfl), zT HB⟩
  · rw [if_neg c4] at H
    have c4b0 : (t400 == 0) = false := beq_eq_false_iff_ne.mpr c4
    have c4b1 : (t400 != 0) = true := bne_iff_ne.mpr c4
    simp only [Option.some.injEq, Prod.mk.injEq] at H
    obtain ⟨rfl, rfl, rfl, rfl⟩ := H
    go_enter Tryz.func28, Tryz.ntmps28
    go_wp2_with (first | ((with_reducible refine gate_dst (N := 2) rfl ?_); refine box_event ?hg (N := 2) ?hd (cs := #[.bool a0_0, .string a0_1, .string a0_2]) (t := 27) ?hr ?_; (case hd => rfl); (case hg => rfl); (case hr => first | (go_simp; done) | (go_simp; rfl)); intro gb397 hg w28 hbox hb; have BK397 := Aside0.mk (hbox); have GW397 := zG hg HB; have GE397 := zG hg HB; replace HB := zS HB hb; clear hb hbox hg) | ((with_reducible refine gate_dst (N := 3) rfl ?_); refine box_event ?hg (N := 3) ?hd (cs := #[.bool a1_0, .string a1_1, .string a1_2]) (t := 27) ?hr ?_; (case hd => rfl); (case hg => rfl); (case hr => first | (go_simp; done) | (go_simp; rfl)); intro gb398 hg w29 hbox hb; have BK398 := Aside0.mk (hbox); have GW398 := zG hg HB; have GE398 := zG hg HB; have NB397_398 := zN hg BK397; have NB398_397 := zM hg BK397; replace BK397 := zB BK397 hb; replace HB := zS HB hb; clear hb hbox hg) | ((with_reducible refine gate_dst (N := 4) rfl ?_); refine box_event ?hg (N := 4) ?hd (cs := #[.bool false, .string (⟨#[]⟩ : ByteArray), .string (⟨#[]⟩ : ByteArray)]) (t := 27) ?hr ?_; (case hd => rfl); (case hg => rfl); (case hr => first | (go_simp; done) | (go_simp; rfl)); intro gb399 hg w30 hbox hb; have BK399 := Aside0.mk (hbox); have GW399 := zG hg HB; have GE399 := zG hg HB; have NB397_399 := zN hg BK397; have NB399_397 := zM hg BK397; have NB398_399 := zN hg BK398; have NB399_398 := zM hg BK398; replace BK397 := zB BK397 hb; replace BK398 := zB BK398 hb; replace HB := zS HB hb; clear hb hbox hg; have hnb31 := NB397_398.out; have hnc31 := NB398_397.out; have hnb32 := NB397_399.out; have hnc32 := NB399_397.out; obtain ⟨hcz33_0, hcz33_1, hcz33_2, hfz33_0, hfz33_1, hfz33_2⟩ := z3 BK397; have hnb34 := NB398_399.out; have hnc34 := NB399_398.out; obtain ⟨hcz35_0, hcz35_1, hcz35_2, hfz35_0, hfz35_1, hfz35_2⟩ := z3 BK398) | ((with_reducible refine gate_callee (f := 72) rfl ?_); refine zC Tryz.func72 (by kernel_rfl) #[.agg #[.bool a0_0, .string a0_1, .string a0_2], .agg #[.bool a1_0, .string a1_1, .string a1_2]] ?_; (with_reducible refine (rat_both.calls k a0_0 a0_1 a0_2 a1_0 a1_1 a1_2 t400 _ A3.out).mono ?_); rintro e w36 ⟨rfl, hb⟩; refine ⟨_, rfl, ?_⟩; replace BK397 := zB BK397 hb; replace BK398 := zB BK398 hb; replace BK399 := zB BK399 hb; replace HB := zS HB hb; (try clear hb); obtain ⟨hcz37_0, hcz37_1, hcz37_2, hfz37_0, hfz37_1, hfz37_2⟩ := z3 BK399))
    refine bodyPost_ret (results_ct rfl _ _ gb399 27 #[.bool false, .string (⟨#[]⟩ : ByteArray), .string (⟨#[]⟩ : ByteArray)] (0, 0) _ rfl (by (with_reducible repeat (first | refine blk_drewN ?_ _ | refine blk_drew ?_ | refine blk_alloc ?_ _)); refine zP (cs := #[.bool false, .string (⟨#[]⟩ : ByteArray), .string (⟨#[]⟩ : ByteArray)]) ?_ 2 _; (with_reducible repeat (first | refine blk_drewN ?_ _ | refine blk_drew ?_ | refine blk_alloc ?_ _)); refine zP (cs := #[.bool false, .string (⟨#[]⟩ : ByteArray), .string (⟨#[]⟩ : ByteArray)]) ?_ 1 _; (with_reducible repeat (first | refine blk_drewN ?_ _ | refine blk_drew ?_ | refine blk_alloc ?_ _)); refine zP (cs := #[.bool false, .string (⟨#[]⟩ : ByteArray), .string (⟨#[]⟩ : ByteArray)]) ?_ 0 _; (with_reducible repeat (first | refine blk_drewN ?_ _ | refine blk_drew ?_ | refine blk_alloc ?_ _)); exact BK399.out) Tryz.underlying27 rfl (by kernel_rfl)) rfl ?_
    exact ⟨by first | rfl | (simp [errW_none, errW_some] <;> rfl) | (simp [*, errW_none, errW_some] <;> rfl), zT HB⟩

end Go.Proofs.YtoijlbcbbblbfaaGreatDoorH.R

-- printed by hp.py
namespace Go.Proofs.YtoijlbcbbblbfaaGreatDoorH.R
open Go.RowKit Go.Proofs.YtoijlbcbbblbfaaGreatDoorH.Z Go.Proofs.YtoijlbcbbblbfaaGreatDoorW.PrintWords Go.Proofs.YtoijlbcbbblbfaaGreatDoorW.PrintLast Go.Proofs.YtoijlbcbbblbfaaGreatDoorW.PrintMore
attribute [local go_sem] max2_int min2_int max_two min_two max_three min_three max_four min_four   -- for this text's walks alone
set_option linter.unusedVariables false
set_option linter.unusedSimpArgs false

/-! ### gussetlaw03_small: function 33 -/
def gussetlaw03_small.f (a0_0 : Bool) (a0_1 : ByteArray) (a0_2 : ByteArray) : Option (Bool) := if (a0_1.size : Int) ≤ 120 then (some (decide ((a0_2.size : Int) ≤ 120))) else (some false)
set_option maxHeartbeats 8000000 in
set_option maxRecDepth 100000 in
theorem gussetlaw03_small.calls (a0_0 : Bool) (a0_1 : ByteArray) (a0_2 : ByteArray) (r : Bool) (w : World) (h : gussetlaw03_small.f a0_0 a0_1 a0_2 = some r) :
    Calls Tryz.prog 33 #[.agg #[.bool a0_0, .string a0_1, .string a0_2]] w fun e w' => e = .returned (.bool r) ∧ Below w.heap.size w w' := by
  have hu27 := Tryz.underlying27
  have HB := Aside0.mk (Below.refl w.heap.size w)
  have H : (if (a0_1.size : Int) ≤ 120 then (some (decide ((a0_2.size : Int) ≤ 120))) else (some false)) = some r := h
  clear h
  by_cases c2 : (a0_1.size : Int) ≤ 120
  · rw [if_pos c2] at H
    have c2b0 : decide ((a0_1.size : Int) ≤ 120) = true := decide_eq_true c2
    have c2b1 : decide (a0_1.size ≤ 120) = true := decide_eq_true (by omega)
    clear c2
    obtain rfl := Option.some.inj H
    go_enter Tryz.func33, Tryz.ntmps33
    go_wp2_with (first | ((with_reducible refine gate_dst (N := 1) rfl ?_); (try (refine gate_guard (by rfl) ?_; dsimp only)); refine box_event ?hg (N := 1) ?hd (cs := #[.bool a0_0, .string a0_1, .string a0_2]) (t := 27) ?hr ?_; (case hd => rfl); (case hg => rfl); (case hr => first | (go_simp; done) | (go_simp; rfl)); intro gb387 hg w3 hbox hb; have BK387 := Aside0.mk (hbox); have GW387 := zG hg HB; have GE387 := zG hg HB; replace HB := zS HB hb; clear hb hbox hg; obtain ⟨hcz4_0, hcz4_1, hcz4_2, hfz4_0, hfz4_1, hfz4_2⟩ := z3 BK387))
    go_ret
    exact ⟨by first | rfl | (simp [errW_none, errW_some] <;> rfl) | (simp [*, errW_none, errW_some] <;> rfl), zT HB⟩
  · rw [if_neg c2] at H
    have c2b0 : decide ((a0_1.size : Int) ≤ 120) = false := decide_eq_false c2
    have c2b1 : decide (a0_1.size ≤ 120) = false := decide_eq_false (by omega)
    clear c2
    obtain rfl := Option.some.inj H
    go_enter Tryz.func33, Tryz.ntmps33
    go_wp2_with (first | ((with_reducible refine gate_dst (N := 1) rfl ?_); (try (refine gate_guard (by rfl) ?_; dsimp only)); refine box_event ?hg (N := 1) ?hd (cs := #[.bool a0_0, .string a0_1, .string a0_2]) (t := 27) ?hr ?_; (case hd => rfl); (case hg => rfl); (case hr => first | (go_simp; done) | (go_simp; rfl)); intro gb387 hg w5 hbox hb; have BK387 := Aside0.mk (hbox); have GW387 := zG hg HB; have GE387 := zG hg HB; replace HB := zS HB hb; clear hb hbox hg; obtain ⟨hcz6_0, hcz6_1, hcz6_2, hfz6_0, hfz6_1, hfz6_2⟩ := z3 BK387))
    go_ret
    exact ⟨by first | rfl | (simp [errW_none, errW_some] <;> rfl) | (simp [*, errW_none, errW_some] <;> rfl), zT HB⟩

end Go.Proofs.YtoijlbcbbblbfaaGreatDoorH.R
