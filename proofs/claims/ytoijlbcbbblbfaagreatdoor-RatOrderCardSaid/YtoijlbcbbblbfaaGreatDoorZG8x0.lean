import Derived.Test.YtoijlbcbbblbfaaGreatDoorZG0x0
import Derived.Test.YtoijlbcbbblbfaaGreatDoorZG0x1
-- printed by hp.py
namespace Go.Proofs.YtoijlbcbbblbfaaGreatDoorH.R
open Go.RowKit Go.Proofs.YtoijlbcbbblbfaaGreatDoorH.Z Go.Proofs.YtoijlbcbbblbfaaGreatDoorW.PrintWords Go.Proofs.YtoijlbcbbblbfaaGreatDoorW.PrintLast Go.Proofs.YtoijlbcbbblbfaaGreatDoorW.PrintMore
attribute [local go_sem] max2_int min2_int max_two min_two max_three min_three max_four min_four   -- for this text's walks alone
set_option linter.unusedVariables false
set_option linter.unusedSimpArgs false

/-! ### rat_Cmp: function 35 -/
def rat_Cmp.f (k : Nat) (a0_0 : Bool) (a0_1 : ByteArray) (a0_2 : ByteArray) (a1_0 : Bool) (a1_1 : ByteArray) (a1_2 : ByteArray) : Option (Int × Int) := (rat_both.f k a0_0 a0_1 a0_2 a1_0 a1_1 a1_2).bind fun t551 => (if t551 = 0 then ((rat_den.f a1_0 a1_1 a1_2).bind fun bt552 => ((rat_do_of_whole_Mul.f a0_0 a0_1 bt552.1 bt552.2).bind fun bt554 => ((rat_den.f a0_0 a0_1 a0_2).bind fun bt556 => ((rat_do_of_whole_Mul.f a1_0 a1_1 bt556.1 bt556.2).bind fun bt558 => ((whole_Cmp.f bt554.1 bt554.2 bt558.1 bt558.2).bind fun bt560 => (some (bt560.1, bt560.2))))))) else (some (0, t551)))
def rat_Cmp.T4 : Bool × List (List Nat × List Nat) := (true, [([], []), ([0], [0]), ([], []), ([2], [2]), ([1, 3, 3], [1, 3]), ([], []), ([5], [5]), ([], []), ([7, 4], [7]), ([6, 8, 8], [6, 8]), ([4, 9, 9], [4, 9]), ([10], [10]), ([10], [10]), ([11, 10, 0, 1, 2, 3, 4, 5, 6, 7, 8, 9, 10, 11, 12], [11]), ([12, 13, 0, 1, 2, 3, 4, 5, 6, 7, 8, 9, 10, 11, 12, 13], [12])])
def rat_Cmp.B4 : List Nat := [0, 1, 0, 4, 15, 0, 32, 0, 159, 511, 1023, 2047, 2047, 8191, 16383]
theorem rat_Cmp.tab4 : rtab .any (opsOf Tryz.f35 4) = rat_Cmp.T4 := by kernel_rfl
theorem rat_Cmp.bits4 : waitsOk rat_Cmp.T4.2 rat_Cmp.B4 = true := by kernel_rfl
set_option maxHeartbeats 8000000 in
set_option maxRecDepth 100000 in
theorem rat_Cmp.calls (k : Nat) (a0_0 : Bool) (a0_1 : ByteArray) (a0_2 : ByteArray) (a1_0 : Bool) (a1_1 : ByteArray) (a1_2 : ByteArray) (r1 : Int) (r2 : Int) (w : World) (h : rat_Cmp.f k a0_0 a0_1 a0_2 a1_0 a1_1 a1_2 = some (r1, r2)) :
    Calls Tryz.prog 35 #[.agg #[.bool a0_0, .string a0_1, .string a0_2], .agg #[.bool a1_0, .string a1_1, .string a1_2]] w fun e w' => e = .returned (.tuple #[.int .i64 r1, .int .i64 r2]) ∧ Below w.heap.size w w' := by
  have hu27 := Tryz.underlying27
  have hu24 := Tryz.underlying24; have hf0 := zf240; have hf1 := zf241; have hf2 := zf270; have hf3 := zf271
  have HB := Aside0.mk (Below.refl w.heap.size w)
  have H : ((rat_both.f k a0_0 a0_1 a0_2 a1_0 a1_1 a1_2).bind fun t551 => (if t551 = 0 then ((rat_den.f a1_0 a1_1 a1_2).bind fun bt552 => ((rat_do_of_whole_Mul.f a0_0 a0_1 bt552.1 bt552.2).bind fun bt554 => ((rat_den.f a0_0 a0_1 a0_2).bind fun bt556 => ((rat_do_of_whole_Mul.f a1_0 a1_1 bt556.1 bt556.2).bind fun bt558 => ((whole_Cmp.f bt554.1 bt554.2 bt558.1 bt558.2).bind fun bt560 => (some (bt560.1, bt560.2))))))) else (some (0, t551)))) = some (r1, r2) := h
  clear h
  replace H := Option.bind_eq_some_iff.mp H
  obtain ⟨t551, A30, H⟩ := H
  replace H : (if t551 = 0 then ((rat_den.f a1_0 a1_1 a1_2).bind fun bt552 => ((rat_do_of_whole_Mul.f a0_0 a0_1 bt552.1 bt552.2).bind fun bt554 => ((rat_den.f a0_0 a0_1 a0_2).bind fun bt556 => ((rat_do_of_whole_Mul.f a1_0 a1_1 bt556.1 bt556.2).bind fun bt558 => ((whole_Cmp.f bt554.1 bt554.2 bt558.1 bt558.2).bind fun bt560 => (some (bt560.1, bt560.2))))))) else (some (0, t551))) = some (r1, r2) := H
  have A3 := Aside0.mk A30
  clear A30
  by_cases c4 : t551 = 0
  · rw [if_pos c4] at H
    have c4b0 : (t551 == 0) = true := beq_iff_eq.mpr c4
    have c4b1 : (t551 != 0) = false := bne_eq_false_iff_eq.mpr c4
    clear c4
    replace H := Option.bind_eq_some_iff.mp H
    obtain ⟨⟨t552, t553⟩, A50, H⟩ := H
    replace H : ((rat_do_of_whole_Mul.f a0_0 a0_1 t552 t553).bind fun bt554 => ((rat_den.f a0_0 a0_1 a0_2).bind fun bt556 => ((rat_do_of_whole_Mul.f a1_0 a1_1 bt556.1 bt556.2).bind fun bt558 => ((whole_Cmp.f bt554.1 bt554.2 bt558.1 bt558.2).bind fun bt560 => (some (bt560.1, bt560.2)))))) = some (r1, r2) := H
    have A5 := Aside0.mk A50
    clear A50
    replace H := Option.bind_eq_some_iff.mp H
    obtain ⟨⟨t554, t555⟩, A60, H⟩ := H
    replace H : ((rat_den.f a0_0 a0_1 a0_2).bind fun bt556 => ((rat_do_of_whole_Mul.f a1_0 a1_1 bt556.1 bt556.2).bind fun bt558 => ((whole_Cmp.f t554 t555 bt558.1 bt558.2).bind fun bt560 => (some (bt560.1, bt560.2))))) = some (r1, r2) := H
    have A6 := Aside0.mk A60
    clear A60
    replace H := Option.bind_eq_some_iff.mp H
    obtain ⟨⟨t556, t557⟩, A70, H⟩ := H
    replace H : ((rat_do_of_whole_Mul.f a1_0 a1_1 t556 t557).bind fun bt558 => ((whole_Cmp.f t554 t555 bt558.1 bt558.2).bind fun bt560 => (some (bt560.1, bt560.2)))) = some (r1, r2) := H
    have A7 := Aside0.mk A70
    clear A70
    replace H := Option.bind_eq_some_iff.mp H
    obtain ⟨⟨t558, t559⟩, A80, H⟩ := H
    replace H : ((whole_Cmp.f t554 t555 t558 t559).bind fun bt560 => (some (bt560.1, bt560.2))) = some (r1, r2) := H
    have A8 := Aside0.mk A80
    clear A80
    replace H := Option.bind_eq_some_iff.mp H
    obtain ⟨⟨t560, t561⟩, A90, H⟩ := H
    replace H : (some (t560, t561)) = some (r1, r2) := H
    have A9 := Aside0.mk A90
    clear A90
    simp only [Option.some.injEq, Prod.mk.injEq] at H
    obtain ⟨rfl, rfl⟩ := H
    go_enter Tryz.func35, Tryz.ntmps35
    try go_wp2_with (first | ((with_reducible refine gate_dst (N := 2) rfl ?_); refine box_event ?hg (N := 2) ?hd (cs := #[.bool a0_0, .string a0_1, .string a0_2]) (t := 27) ?hr ?_; (case hd => rfl); (case hg => rfl); (case hr => first | (go_simp; done) | (go_simp; rfl)); intro gb549 hg w10 hbox hb; have BK549 := Aside0.mk (hbox); have GW549 := zG hg HB; have GE549 := zG hg HB; replace HB := zS HB hb; clear hb hbox hg) | ((with_reducible refine gate_dst (N := 3) rfl ?_); refine box_event ?hg (N := 3) ?hd (cs := #[.bool a1_0, .string a1_1, .string a1_2]) (t := 27) ?hr ?_; (case hd => rfl); (case hg => rfl); (case hr => first | (go_simp; done) | (go_simp; rfl)); intro gb550 hg w11 hbox hb; have BK550 := Aside0.mk (hbox); have GW550 := zG hg HB; have GE550 := zG hg HB; have NB549_550 := zN hg BK549; have NB550_549 := zM hg BK549; replace BK549 := zB BK549 hb; replace HB := zS HB hb; clear hb hbox hg; have hnb12 := NB549_550.out; have hnc12 := NB550_549.out; obtain ⟨hcz13_0, hcz13_1, hcz13_2, hfz13_0, hfz13_1, hfz13_2⟩ := z3 BK549; obtain ⟨hcz14_0, hcz14_1, hcz14_2, hfz14_0, hfz14_1, hfz14_2⟩ := z3 BK550) | ((with_reducible refine gate_callee (f := 72) rfl ?_); refine zC Tryz.func72 (by kernel_rfl) #[.agg #[.bool a0_0, .string a0_1, .string a0_2], .agg #[.bool a1_0, .string a1_1, .string a1_2]] ?_; (with_reducible refine (rat_both.calls k a0_0 a0_1 a0_2 a1_0 a1_1 a1_2 t551 _ A3.out).mono ?_); rintro e w15 ⟨rfl, hb⟩; refine ⟨_, rfl, ?_⟩; replace BK549 := zB BK549 hb; replace BK550 := zB BK550 hb; replace HB := zS HB hb; (try clear hb)))
    replace BK549 := zD BK549; replace BK550 := zD BK550; replace HB := zF HB
    refine start_ (n := 15) (S := fun w' => w'.cell? ⟨gb549, 0, none⟩ = some (.bool a0_0) ∧ w'.cell? ⟨gb549, 1, none⟩ = some (.string a0_1) ∧ w'.cell? ⟨gb549, 2, none⟩ = some (.string a0_2) ∧ w'.cell? ⟨gb550, 0, none⟩ = some (.bool a1_0) ∧ w'.cell? ⟨gb550, 1, none⟩ = some (.string a1_1) ∧ w'.cell? ⟨gb550, 2, none⟩ = some (.string a1_2)) (ds := []) #[false, false, false, false, false, false, false, false, false, false, false, false, false, false, false] (by kernel_rfl) rfl rfl ⟨(blk_cell BK549.out 0).trans rfl, (blk_cell BK549.out 1).trans rfl, (blk_cell BK549.out 2).trans rfl, (blk_cell BK550.out 0).trans rfl, (blk_cell BK550.out 1).trans rfl, (blk_cell BK550.out 2).trans rfl⟩ (fun hHeld => ?_); refine with_tabW rat_Cmp.tab4 rat_Cmp.bits4 (fun HT_ HW_ => ?_)
    generalize w15.drew = w16 at BK549 BK550 HB hHeld ⊢
    refine zU (i := 0) (N := some 13) #[true, false, false, false, false, false, false, false, false, false, false, false, false, false, false] (any_of HT_.out (by kernel_rfl)) ?_
    refine zU (i := 5) (N := some 18) #[true, false, false, false, false, true, false, false, false, false, false, false, false, false, false] (any_of HT_.out (by kernel_rfl)) ?_
    refine zV (i := 1) (N := some 14) #[true, true, false, false, false, true, false, false, false, false, false, false, false, false, false] (take_ofW HT_.out HW_.out (by kernel_rfl)) hHeld ?_
    refine zV (i := 2) (N := some 15) #[true, true, true, false, false, true, false, false, false, false, false, false, false, false, false] (take_ofW HT_.out HW_.out (by kernel_rfl)) hHeld ?_
    refine zV (i := 6) (N := some 19) #[true, true, true, false, false, true, true, false, false, false, false, false, false, false, false] (take_ofW HT_.out HW_.out (by kernel_rfl)) hHeld ?_
    refine zV (i := 7) (N := some 20) #[true, true, true, false, false, true, true, true, false, false, false, false, false, false, false] (take_ofW HT_.out HW_.out (by kernel_rfl)) hHeld ?_
    refine one_ (i := 3) (N := some 16) #[true, true, true, true, false, true, true, true, false, false, false, false, false, false, false] rfl rfl (one_of HT_.out (by kernel_rfl)) (by decide) (fun K hK => ?_)
    refine zX Tryz.func60 (by kernel_rfl) #[.agg #[.bool a1_0, .string a1_1, .string a1_2]] ?_
    with_reducible refine (rat_den.calls a1_0 a1_1 a1_2 t552 t553 _ A5.out).mono ?_
    rintro e w17 ⟨rfl, hb⟩; refine ⟨_, rfl, ?_⟩
    replace BK549 := zB BK549 hb; replace BK550 := zB BK550 hb; replace HB := zS HB hb
    (try clear hb)
    refine hK.out _ _ ⟨(blk_cell BK549.out 0).trans rfl, (blk_cell BK549.out 1).trans rfl, (blk_cell BK549.out 2).trans rfl, (blk_cell BK550.out 0).trans rfl, (blk_cell BK550.out 1).trans rfl, (blk_cell BK550.out 2).trans rfl⟩ (fun hHeld => ?_)
    clear hK K
    refine zW (some 16) ?_
    refine one_ (i := 4) (N := some 17) #[true, true, true, true, true, true, true, true, false, false, false, false, false, false, false] rfl rfl (one_of HT_.out (by kernel_rfl)) (by decide) (fun K hK => ?_)
    refine zX Tryz.func57 (by kernel_rfl) #[.func (.func 58) #[] #[], .agg #[.bool a0_0, .string a0_1], .agg #[.bool t552, .string t553]] ?_
    with_reducible refine (rat_do_of_whole_Mul.calls a0_0 a0_1 t552 t553 t554 t555 _ A6.out).mono ?_
    rintro e w18 ⟨rfl, hb⟩; refine ⟨_, rfl, ?_⟩
    replace BK549 := zB BK549 hb; replace BK550 := zB BK550 hb; replace HB := zS HB hb
    (try clear hb)
    refine hK.out _ _ ⟨(blk_cell BK549.out 0).trans rfl, (blk_cell BK549.out 1).trans rfl, (blk_cell BK549.out 2).trans rfl, (blk_cell BK550.out 0).trans rfl, (blk_cell BK550.out 1).trans rfl, (blk_cell BK550.out 2).trans rfl⟩ (fun hHeld => ?_)
    clear hK K
    refine zW (some 17) ?_
    refine one_ (i := 8) (N := some 21) #[true, true, true, true, true, true, true, true, true, false, false, false, false, false, false] rfl rfl (one_of HT_.out (by kernel_rfl)) (by decide) (fun K hK => ?_)
    refine zX Tryz.func60 (by kernel_rfl) #[.agg #[.bool a0_0, .string a0_1, .string a0_2]] ?_
    with_reducible refine (rat_den.calls a0_0 a0_1 a0_2 t556 t557 _ A7.out).mono ?_
    rintro e w19 ⟨rfl, hb⟩; refine ⟨_, rfl, ?_⟩
    replace BK549 := zB BK549 hb; replace BK550 := zB BK550 hb; replace HB := zS HB hb
    (try clear hb)
    refine hK.out _ _ ⟨(blk_cell BK549.out 0).trans rfl, (blk_cell BK549.out 1).trans rfl, (blk_cell BK549.out 2).trans rfl, (blk_cell BK550.out 0).trans rfl, (blk_cell BK550.out 1).trans rfl, (blk_cell BK550.out 2).trans rfl⟩ (fun hHeld => ?_)
    clear hK K
    refine zW (some 21) ?_
    refine one_ (i := 9) (N := some 22) #[true, true, true, true, true, true, true, true, true, true, false, false, false, false, false] rfl rfl (one_of HT_.out (by kernel_rfl)) (by decide) (fun K hK => ?_)
    refine zX Tryz.func57 (by kernel_rfl) #[.func (.func 58) #[] #[], .agg #[.bool a1_0, .string a1_1], .agg #[.bool t556, .string t557]] ?_
    with_reducible refine (rat_do_of_whole_Mul.calls a1_0 a1_1 t556 t557 t558 t559 _ A8.out).mono ?_
    rintro e w20 ⟨rfl, hb⟩; refine ⟨_, rfl, ?_⟩
    replace BK549 := zB BK549 hb; replace BK550 := zB BK550 hb; replace HB := zS HB hb
    (try clear hb)
    refine hK.out _ _ ⟨(blk_cell BK549.out 0).trans rfl, (blk_cell BK549.out 1).trans rfl, (blk_cell BK549.out 2).trans rfl, (blk_cell BK550.out 0).trans rfl, (blk_cell BK550.out 1).trans rfl, (blk_cell BK550.out 2).trans rfl⟩ (fun hHeld => ?_)
    clear hK K
    refine zW (some 22) ?_
    refine one_ (i := 10) (N := some 23) #[true, true, true, true, true, true, true, true, true, true, true, false, false, false, false] rfl rfl (one_of HT_.out (by kernel_rfl)) (by decide) (fun K hK => ?_)
    refine zX Tryz.func75 (by kernel_rfl) #[.agg #[.bool t554, .string t555], .agg #[.bool t558, .string t559]] ?_
    with_reducible refine (whole_Cmp.calls t554 t555 t558 t559 t560 t561 _ A9.out).mono ?_
    rintro e w21 ⟨rfl, hb⟩; refine ⟨_, rfl, ?_⟩
    replace BK549 := zB BK549 hb; replace BK550 := zB BK550 hb; replace HB := zS HB hb
    (try clear hb)
    refine hK.out _ _ ⟨(blk_cell BK549.out 0).trans rfl, (blk_cell BK549.out 1).trans rfl, (blk_cell BK549.out 2).trans rfl, (blk_cell BK550.out 0).trans rfl, (blk_cell BK550.out 1).trans rfl, (blk_cell BK550.out 2).trans rfl⟩ (fun hHeld => ?_)
    clear hK K
    refine zW (some 23) ?_
    refine zU (i := 11) (N := some 24) #[true, true, true, true, true, true, true, true, true, true, true, true, false, false, false] (any_of HT_.out (by kernel_rfl)) ?_
    refine zU (i := 12) (N := some 25) #[true, true, true, true, true, true, true, true, true, true, true, true, true, false, false] (any_of HT_.out (by kernel_rfl)) ?_
    refine zU (i := 13) (N := some 4) #[true, true, true, true, true, true, true, true, true, true, true, true, true, true, false] (any_of HT_.out (by kernel_rfl)) ?_
    refine zU (i := 14) (N := some 5) #[true, true, true, true, true, true, true, true, true, true, true, true, true, true, true] (any_of HT_.out (by kernel_rfl)) ?_
    refine done_ (done_of HT_.out (by kernel_rfl)) ?_
    try go_wp2
    go_ret2
    exact ⟨by first | rfl | (simp [errW_none, errW_some] <;> rfl) | (simp [*, errW_none, errW_some] <;> rfl), zT HB⟩
  · rw [if_neg c4] at H
    have c4b0 : (t551 == 0) = false := beq_eq_false_iff_ne.mpr c4
    have c4b1 : (t551 != 0) = true := bne_iff_ne.mpr c4
    simp only [Option.some.injEq, Prod.mk.injEq] at H
    obtain ⟨rfl, rfl⟩ := H
    go_enter Tryz.func35, Tryz.ntmps35
    go_wp2_with (first | ((with_reducible refine gate_dst (N := 2) rfl ?_); refine box_event ?hg (N := 2) ?hd (cs := #[.bool a0_0, .string a0_1, .string a0_2]) (t := 27) ?hr ?_; (case hd => rfl); (case hg => rfl); (case hr => first | (go_simp; done) | (go_simp; rfl)); intro gb549 hg w22 hbox hb; have BK549 := Aside0.mk (hbox); have GW549 := zG hg HB; have GE549 := zG hg HB; replace HB := zS HB hb; clear hb hbox hg) | ((with_reducible refine gate_dst (N := 3) rfl ?_); refine box_event ?hg (N := 3) ?hd (cs := #[.bool a1_0, .string a1_1, .string a1_2]) (t := 27) ?hr ?_; (case hd => rfl); (case hg => rfl); (case hr => first | (go_simp; done) | (go_simp; rfl)); intro gb550 hg w23 hbox hb; have BK550 := Aside0.mk (hbox); have GW550 := zG hg HB; have GE550 := zG hg HB; have NB549_550 := zN hg BK549; have NB550_549 := zM hg BK549; replace BK549 := zB BK549 hb; replace HB := zS HB hb; clear hb hbox hg; have hnb24 := NB549_550.out; have hnc24 := NB550_549.out; obtain ⟨hcz25_0, hcz25_1, hcz25_2, hfz25_0, hfz25_1, hfz25_2⟩ := z3 BK549; obtain ⟨hcz26_0, hcz26_1, hcz26_2, hfz26_0, hfz26_1, hfz26_2⟩ := z3 BK550) | ((with_reducible refine gate_callee (f := 72) rfl ?_); refine zC Tryz.func72 (by kernel_rfl) #[.agg #[.bool a0_0, .string a0_1, .string a0_2], .agg #[.bool a1_0, .string a1_1, .string a1_2]] ?_; (with_reducible refine (rat_both.calls k a0_0 a0_1 a0_2 a1_0 a1_1 a1_2 t551 _ A3.out).mono ?_); rintro e w27 ⟨rfl, hb⟩; refine ⟨_, rfl, ?_⟩; replace BK549 := zB BK549 hb; replace BK550 := zB BK550 hb; replace HB := zS HB hb; (try clear hb)))
    go_ret2
    exact ⟨by first | rfl | (simp [errW_none, errW_some] <;> rfl) | (simp [*, errW_none, errW_some] <;> rfl), zT HB⟩

end Go.Proofs.YtoijlbcbbblbfaaGreatDoorH.R

-- printed by hp.py
namespace Go.Proofs.YtoijlbcbbblbfaaGreatDoorH.R
open Go.RowKit Go.Proofs.YtoijlbcbbblbfaaGreatDoorH.Z Go.Proofs.YtoijlbcbbblbfaaGreatDoorW.PrintWords Go.Proofs.YtoijlbcbbblbfaaGreatDoorW.PrintLast Go.Proofs.YtoijlbcbbblbfaaGreatDoorW.PrintMore
attribute [local go_sem] max2_int min2_int max_two min_two max_three min_three max_four min_four   -- for this text's walks alone
set_option linter.unusedVariables false
set_option linter.unusedSimpArgs false

/-! ### rat_Sign: function 37 -/
def rat_Sign.f (k : Nat) (a0_0 : Bool) (a0_1 : ByteArray) (a0_2 : ByteArray) : Option (Int × Int) := (rat_Check.f k a0_0 a0_1 a0_2).bind fun t596 => (if t596 = 0 then (if a0_0 = true then (some ((-1), 0)) else (if a0_1.toList = ([] : List UInt8) then (some (0, 0)) else (some (1, 0)))) else (some (0, t596)))
set_option maxHeartbeats 8000000 in
set_option maxRecDepth 100000 in
theorem rat_Sign.calls (k : Nat) (a0_0 : Bool) (a0_1 : ByteArray) (a0_2 : ByteArray) (r1 : Int) (r2 : Int) (w : World) (h : rat_Sign.f k a0_0 a0_1 a0_2 = some (r1, r2)) :
    Calls Tryz.prog 37 #[.agg #[.bool a0_0, .string a0_1, .string a0_2]] w fun e w' => e = .returned (.tuple #[.int .i64 r1, .int .i64 r2]) ∧ Below w.heap.size w w' := by
  have hu27 := Tryz.underlying27
  have HB := Aside0.mk (Below.refl w.heap.size w)
  have H : ((rat_Check.f k a0_0 a0_1 a0_2).bind fun t596 => (if t596 = 0 then (if a0_0 = true then (some ((-1), 0)) else (if a0_1.toList = ([] : List UInt8) then (some (0, 0)) else (some (1, 0)))) else (some (0, t596)))) = some (r1, r2) := h
  clear h
  replace H := Option.bind_eq_some_iff.mp H
  obtain ⟨t596, A20, H⟩ := H
  replace H : (if t596 = 0 then (if a0_0 = true then (some ((-1), 0)) else (if a0_1.toList = ([] : List UInt8) then (some (0, 0)) else (some (1, 0)))) else (some (0, t596))) = some (r1, r2) := H
  have A2 := Aside0.mk A20
  clear A20
  by_cases c3 : t596 = 0
  · rw [if_pos c3] at H
    have c3b0 : (t596 == 0) = true := beq_iff_eq.mpr c3
    have c3b1 : (t596 != 0) = false := bne_eq_false_iff_eq.mpr c3
    clear c3
    by_cases c4 : a0_0 = true
    · subst c4
      have H1 : (some ((-1), 0)) = some (r1, r2) := by rw [if_pos rfl] at H; exact H
      clear H
      have H := H1
      clear H1
      simp only [Option.some.injEq, Prod.mk.injEq] at H
      obtain ⟨rfl, rfl⟩ := H
      go_enter Tryz.func37, Tryz.ntmps37
      go_wp2_with (first | ((with_reducible refine gate_dst (N := 1) rfl ?_); refine box_event ?hg (N := 1) ?hd (cs := #[.bool true, .string a0_1, .string a0_2]) (t := 27) ?hr ?_; (case hd => rfl); (case hg => rfl); (case hr => first | (go_simp; done) | (go_simp; rfl)); intro gb595 hg w5 hbox hb; have BK595 := Aside0.mk (hbox); have GW595 := zG hg HB; have GE595 := zG hg HB; replace HB := zS HB hb; clear hb hbox hg; obtain ⟨hcz6_0, hcz6_1, hcz6_2, hfz6_0, hfz6_1, hfz6_2⟩ := z3 BK595) | ((with_reducible refine gate_callee (f := 41) rfl ?_); refine zC Tryz.func41 (by kernel_rfl) #[.agg #[.bool true, .string a0_1, .string a0_2]] ?_; (with_reducible refine (rat_Check.calls k true a0_1 a0_2 t596 _ A2.out).mono ?_); rintro e w7 ⟨rfl, hb⟩; refine ⟨_, rfl, ?_⟩; replace BK595 := zB BK595 hb; replace HB := zS HB hb; (try clear hb); obtain ⟨hcz8_0, hcz8_1, hcz8_2, hfz8_0, hfz8_1, hfz8_2⟩ := z3 BK595))
      go_ret2
      exact ⟨by first | rfl | (simp [errW_none, errW_some] <;> rfl) | (simp [*, errW_none, errW_some] <;> rfl), zT HB⟩
    · replace c4 := Bool.eq_false_iff.mpr c4
      subst c4
      have H1 : (if a0_1.toList = ([] : List UInt8) then (some (0, 0)) else (some (1, 0))) = some (r1, r2) := by rw [if_neg (show ¬ (false = true) by decide)] at H; exact H
      clear H
      have H := H1
      clear H1
      by_cases c9 : a0_1.toList = ([] : List UInt8)
      · rw [if_pos c9] at H
        have c9b0 : (a0_1.toList == ([] : List UInt8)) = true := beq_iff_eq.mpr c9
        have c9b1 : (a0_1.toList != ([] : List UInt8)) = false := bne_eq_false_iff_eq.mpr c9
        clear c9
        simp only [Option.some.injEq, Prod.mk.injEq] at H
        obtain ⟨rfl, rfl⟩ := H
        go_enter Tryz.func37, Tryz.ntmps37
        go_wp2_with (first | ((with_reducible refine gate_dst (N := 1) rfl ?_); refine box_event ?hg (N := 1) ?hd (cs := #[.bool false, .string a0_1, .string a0_2]) (t := 27) ?hr ?_; (case hd => rfl); (case hg => rfl); (case hr => first | (go_simp; done) | (go_simp; rfl)); intro gb595 hg w10 hbox hb; have BK595 := Aside0.mk (hbox); have GW595 := zG hg HB; have GE595 := zG hg HB; replace HB := zS HB hb; clear hb hbox hg; obtain ⟨hcz11_0, hcz11_1, hcz11_2, hfz11_0, hfz11_1, hfz11_2⟩ := z3 BK595) | ((with_reducible refine gate_callee (f := 41) rfl ?_); refine zC Tryz.func41 (by kernel_rfl) #[.agg #[.bool false, .string a0_1, .string a0_2]] ?_; (with_reducible refine (rat_Check.calls k false a0_1 a0_2 t596 _ A2.out).mono ?_); rintro e w12 ⟨rfl, hb⟩; refine ⟨_, rfl, ?_⟩; replace BK595 := zB BK595 hb; replace HB := zS HB hb; (try clear hb); obtain ⟨hcz13_0, hcz13_1, hcz13_2, hfz13_0, hfz13_1, hfz13_2⟩ := z3 BK595))
        go_ret2
        exact ⟨by first | rfl | (simp [errW_none, errW_some] <;> rfl) | (simp [*, errW_none, errW_some] <;> rfl), zT HB⟩
      · rw [if_neg c9] at H
        have c9b0 : (a0_1.toList == ([] : List UInt8)) = false := beq_eq_false_iff_ne.mpr c9
        have c9b1 : (a0_1.toList != ([] : List UInt8)) = true := bne_iff_ne.mpr c9
        simp only [Option.some.injEq, Prod.mk.injEq] at H
        obtain ⟨rfl, rfl⟩ := H
        go_enter Tryz.func37, Tryz.ntmps37
        go_wp2_with (first | ((with_reducible refine gate_dst (N := 1) rfl ?_); refine box_event ?hg (N := 1) ?hd (cs := #[.bool false, .string a0_1, .string a0_2]) (t := 27) ?hr ?_; (case hd => rfl); (case hg => rfl); (case hr => first | (go_simp; done) | (go_simp; rfl)); intro gb595 hg w14 hbox hb; have BK595 := Aside0.mk (hbox); have GW595 := zG hg HB; have GE595 := zG hg HB; replace HB := zS HB hb; clear hb hbox hg; obtain ⟨hcz15_0, hcz15_1, hcz15_2, hfz15_0, hfz15_1, hfz15_2⟩ := z3 BK595) | ((with_reducible refine gate_callee (f := 41) rfl ?_); refine zC Tryz.func41 (by kernel_rfl) #[.agg #[.bool false, .string a0_1, .string a0_2]] ?_; (with_reducible refine (rat_Check.calls k false a0_1 a0_2 t596 _ A2.out).mono ?_); rintro e w16 ⟨rfl, hb⟩; refine ⟨_, rfl, ?_⟩; replace BK595 := zB BK595 hb; replace HB := zS HB hb; (try clear hb); obtain ⟨hcz17_0, hcz17_1, hcz17_2, hfz17_0, hfz17_1, hfz17_2⟩ := z3 BK595))
        go_ret2
        exact ⟨by first | rfl | (simp [errW_none, errW_some] <;> rfl) | (simp [*, errW_none, errW_some] <;> rfl), zT HB⟩
  · rw [if_neg c3] at H
    have c3b0 : (t596 == 0) = false := beq_eq_false_iff_ne.mpr c3
    have c3b1 : (t596 != 0) = true := bne_iff_ne.mpr c3
    simp only [Option.some.injEq, Prod.mk.injEq] at H
    obtain ⟨rfl, rfl⟩ := H
    go_enter Tryz.func37, Tryz.ntmps37
    go_wp2_with (first | ((with_reducible refine gate_dst (N := 1) rfl ?_); refine box_event ?hg (N := 1) ?hd (cs := #[.bool a0_0, .string a0_1, .string a0_2]) (t := 27) ?hr ?_; (case hd => rfl); (case hg => rfl); (case hr => first | (go_simp; done) | (go_simp; rfl)); intro gb595 hg w18 hbox hb; have BK595 := Aside0.mk (hbox); have GW595 := zG hg HB; have GE595 := zG hg HB; replace HB := zS HB hb; clear hb hbox hg; obtain ⟨hcz19_0, hcz19_1, hcz19_2, hfz19_0, hfz19_1, hfz19_2⟩ := z3 BK595) | ((with_reducible refine gate_callee (f := 41) rfl ?_); refine zC Tryz.func41 (by kernel_rfl) #[.agg #[.bool a0_0, .string a0_1, .string a0_2]] ?_; (with_reducible refine (rat_Check.calls k a0_0 a0_1 a0_2 t596 _ A2.out).mono ?_); rintro e w20 ⟨rfl, hb⟩; refine ⟨_, rfl, ?_⟩; replace BK595 := zB BK595 hb; replace HB := zS HB hb; (try clear hb)))
    go_ret2
    exact ⟨by first | rfl | (simp [errW_none, errW_some] <;> rfl) | (simp [*, errW_none, errW_some] <;> rfl), zT HB⟩

end Go.Proofs.YtoijlbcbbblbfaaGreatDoorH.R
