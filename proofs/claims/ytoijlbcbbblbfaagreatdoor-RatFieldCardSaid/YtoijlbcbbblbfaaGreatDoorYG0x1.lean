import Derived.Test.YtoijlbcbbblbfaaGreatDoorYG0x0
import Derived.Test.YtoijlbcbbblbfaaGreatDoorYV1
import Derived.Test.YtoijlbcbbblbfaaGreatDoorYShelf
-- printed by hp.py
namespace Go.Proofs.YtoijlbcbbblbfaaGreatDoorH.R
open Go.RowKit Go.Proofs.YtoijlbcbbblbfaaGreatDoorH.Z Go.Proofs.YtoijlbcbbblbfaaGreatDoorW.PrintWords Go.Proofs.YtoijlbcbbblbfaaGreatDoorW.PrintLast Go.Proofs.YtoijlbcbbblbfaaGreatDoorW.PrintMore
attribute [local go_sem] max2_int min2_int max_two min_two max_three min_three max_four min_four   -- for this text's walks alone
set_option linter.unusedVariables false
set_option linter.unusedSimpArgs false

/-! ### rat_Div: function 29 -/
def rat_Div.f (k : Nat) (a0_0 : Bool) (a0_1 : ByteArray) (a0_2 : ByteArray) (a1_0 : Bool) (a1_1 : ByteArray) (a1_2 : ByteArray) : Option (Bool × ByteArray × ByteArray × Int) := (rat_both.f k a0_0 a0_1 a0_2 a1_0 a1_1 a1_2).bind fun t185 => (if t185 = 0 then (if a1_1.toList = ([] : List UInt8) then (some (false, (⟨#[]⟩ : ByteArray), (⟨#[]⟩ : ByteArray), 3)) else ((rat_den.f a1_0 a1_1 a1_2).bind fun bt186 => ((rat_do_of_whole_Mul.f a0_0 a0_1 bt186.1 bt186.2).bind fun bt188 => ((rat_den.f a0_0 a0_1 a0_2).bind fun bt190 => ((rat_do_of_whole_Mul.f bt190.1 bt190.2 a1_0 a1_1).bind fun bt192 => ((rat_lowest.f k bt188.1 bt188.2 bt192.1 bt192.2).bind fun bt194 => (some (bt194.1, bt194.2.1, bt194.2.2, 0)))))))) else (some (false, (⟨#[]⟩ : ByteArray), (⟨#[]⟩ : ByteArray), t185)))
def rat_Div.T6 : Bool × List (List Nat × List Nat) := (true, [([], []), ([0], [0]), ([], []), ([2], [2]), ([1, 3, 3], [1, 3]), ([], []), ([5, 4], [5]), ([], []), ([7], [7]), ([6, 8, 6], [6, 8]), ([4, 9, 9], [4, 9]), ([10, 10, 0, 1, 2, 3, 4, 5, 6, 7, 8, 9, 10], [10]), ([11, 0, 1, 2, 3, 4, 5, 6, 7, 8, 9, 10, 11], [])])
def rat_Div.B6 : List Nat := [0, 1, 0, 4, 15, 0, 63, 0, 128, 511, 1023, 2047, 4095]
theorem rat_Div.tab6 : rtab .any (opsOf Tryz.f29 6) = rat_Div.T6 := by kernel_rfl
theorem rat_Div.bits6 : waitsOk rat_Div.T6.2 rat_Div.B6 = true := by kernel_rfl
set_option maxHeartbeats 8000000 in
set_option maxRecDepth 100000 in
theorem rat_Div.calls (k : Nat) (a0_0 : Bool) (a0_1 : ByteArray) (a0_2 : ByteArray) (a1_0 : Bool) (a1_1 : ByteArray) (a1_2 : ByteArray) (r1 : Bool) (r2 : ByteArray) (r3 : ByteArray) (r4 : Int) (w : World) (h : rat_Div.f k a0_0 a0_1 a0_2 a1_0 a1_1 a1_2 = some (r1, r2, r3, r4)) :
    Calls Tryz.prog 29 #[.agg #[.bool a0_0, .string a0_1, .string a0_2], .agg #[.bool a1_0, .string a1_1, .string a1_2]] w fun e w' => e = .returned (.tuple #[.agg #[.bool r1, .string r2, .string r3], .int .i64 r4]) ∧ Below w.heap.size w w' := by
  have hu27 := Tryz.underlying27
  have hu24 := Tryz.underlying24; have hf0 := zf240; have hf1 := zf241; have hf2 := zf270; have hf3 := zf271
  have HB := Aside0.mk (Below.refl w.heap.size w)
  have H : ((rat_both.f k a0_0 a0_1 a0_2 a1_0 a1_1 a1_2).bind fun t185 => (if t185 = 0 then (if a1_1.toList = ([] : List UInt8) then (some (false, (⟨#[]⟩ : ByteArray), (⟨#[]⟩ : ByteArray), 3)) else ((rat_den.f a1_0 a1_1 a1_2).bind fun bt186 => ((rat_do_of_whole_Mul.f a0_0 a0_1 bt186.1 bt186.2).bind fun bt188 => ((rat_den.f a0_0 a0_1 a0_2).bind fun bt190 => ((rat_do_of_whole_Mul.f bt190.1 bt190.2 a1_0 a1_1).bind fun bt192 => ((rat_lowest.f k bt188.1 bt188.2 bt192.1 bt192.2).bind fun bt194 => (some (bt194.1, bt194.2.1, bt194.2.2, 0)))))))) else (some (false, (⟨#[]⟩ : ByteArray), (⟨#[]⟩ : ByteArray), t185)))) = some (r1, r2, r3, r4) := h
  clear h
  replace H := Option.bind_eq_some_iff.mp H
  obtain ⟨t185, A30, H⟩ := H
  replace H : (if t185 = 0 then (if a1_1.toList = ([] : List UInt8) then (some (false, (⟨#[]⟩ : ByteArray), (⟨#[]⟩ : ByteArray), 3)) else ((rat_den.f a1_0 a1_1 a1_2).bind fun bt186 => ((rat_do_of_whole_Mul.f a0_0 a0_1 bt186.1 bt186.2).bind fun bt188 => ((rat_den.f a0_0 a0_1 a0_2).bind fun bt190 => ((rat_do_of_whole_Mul.f bt190.1 bt190.2 a1_0 a1_1).bind fun bt192 => ((rat_lowest.f k bt188.1 bt188.2 bt192.1 bt192.2).bind fun bt194 => (some (bt194.1, bt194.2.1, bt194.2.2, 0)))))))) else (some (false, (⟨#[]⟩ : ByteArray), (⟨#[]⟩ : ByteArray), t185))) = some (r1, r2, r3, r4) := H
  have A3 := Aside0.mk A30
  clear A30
  by_cases c4 : t185 = 0
  · rw [if_pos c4] at H
    have c4b0 : (t185 == 0) = true := beq_iff_eq.mpr c4
    have c4b1 : (t185 != 0) = false := bne_eq_false_iff_eq.mpr c4
    clear c4
    by_cases c5 : a1_1.toList = ([] : List UInt8)
    · rw [if_pos c5] at H
      have c5b0 : (a1_1.toList == ([] : List UInt8)) = true := beq_iff_eq.mpr c5
      have c5b1 : (a1_1.toList != ([] : List UInt8)) = false := bne_eq_false_iff_eq.mpr c5
      clear c5
      simp only [Option.some.injEq, Prod.mk.injEq] at H
      obtain ⟨rfl, rfl, rfl, rfl⟩ := H
      go_enter Tryz.func29, Tryz.ntmps29
      go_wp2_with (first | ((with_reducible refine gate_dst (N := 2) rfl ?_); refine zY 2 #[.bool a0_0, .string a0_1, .string a0_2] 27 ?_; intro gb182 hg w6 hbox hb; have BK182 := Aside0.mk (hbox); have GW182 := zG hg HB; have GE182 := zG hg HB; replace HB := zS HB hb; clear hb hbox hg) | ((with_reducible refine gate_dst (N := 3) rfl ?_); refine zY 3 #[.bool a1_0, .string a1_1, .string a1_2] 27 ?_; intro gb183 hg w7 hbox hb; have BK183 := Aside0.mk (hbox); have GW183 := zG hg HB; have GE183 := zG hg HB; obtain ⟨NB182_183, NB183_182⟩ := zQ hg BK182; replace BK182 := zB BK182 hb; replace HB := zS HB hb; clear hb hbox hg) | ((with_reducible refine gate_dst (N := 4) rfl ?_); refine zY 4 #[.bool false, .string (⟨#[]⟩ : ByteArray), .string (⟨#[]⟩ : ByteArray)] 27 ?_; intro gb184 hg w8 hbox hb; have BK184 := Aside0.mk (hbox); have GW184 := zG hg HB; have GE184 := zG hg HB; obtain ⟨NB182_184, NB184_182⟩ := zQ hg BK182; obtain ⟨NB183_184, NB184_183⟩ := zQ hg BK183; obtain ⟨BK182, BK183⟩ := zB2 BK182 BK183 hb; replace HB := zS HB hb; clear hb hbox hg; have hnb9 := NB182_183.out; have hnc9 := NB183_182.out; have hnb10 := NB182_184.out; have hnc10 := NB184_182.out; obtain ⟨hcz11_0, hcz11_1, hcz11_2, hfz11_0, hfz11_1, hfz11_2⟩ := z3 BK182; have hnb12 := NB183_184.out; have hnc12 := NB184_183.out; obtain ⟨hcz13_0, hcz13_1, hcz13_2, hfz13_0, hfz13_1, hfz13_2⟩ := z3 BK183) | ((with_reducible refine gate_callee (f := 72) rfl ?_); refine zC Tryz.func72 (by kernel_rfl) #[.agg #[.bool a0_0, .string a0_1, .string a0_2], .agg #[.bool a1_0, .string a1_1, .string a1_2]] ?_; (with_reducible refine (rat_both.calls k a0_0 a0_1 a0_2 a1_0 a1_1 a1_2 t185 _ A3.out).mono ?_); rintro e w14 ⟨rfl, hb⟩; refine ⟨_, rfl, ?_⟩; obtain ⟨BK182, BK183, BK184⟩ := zB3 BK182 BK183 BK184 hb; replace HB := zS HB hb; (try clear hb); obtain ⟨hcz15_0, hcz15_1, hcz15_2, hfz15_0, hfz15_1, hfz15_2⟩ := z3 BK183; obtain ⟨hcz16_0, hcz16_1, hcz16_2, hfz16_0, hfz16_1, hfz16_2⟩ := z3 BK184))
      refine bodyPost_ret (results_ct rfl _ _ gb184 27 #[.bool false, .string (⟨#[]⟩ : ByteArray), .string (⟨#[]⟩ : ByteArray)] (0, 0) _ rfl (by (with_reducible repeat (first | refine blk_drewN ?_ _ | refine blk_drew ?_ | refine blk_alloc ?_ _)); refine zP (cs := #[.bool false, .string (⟨#[]⟩ : ByteArray), .string (⟨#[]⟩ : ByteArray)]) ?_ 2 _; (with_reducible repeat (first | refine blk_drewN ?_ _ | refine blk_drew ?_ | refine blk_alloc ?_ _)); refine zP (cs := #[.bool false, .string (⟨#[]⟩ : ByteArray), .string (⟨#[]⟩ : ByteArray)]) ?_ 1 _; (with_reducible repeat (first | refine blk_drewN ?_ _ | refine blk_drew ?_ | refine blk_alloc ?_ _)); refine zP (cs := #[.bool false, .string (⟨#[]⟩ : ByteArray), .string (⟨#[]⟩ : ByteArray)]) ?_ 0 _; (with_reducible repeat (first | refine blk_drewN ?_ _ | refine blk_drew ?_ | refine blk_alloc ?_ _)); exact BK184.out) Tryz.underlying27 rfl (by kernel_rfl)) rfl ?_
      exact ⟨by first | rfl | (simp [errW_none, errW_some] <;> rfl) | (simp [*, errW_none, errW_some] <;> rfl), zT HB⟩
    · rw [if_neg c5] at H
      have c5b0 : (a1_1.toList == ([] : List UInt8)) = false := beq_eq_false_iff_ne.mpr c5
      have c5b1 : (a1_1.toList != ([] : List UInt8)) = true := bne_iff_ne.mpr c5
      replace H := Option.bind_eq_some_iff.mp H
      obtain ⟨⟨t186, t187⟩, A170, H⟩ := H
      replace H : ((rat_do_of_whole_Mul.f a0_0 a0_1 t186 t187).bind fun bt188 => ((rat_den.f a0_0 a0_1 a0_2).bind fun bt190 => ((rat_do_of_whole_Mul.f bt190.1 bt190.2 a1_0 a1_1).bind fun bt192 => ((rat_lowest.f k bt188.1 bt188.2 bt192.1 bt192.2).bind fun bt194 => (some (bt194.1, bt194.2.1, bt194.2.2, 0)))))) = some (r1, r2, r3, r4) := H
      have A17 := Aside0.mk A170
      clear A170
      replace H := Option.bind_eq_some_iff.mp H
      obtain ⟨⟨t188, t189⟩, A180, H⟩ := H
      replace H : ((rat_den.f a0_0 a0_1 a0_2).bind fun bt190 => ((rat_do_of_whole_Mul.f bt190.1 bt190.2 a1_0 a1_1).bind fun bt192 => ((rat_lowest.f k t188 t189 bt192.1 bt192.2).bind fun bt194 => (some (bt194.1, bt194.2.1, bt194.2.2, 0))))) = some (r1, r2, r3, r4) := H
      have A18 := Aside0.mk A180
      clear A180
      replace H := Option.bind_eq_some_iff.mp H
      obtain ⟨⟨t190, t191⟩, A190, H⟩ := H
      replace H : ((rat_do_of_whole_Mul.f t190 t191 a1_0 a1_1).bind fun bt192 => ((rat_lowest.f k t188 t189 bt192.1 bt192.2).bind fun bt194 => (some (bt194.1, bt194.2.1, bt194.2.2, 0)))) = some (r1, r2, r3, r4) := H
      have A19 := Aside0.mk A190
      clear A190
      replace H := Option.bind_eq_some_iff.mp H
      obtain ⟨⟨t192, t193⟩, A200, H⟩ := H
      replace H : ((rat_lowest.f k t188 t189 t192 t193).bind fun bt194 => (some (bt194.1, bt194.2.1, bt194.2.2, 0))) = some (r1, r2, r3, r4) := H
      have A20 := Aside0.mk A200
      clear A200
      replace H := Option.bind_eq_some_iff.mp H
      obtain ⟨⟨t194, t195, t196⟩, A210, H⟩ := H
      replace H : (some (t194, t195, t196, 0)) = some (r1, r2, r3, r4) := H
      have A21 := Aside0.mk A210
      clear A210
      simp only [Option.some.injEq, Prod.mk.injEq] at H
      obtain ⟨rfl, rfl, rfl, rfl⟩ := H
      go_enter Tryz.func29, Tryz.ntmps29
      try go_wp2_with (first | ((with_reducible refine gate_dst (N := 2) rfl ?_); refine zY 2 #[.bool a0_0, .string a0_1, .string a0_2] 27 ?_; intro gb182 hg w22 hbox hb; have BK182 := Aside0.mk (hbox); have GW182 := zG hg HB; have GE182 := zG hg HB; replace HB := zS HB hb; clear hb hbox hg) | ((with_reducible refine gate_dst (N := 3) rfl ?_); refine zY 3 #[.bool a1_0, .string a1_1, .string a1_2] 27 ?_; intro gb183 hg w23 hbox hb; have BK183 := Aside0.mk (hbox); have GW183 := zG hg HB; have GE183 := zG hg HB; obtain ⟨NB182_183, NB183_182⟩ := zQ hg BK182; replace BK182 := zB BK182 hb; replace HB := zS HB hb; clear hb hbox hg) | ((with_reducible refine gate_dst (N := 4) rfl ?_); refine zY 4 #[.bool false, .string (⟨#[]⟩ : ByteArray), .string (⟨#[]⟩ : ByteArray)] 27 ?_; intro gb184 hg w24 hbox hb; have BK184 := Aside0.mk (hbox); have GW184 := zG hg HB; have GE184 := zG hg HB; obtain ⟨NB182_184, NB184_182⟩ := zQ hg BK182; obtain ⟨NB183_184, NB184_183⟩ := zQ hg BK183; obtain ⟨BK182, BK183⟩ := zB2 BK182 BK183 hb; replace HB := zS HB hb; clear hb hbox hg; have hnb25 := NB182_183.out; have hnc25 := NB183_182.out; have hnb26 := NB182_184.out; have hnc26 := NB184_182.out; obtain ⟨hcz27_0, hcz27_1, hcz27_2, hfz27_0, hfz27_1, hfz27_2⟩ := z3 BK182; have hnb28 := NB183_184.out; have hnc28 := NB184_183.out; obtain ⟨hcz29_0, hcz29_1, hcz29_2, hfz29_0, hfz29_1, hfz29_2⟩ := z3 BK183) | ((with_reducible refine gate_callee (f := 72) rfl ?_); refine zC Tryz.func72 (by kernel_rfl) #[.agg #[.bool a0_0, .string a0_1, .string a0_2], .agg #[.bool a1_0, .string a1_1, .string a1_2]] ?_; (with_reducible refine (rat_both.calls k a0_0 a0_1 a0_2 a1_0 a1_1 a1_2 t185 _ A3.out).mono ?_); rintro e w30 ⟨rfl, hb⟩; refine ⟨_, rfl, ?_⟩; obtain ⟨BK182, BK183, BK184⟩ := zB3 BK182 BK183 BK184 hb; replace HB := zS HB hb; (try clear hb); obtain ⟨hcz31_0, hcz31_1, hcz31_2, hfz31_0, hfz31_1, hfz31_2⟩ := z3 BK183))
      replace BK182 := zD BK182; replace BK183 := zD BK183; replace BK184 := zD BK184; replace HB := zF HB
      refine start_ (n := 13) (S := fun w' => w'.cell? ⟨gb182, 0, none⟩ = some (.bool a0_0) ∧ w'.cell? ⟨gb182, 1, none⟩ = some (.string a0_1) ∧ w'.cell? ⟨gb182, 2, none⟩ = some (.string a0_2) ∧ w'.cell? ⟨gb183, 0, none⟩ = some (.bool a1_0) ∧ w'.cell? ⟨gb183, 1, none⟩ = some (.string a1_1) ∧ w'.cell? ⟨gb183, 2, none⟩ = some (.string a1_2)) (ds := []) #[false, false, false, false, false, false, false, false, false, false, false, false, false] (by kernel_rfl) rfl rfl ⟨(blk_cell BK182.out 0).trans rfl, (blk_cell BK182.out 1).trans rfl, (blk_cell BK182.out 2).trans rfl, (blk_cell BK183.out 0).trans rfl, (blk_cell BK183.out 1).trans rfl, (blk_cell BK183.out 2).trans rfl⟩ (fun hHeld => ?_); refine with_tabW rat_Div.tab6 rat_Div.bits6 (fun HT_ HW_ => ?_)
      generalize w30.drew = w32 at BK182 BK183 BK184 HB hHeld ⊢
      refine zU (i := 0) (N := some 19) #[true, false, false, false, false, false, false, false, false, false, false, false, false] (any_of HT_.out (by kernel_rfl)) ?_
      refine zU (i := 7) (N := some 26) #[true, false, false, false, false, false, false, true, false, false, false, false, false] (any_of HT_.out (by kernel_rfl)) ?_
      refine zV (i := 1) (N := some 20) #[true, true, false, false, false, false, false, true, false, false, false, false, false] (take_ofW HT_.out HW_.out (by kernel_rfl)) hHeld ?_
      refine zV (i := 2) (N := some 21) #[true, true, true, false, false, false, false, true, false, false, false, false, false] (take_ofW HT_.out HW_.out (by kernel_rfl)) hHeld ?_
      refine zV (i := 5) (N := some 24) #[true, true, true, false, false, true, false, true, false, false, false, false, false] (take_ofW HT_.out HW_.out (by kernel_rfl)) hHeld ?_
      refine zV (i := 8) (N := some 27) #[true, true, true, false, false, true, false, true, true, false, false, false, false] (take_ofW HT_.out HW_.out (by kernel_rfl)) hHeld ?_
      refine one_ (i := 3) (N := some 22) #[true, true, true, true, false, true, false, true, true, false, false, false, false] rfl rfl (one_of HT_.out (by kernel_rfl)) (by decide) (fun K hK => ?_)
      refine zX Tryz.func60 (by kernel_rfl) #[.agg #[.bool a1_0, .string a1_1, .string a1_2]] ?_
      with_reducible refine (rat_den.calls a1_0 a1_1 a1_2 t186 t187 _ A17.out).mono ?_
      rintro e w33 ⟨rfl, hb⟩; refine ⟨_, rfl, ?_⟩
      obtain ⟨BK182, BK183, BK184⟩ := zB3 BK182 BK183 BK184 hb; replace HB := zS HB hb
      (try clear hb)
      refine hK.out _ _ ⟨(blk_cell BK182.out 0).trans rfl, (blk_cell BK182.out 1).trans rfl, (blk_cell BK182.out 2).trans rfl, (blk_cell BK183.out 0).trans rfl, (blk_cell BK183.out 1).trans rfl, (blk_cell BK183.out 2).trans rfl⟩ (fun hHeld => ?_)
      clear hK K
      refine zW (some 22) ?_
      refine one_ (i := 4) (N := some 23) #[true, true, true, true, true, true, false, true, true, false, false, false, false] rfl rfl (one_of HT_.out (by kernel_rfl)) (by decide) (fun K hK => ?_)
      refine zX Tryz.func57 (by kernel_rfl) #[.func (.func 58) #[] #[], .agg #[.bool a0_0, .string a0_1], .agg #[.bool t186, .string t187]] ?_
      with_reducible refine (rat_do_of_whole_Mul.calls a0_0 a0_1 t186 t187 t188 t189 _ A18.out).mono ?_
      rintro e w34 ⟨rfl, hb⟩; refine ⟨_, rfl, ?_⟩
      obtain ⟨BK182, BK183, BK184⟩ := zB3 BK182 BK183 BK184 hb; replace HB := zS HB hb
      (try clear hb)
      refine hK.out _ _ ⟨(blk_cell BK182.out 0).trans rfl, (blk_cell BK182.out 1).trans rfl, (blk_cell BK182.out 2).trans rfl, (blk_cell BK183.out 0).trans rfl, (blk_cell BK183.out 1).trans rfl, (blk_cell BK183.out 2).trans rfl⟩ (fun hHeld => ?_)
      clear hK K
      refine zW (some 23) ?_
      refine one_ (i := 6) (N := some 25) #[true, true, true, true, true, true, true, true, true, false, false, false, false] rfl rfl (one_of HT_.out (by kernel_rfl)) (by decide) (fun K hK => ?_)
      refine zX Tryz.func60 (by kernel_rfl) #[.agg #[.bool a0_0, .string a0_1, .string a0_2]] ?_
      with_reducible refine (rat_den.calls a0_0 a0_1 a0_2 t190 t191 _ A19.out).mono ?_
      rintro e w35 ⟨rfl, hb⟩; refine ⟨_, rfl, ?_⟩
      obtain ⟨BK182, BK183, BK184⟩ := zB3 BK182 BK183 BK184 hb; replace HB := zS HB hb
      (try clear hb)
      refine hK.out _ _ ⟨(blk_cell BK182.out 0).trans rfl, (blk_cell BK182.out 1).trans rfl, (blk_cell BK182.out 2).trans rfl, (blk_cell BK183.out 0).trans rfl, (blk_cell BK183.out 1).trans rfl, (blk_cell BK183.out 2).trans rfl⟩ (fun hHeld => ?_)
      clear hK K
      refine zW (some 25) ?_
      refine one_ (i := 9) (N := some 28) #[true, true, true, true, true, true, true, true, true, true, false, false, false] rfl rfl (one_of HT_.out (by kernel_rfl)) (by decide) (fun K hK => ?_)
      refine zX Tryz.func57 (by kernel_rfl) #[.func (.func 58) #[] #[], .agg #[.bool t190, .string t191], .agg #[.bool a1_0, .string a1_1]] ?_
      with_reducible refine (rat_do_of_whole_Mul.calls t190 t191 a1_0 a1_1 t192 t193 _ A20.out).mono ?_
      rintro e w36 ⟨rfl, hb⟩; refine ⟨_, rfl, ?_⟩
      obtain ⟨BK182, BK183, BK184⟩ := zB3 BK182 BK183 BK184 hb; replace HB := zS HB hb
      (try clear hb)
      refine hK.out _ _ ⟨(blk_cell BK182.out 0).trans rfl, (blk_cell BK182.out 1).trans rfl, (blk_cell BK182.out 2).trans rfl, (blk_cell BK183.out 0).trans rfl, (blk_cell BK183.out 1).trans rfl, (blk_cell BK183.out 2).trans rfl⟩ (fun hHeld => ?_)
      clear hK K
      refine zW (some 28) ?_
      refine one_ (i := 10) (N := some 29) #[true, true, true, true, true, true, true, true, true, true, true, false, false] rfl rfl (one_of HT_.out (by kernel_rfl)) (by decide) (fun K hK => ?_)
      refine zX Tryz.func47 (by kernel_rfl) #[.agg #[.bool t188, .string t189], .agg #[.bool t192, .string t193]] ?_
      with_reducible refine (rat_lowest.calls k t188 t189 t192 t193 t194 t195 t196 _ A21.out).mono ?_
      rintro e w37 ⟨rfl, hb⟩; refine ⟨_, rfl, ?_⟩
      obtain ⟨BK182, BK183, BK184⟩ := zB3 BK182 BK183 BK184 hb; replace HB := zS HB hb
      (try clear hb)
      refine hK.out _ _ ⟨(blk_cell BK182.out 0).trans rfl, (blk_cell BK182.out 1).trans rfl, (blk_cell BK182.out 2).trans rfl, (blk_cell BK183.out 0).trans rfl, (blk_cell BK183.out 1).trans rfl, (blk_cell BK183.out 2).trans rfl⟩ (fun hHeld => ?_)
      clear hK K
      refine zW (some 29) ?_
      refine one_ (i := 11) (N := none) #[true, true, true, true, true, true, true, true, true, true, true, true, false] rfl rfl (one_of HT_.out (by kernel_rfl)) (by decide) (fun K hK => ?_)
      have hs38 : w37.cell? ⟨gb184, 0, none⟩ = some (.bool false) := (blk_cell BK184.out 0).trans rfl
      have hfs38 := blk_frozen BK184.out 0
      have hns38_0 := NB182_184.out
      have hns38_1 := NB183_184.out
      have hms38_0 := NB184_182.out
      have hms38_1 := NB184_183.out
      have hs39 : w37.cell? ⟨gb184, 1, none⟩ = some (.string (⟨#[]⟩ : ByteArray)) := (blk_cell BK184.out 1).trans rfl
      have hfs39 := blk_frozen BK184.out 1
      have hns39_0 := NB182_184.out
      have hns39_1 := NB183_184.out
      have hms39_0 := NB184_182.out
      have hms39_1 := NB184_183.out
      have hs40 : w37.cell? ⟨gb184, 2, none⟩ = some (.string (⟨#[]⟩ : ByteArray)) := (blk_cell BK184.out 2).trans rfl
      have hfs40 := blk_frozen BK184.out 2
      have hns40_0 := NB182_184.out
      have hns40_1 := NB183_184.out
      have hms40_0 := NB184_182.out
      have hms40_1 := NB184_183.out
      refine skip_ (w1 := ?_) (by rfl) rfl ?_ ?_
      rotate_left
      · go_simp
        rfl
      refine hK.out _ _ ⟨((cell_far (p := ⟨gb184, _, none⟩) NB182_184.out _).trans (((cell_far (p := ⟨gb184, _, none⟩) NB182_184.out _).trans (((cell_far (p := ⟨gb184, _, none⟩) NB182_184.out _).trans (hHeld.1)))))), ((cell_far (p := ⟨gb184, _, none⟩) NB182_184.out _).trans (((cell_far (p := ⟨gb184, _, none⟩) NB182_184.out _).trans (((cell_far (p := ⟨gb184, _, none⟩) NB182_184.out _).trans (hHeld.2.1)))))), ((cell_far (p := ⟨gb184, _, none⟩) NB182_184.out _).trans (((cell_far (p := ⟨gb184, _, none⟩) NB182_184.out _).trans (((cell_far (p := ⟨gb184, _, none⟩) NB182_184.out _).trans (hHeld.2.2.1)))))), ((cell_far (p := ⟨gb184, _, none⟩) NB183_184.out _).trans (((cell_far (p := ⟨gb184, _, none⟩) NB183_184.out _).trans (((cell_far (p := ⟨gb184, _, none⟩) NB183_184.out _).trans (hHeld.2.2.2.1)))))), ((cell_far (p := ⟨gb184, _, none⟩) NB183_184.out _).trans (((cell_far (p := ⟨gb184, _, none⟩) NB183_184.out _).trans (((cell_far (p := ⟨gb184, _, none⟩) NB183_184.out _).trans (hHeld.2.2.2.2.1)))))), ((cell_far (p := ⟨gb184, _, none⟩) NB183_184.out _).trans (((cell_far (p := ⟨gb184, _, none⟩) NB183_184.out _).trans (((cell_far (p := ⟨gb184, _, none⟩) NB183_184.out _).trans (hHeld.2.2.2.2.2))))))⟩ (fun hHeld => ?_)
      clear hK K
      refine zU (i := 12) (N := some 5) #[true, true, true, true, true, true, true, true, true, true, true, true, true] (any_of HT_.out (by kernel_rfl)) ?_
      refine done_ (done_of HT_.out (by kernel_rfl)) ?_
      try go_wp2
      refine bodyPost_ret (results_ct rfl _ _ gb184 27 #[.bool t194, .string t195, .string t196] (0, 0) _ rfl (by (with_reducible repeat (first | refine blk_drewN ?_ _ | refine blk_drew ?_ | refine blk_alloc ?_ _)); refine zP (cs := #[.bool t194, .string t195, .string (⟨#[]⟩ : ByteArray)]) ?_ 2 _; (with_reducible repeat (first | refine blk_drewN ?_ _ | refine blk_drew ?_ | refine blk_alloc ?_ _)); refine zP (cs := #[.bool t194, .string (⟨#[]⟩ : ByteArray), .string (⟨#[]⟩ : ByteArray)]) ?_ 1 _; (with_reducible repeat (first | refine blk_drewN ?_ _ | refine blk_drew ?_ | refine blk_alloc ?_ _)); refine zP (cs := #[.bool false, .string (⟨#[]⟩ : ByteArray), .string (⟨#[]⟩ : ByteArray)]) ?_ 0 _; (with_reducible repeat (first | refine blk_drewN ?_ _ | refine blk_drew ?_ | refine blk_alloc ?_ _)); exact BK184.out) Tryz.underlying27 rfl (by kernel_rfl)) rfl ?_
      exact ⟨by first | rfl | (simp [errW_none, errW_some] <;> rfl) | (simp [*, errW_none, errW_some] <;> rfl), zT HB⟩
  · rw [if_neg c4] at H
    have c4b0 : (t185 == 0) = false := beq_eq_false_iff_ne.mpr c4
    have c4b1 : (t185 != 0) = true := bne_iff_ne.mpr c4
    simp only [Option.some.injEq, Prod.mk.injEq] at H
    obtain ⟨rfl, rfl, rfl, rfl⟩ := H
    go_enter Tryz.func29, Tryz.ntmps29
    go_wp2_with (first | ((with_reducible refine gate_dst (N := 2) rfl ?_); refine zY 2 #[.bool a0_0, .string a0_1, .string a0_2] 27 ?_; intro gb182 hg w41 hbox hb; have BK182 := Aside0.mk (hbox); have GW182 := zG hg HB; have GE182 := zG hg HB; replace HB := zS HB hb; clear hb hbox hg) | ((with_reducible refine gate_dst (N := 3) rfl ?_); refine zY 3 #[.bool a1_0, .string a1_1, .string a1_2] 27 ?_; intro gb183 hg w42 hbox hb; have BK183 := Aside0.mk (hbox); have GW183 := zG hg HB; have GE183 := zG hg HB; obtain ⟨NB182_183, NB183_182⟩ := zQ hg BK182; replace BK182 := zB BK182 hb; replace HB := zS HB hb; clear hb hbox hg) | ((with_reducible refine gate_dst (N := 4) rfl ?_); refine zY 4 #[.bool false, .string (⟨#[]⟩ : ByteArray), .string (⟨#[]⟩ : ByteArray)] 27 ?_; intro gb184 hg w43 hbox hb; have BK184 := Aside0.mk (hbox); have GW184 := zG hg HB; have GE184 := zG hg HB; obtain ⟨NB182_184, NB184_182⟩ := zQ hg BK182; obtain ⟨NB183_184, NB184_183⟩ := zQ hg BK183; obtain ⟨BK182, BK183⟩ := zB2 BK182 BK183 hb; replace HB := zS HB hb; clear hb hbox hg; have hnb44 := NB182_183.out; have hnc44 := NB183_182.out; have hnb45 := NB182_184.out; have hnc45 := NB184_182.out; obtain ⟨hcz46_0, hcz46_1, hcz46_2, hfz46_0, hfz46_1, hfz46_2⟩ := z3 BK182; have hnb47 := NB183_184.out; have hnc47 := NB184_183.out; obtain ⟨hcz48_0, hcz48_1, hcz48_2, hfz48_0, hfz48_1, hfz48_2⟩ := z3 BK183) | ((with_reducible refine gate_callee (f := 72) rfl ?_); refine zC Tryz.func72 (by kernel_rfl) #[.agg #[.bool a0_0, .string a0_1, .string a0_2], .agg #[.bool a1_0, .string a1_1, .string a1_2]] ?_; (with_reducible refine (rat_both.calls k a0_0 a0_1 a0_2 a1_0 a1_1 a1_2 t185 _ A3.out).mono ?_); rintro e w49 ⟨rfl, hb⟩; refine ⟨_, rfl, ?_⟩; obtain ⟨BK182, BK183, BK184⟩ := zB3 BK182 BK183 BK184 hb; replace HB := zS HB hb; (try clear hb); obtain ⟨hcz50_0, hcz50_1, hcz50_2, hfz50_0, hfz50_1, hfz50_2⟩ := z3 BK184))
    refine bodyPost_ret (results_ct rfl _ _ gb184 27 #[.bool false, .string (⟨#[]⟩ : ByteArray), .string (⟨#[]⟩ : ByteArray)] (0, 0) _ rfl (by (with_reducible repeat (first | refine blk_drewN ?_ _ | refine blk_drew ?_ | refine blk_alloc ?_ _)); refine zP (cs := #[.bool false, .string (⟨#[]⟩ : ByteArray), .string (⟨#[]⟩ : ByteArray)]) ?_ 2 _; (with_reducible repeat (first | refine blk_drewN ?_ _ | refine blk_drew ?_ | refine blk_alloc ?_ _)); refine zP (cs := #[.bool false, .string (⟨#[]⟩ : ByteArray), .string (⟨#[]⟩ : ByteArray)]) ?_ 1 _; (with_reducible repeat (first | refine blk_drewN ?_ _ | refine blk_drew ?_ | refine blk_alloc ?_ _)); refine zP (cs := #[.bool false, .string (⟨#[]⟩ : ByteArray), .string (⟨#[]⟩ : ByteArray)]) ?_ 0 _; (with_reducible repeat (first | refine blk_drewN ?_ _ | refine blk_drew ?_ | refine blk_alloc ?_ _)); exact BK184.out) Tryz.underlying27 rfl (by kernel_rfl)) rfl ?_
    exact ⟨by first | rfl | (simp [errW_none, errW_some] <;> rfl) | (simp [*, errW_none, errW_some] <;> rfl), zT HB⟩

end Go.Proofs.YtoijlbcbbblbfaaGreatDoorH.R

-- printed by hp.py
namespace Go.Proofs.YtoijlbcbbblbfaaGreatDoorH.R
open Go.RowKit Go.Proofs.YtoijlbcbbblbfaaGreatDoorH.Z Go.Proofs.YtoijlbcbbblbfaaGreatDoorW.PrintWords Go.Proofs.YtoijlbcbbblbfaaGreatDoorW.PrintLast Go.Proofs.YtoijlbcbbblbfaaGreatDoorW.PrintMore
attribute [local go_sem] max2_int min2_int max_two min_two max_three min_three max_four min_four   -- for this text's walks alone
set_option linter.unusedVariables false
set_option linter.unusedSimpArgs false

/-! ### whole_Print: function 61 -/
open Go.Proofs.YtoijlbcbbblbfaaGreatDoor Go.Proofs.YtoijlbcbbblbfaaGreatDoor.Num in
def whole_Print.f (a0_0 : Bool) (a0_1 : ByteArray) : Option (ByteArray × Int) := if a0_1.size ≤ 15000 then some ((printF (a0_0, a0_1)).1, (printF (a0_0, a0_1)).2) else none
open Go.Proofs.YtoijlbcbbblbfaaGreatDoor Go.Proofs.YtoijlbcbbblbfaaGreatDoor.Num in
theorem whole_Print.calls (a0_0 : Bool) (a0_1 : ByteArray) (r1 : ByteArray) (r2 : Int) (w : World) (h : whole_Print.f a0_0 a0_1 = some (r1, r2)) :
    Calls Tryz.prog 61 #[.agg #[.bool a0_0, .string a0_1]] w fun e w' => e = .returned (.tuple #[.string r1, .int .i64 r2]) ∧ Below w.heap.size w w' := by
  unfold whole_Print.f at h
  split at h
  · rename_i hc
    simp only [Option.some.injEq, Prod.mk.injEq] at h
    obtain ⟨rfl, rfl⟩ := h
    exact print_f2 (a0_0, a0_1) hc w
  · exact absurd h (by simp)


end Go.Proofs.YtoijlbcbbblbfaaGreatDoorH.R

-- printed by hp.py
namespace Go.Proofs.YtoijlbcbbblbfaaGreatDoorH.R
open Go.RowKit Go.Proofs.YtoijlbcbbblbfaaGreatDoorH.Z Go.Proofs.YtoijlbcbbblbfaaGreatDoorW.PrintWords Go.Proofs.YtoijlbcbbblbfaaGreatDoorW.PrintLast Go.Proofs.YtoijlbcbbblbfaaGreatDoorW.PrintMore
attribute [local go_sem] max2_int min2_int max_two min_two max_three min_three max_four min_four   -- for this text's walks alone
set_option linter.unusedVariables false
set_option linter.unusedSimpArgs false

/-! ### rat_Print: function 40 -/
def rat_Print.f (k : Nat) (a0_0 : Bool) (a0_1 : ByteArray) (a0_2 : ByteArray) : Option (ByteArray × Int) := (rat_Check.f k a0_0 a0_1 a0_2).bind fun t198 => (if t198 = 0 then ((whole_Print.f a0_0 a0_1).bind fun bt199 => (if a0_2.toList = ([1] : List UInt8) then (some (bt199.1, 0)) else ((rat_den.f a0_0 a0_1 a0_2).bind fun bt201 => ((whole_Print.f bt201.1 bt201.2).bind fun bt203 => (if bt199.1.size + 1 ≤ 9223372036854775807 then (if (bt199.1 ++ (⟨#[47]⟩ : ByteArray)).size + bt203.1.size ≤ 9223372036854775807 then (some ((bt199.1 ++ (⟨#[47]⟩ : ByteArray)) ++ bt203.1, 0)) else (none)) else (none)))))) else (some ((⟨#[]⟩ : ByteArray), t198)))
set_option maxHeartbeats 8000000 in
set_option maxRecDepth 100000 in
theorem rat_Print.calls (k : Nat) (a0_0 : Bool) (a0_1 : ByteArray) (a0_2 : ByteArray) (r1 : ByteArray) (r2 : Int) (w : World) (h : rat_Print.f k a0_0 a0_1 a0_2 = some (r1, r2)) :
    Calls Tryz.prog 40 #[.agg #[.bool a0_0, .string a0_1, .string a0_2]] w fun e w' => e = .returned (.tuple #[.string r1, .int .i64 r2]) ∧ Below w.heap.size w w' := by
  have hu27 := Tryz.underlying27
  have hu24 := Tryz.underlying24; have hf0 := zf240; have hf1 := zf241; have hf2 := zf270; have hf3 := zf271
  have HB := Aside0.mk (Below.refl w.heap.size w)
  have H : ((rat_Check.f k a0_0 a0_1 a0_2).bind fun t198 => (if t198 = 0 then ((whole_Print.f a0_0 a0_1).bind fun bt199 => (if a0_2.toList = ([1] : List UInt8) then (some (bt199.1, 0)) else ((rat_den.f a0_0 a0_1 a0_2).bind fun bt201 => ((whole_Print.f bt201.1 bt201.2).bind fun bt203 => (if bt199.1.size + 1 ≤ 9223372036854775807 then (if (bt199.1 ++ (⟨#[47]⟩ : ByteArray)).size + bt203.1.size ≤ 9223372036854775807 then (some ((bt199.1 ++ (⟨#[47]⟩ : ByteArray)) ++ bt203.1, 0)) else (none)) else (none)))))) else (some ((⟨#[]⟩ : ByteArray), t198)))) = some (r1, r2) := h
  clear h
  replace H := Option.bind_eq_some_iff.mp H
  obtain ⟨t198, A20, H⟩ := H
  replace H : (if t198 = 0 then ((whole_Print.f a0_0 a0_1).bind fun bt199 => (if a0_2.toList = ([1] : List UInt8) then (some (bt199.1, 0)) else ((rat_den.f a0_0 a0_1 a0_2).bind fun bt201 => ((whole_Print.f bt201.1 bt201.2).bind fun bt203 => (if bt199.1.size + 1 ≤ 9223372036854775807 then (if (bt199.1 ++ (⟨#[47]⟩ : ByteArray)).size + bt203.1.size ≤ 9223372036854775807 then (some ((bt199.1 ++ (⟨#[47]⟩ : ByteArray)) ++ bt203.1, 0)) else (none)) else (none)))))) else (some ((⟨#[]⟩ : ByteArray), t198))) = some (r1, r2) := H
  have A2 := Aside0.mk A20
  clear A20
  by_cases c3 : t198 = 0
  · rw [if_pos c3] at H
    have c3b0 : (t198 == 0) = true := beq_iff_eq.mpr c3
    have c3b1 : (t198 != 0) = false := bne_eq_false_iff_eq.mpr c3
    clear c3
    replace H := Option.bind_eq_some_iff.mp H
    obtain ⟨⟨t199, t200⟩, A40, H⟩ := H
    replace H : (if a0_2.toList = ([1] : List UInt8) then (some (t199, 0)) else ((rat_den.f a0_0 a0_1 a0_2).bind fun bt201 => ((whole_Print.f bt201.1 bt201.2).bind fun bt203 => (if t199.size + 1 ≤ 9223372036854775807 then (if (t199 ++ (⟨#[47]⟩ : ByteArray)).size + bt203.1.size ≤ 9223372036854775807 then (some ((t199 ++ (⟨#[47]⟩ : ByteArray)) ++ bt203.1, 0)) else (none)) else (none))))) = some (r1, r2) := H
    have A4 := Aside0.mk A40
    clear A40
    by_cases c5 : a0_2.toList = ([1] : List UInt8)
    · rw [if_pos c5] at H
      have c5b0 : (a0_2.toList == ([1] : List UInt8)) = true := beq_iff_eq.mpr c5
      have c5b1 : (a0_2.toList != ([1] : List UInt8)) = false := bne_eq_false_iff_eq.mpr c5
      clear c5
      simp only [Option.some.injEq, Prod.mk.injEq] at H
      obtain ⟨rfl, rfl⟩ := H
      go_enter Tryz.func40, Tryz.ntmps40
      go_wp2_with (first | ((with_reducible refine gate_dst (N := 1) rfl ?_); refine zY 1 #[.bool a0_0, .string a0_1, .string a0_2] 27 ?_; intro gb197 hg w6 hbox hb; have BK197 := Aside0.mk (hbox); have GW197 := zG hg HB; have GE197 := zG hg HB; replace HB := zS HB hb; clear hb hbox hg; obtain ⟨hcz7_0, hcz7_1, hcz7_2, hfz7_0, hfz7_1, hfz7_2⟩ := z3 BK197) | ((with_reducible refine gate_callee (f := 41) rfl ?_); refine zC Tryz.func41 (by kernel_rfl) #[.agg #[.bool a0_0, .string a0_1, .string a0_2]] ?_; (with_reducible refine (rat_Check.calls k a0_0 a0_1 a0_2 t198 _ A2.out).mono ?_); rintro e w8 ⟨rfl, hb⟩; refine ⟨_, rfl, ?_⟩; replace BK197 := zB BK197 hb; replace HB := zS HB hb; (try clear hb); obtain ⟨hcz9_0, hcz9_1, hcz9_2, hfz9_0, hfz9_1, hfz9_2⟩ := z3 BK197) | ((with_reducible refine gate_callee (f := 61) rfl ?_); refine zC Tryz.func61 (by kernel_rfl) #[.agg #[.bool a0_0, .string a0_1]] ?_; (with_reducible refine (whole_Print.calls a0_0 a0_1 t199 t200 _ A4.out).mono ?_); rintro e w10 ⟨rfl, hb⟩; refine ⟨_, rfl, ?_⟩; replace BK197 := zB BK197 hb; replace HB := zS HB hb; (try clear hb); obtain ⟨hcz11_0, hcz11_1, hcz11_2, hfz11_0, hfz11_1, hfz11_2⟩ := z3 BK197))
      go_ret2
      exact ⟨by first | rfl | (simp [errW_none, errW_some] <;> rfl) | (simp [*, errW_none, errW_some] <;> rfl), zT HB⟩
    · rw [if_neg c5] at H
      have c5b0 : (a0_2.toList == ([1] : List UInt8)) = false := beq_eq_false_iff_ne.mpr c5
      have c5b1 : (a0_2.toList != ([1] : List UInt8)) = true := bne_iff_ne.mpr c5
      replace H := Option.bind_eq_some_iff.mp H
      obtain ⟨⟨t201, t202⟩, A120, H⟩ := H
      replace H : ((whole_Print.f t201 t202).bind fun bt203 => (if t199.size + 1 ≤ 9223372036854775807 then (if (t199 ++ (⟨#[47]⟩ : ByteArray)).size + bt203.1.size ≤ 9223372036854775807 then (some ((t199 ++ (⟨#[47]⟩ : ByteArray)) ++ bt203.1, 0)) else (none)) else (none))) = some (r1, r2) := H
      have A12 := Aside0.mk A120
      clear A120
      replace H := Option.bind_eq_some_iff.mp H
      obtain ⟨⟨t203, t204⟩, A130, H⟩ := H
      replace H : (if t199.size + 1 ≤ 9223372036854775807 then (if (t199 ++ (⟨#[47]⟩ : ByteArray)).size + t203.size ≤ 9223372036854775807 then (some ((t199 ++ (⟨#[47]⟩ : ByteArray)) ++ t203, 0)) else (none)) else (none)) = some (r1, r2) := H
      have A13 := Aside0.mk A130
      clear A130
      by_cases c14 : t199.size + 1 ≤ 9223372036854775807
      · rw [if_pos c14] at H
        have c14b0 := eq_true c14
        have c14b1 : decide (t199.size + 1 ≤ 9223372036854775807) = true := decide_eq_true c14
        try have c14b2 : (9223372036854775807 < t199.size + 1) = False := eq_false (Nat.not_lt.2 c14)
        by_cases c15 : (t199 ++ (⟨#[47]⟩ : ByteArray)).size + t203.size ≤ 9223372036854775807
        · rw [if_pos c15] at H
          have c15b0 := eq_true c15
          have c15b1 : decide ((t199 ++ (⟨#[47]⟩ : ByteArray)).size + t203.size ≤ 9223372036854775807) = true := decide_eq_true c15
          try have c15b2 : (9223372036854775807 < (t199 ++ (⟨#[47]⟩ : ByteArray)).size + t203.size) = False := eq_false (Nat.not_lt.2 c15)
          simp only [Option.some.injEq, Prod.mk.injEq] at H
          obtain ⟨rfl, rfl⟩ := H
          go_enter Tryz.func40, Tryz.ntmps40
          go_wp2_with (first | ((with_reducible refine gate_dst (N := 1) rfl ?_); refine zY 1 #[.bool a0_0, .string a0_1, .string a0_2] 27 ?_; intro gb197 hg w16 hbox hb; have BK197 := Aside0.mk (hbox); have GW197 := zG hg HB; have GE197 := zG hg HB; replace HB := zS HB hb; clear hb hbox hg; obtain ⟨hcz17_0, hcz17_1, hcz17_2, hfz17_0, hfz17_1, hfz17_2⟩ := z3 BK197) | ((with_reducible refine gate_callee (f := 41) rfl ?_); refine zC Tryz.func41 (by kernel_rfl) #[.agg #[.bool a0_0, .string a0_1, .string a0_2]] ?_; (with_reducible refine (rat_Check.calls k a0_0 a0_1 a0_2 t198 _ A2.out).mono ?_); rintro e w18 ⟨rfl, hb⟩; refine ⟨_, rfl, ?_⟩; replace BK197 := zB BK197 hb; replace HB := zS HB hb; (try clear hb); obtain ⟨hcz19_0, hcz19_1, hcz19_2, hfz19_0, hfz19_1, hfz19_2⟩ := z3 BK197) | ((with_reducible refine gate_callee (f := 61) rfl ?_); refine zC Tryz.func61 (by kernel_rfl) #[.agg #[.bool a0_0, .string a0_1]] ?_; (with_reducible refine (whole_Print.calls a0_0 a0_1 t199 t200 _ A4.out).mono ?_); rintro e w20 ⟨rfl, hb⟩; refine ⟨_, rfl, ?_⟩; replace BK197 := zB BK197 hb; replace HB := zS HB hb; (try clear hb); obtain ⟨hcz21_0, hcz21_1, hcz21_2, hfz21_0, hfz21_1, hfz21_2⟩ := z3 BK197) | ((with_reducible refine gate_callee (f := 60) rfl ?_); refine zC Tryz.func60 (by kernel_rfl) #[.agg #[.bool a0_0, .string a0_1, .string a0_2]] ?_; (with_reducible refine (rat_den.calls a0_0 a0_1 a0_2 t201 t202 _ A12.out).mono ?_); rintro e w22 ⟨rfl, hb⟩; refine ⟨_, rfl, ?_⟩; replace BK197 := zB BK197 hb; replace HB := zS HB hb; (try clear hb)) | ((with_reducible refine gate_callee (f := 61) rfl ?_); refine zC Tryz.func61 (by kernel_rfl) #[.agg #[.bool t201, .string t202]] ?_; (with_reducible refine (whole_Print.calls t201 t202 t203 t204 _ A13.out).mono ?_); rintro e w23 ⟨rfl, hb⟩; refine ⟨_, rfl, ?_⟩; replace BK197 := zB BK197 hb; replace HB := zS HB hb; (try clear hb)))
          go_ret2
          exact ⟨by first | rfl | (simp [errW_none, errW_some] <;> rfl) | (simp [*, errW_none, errW_some] <;> rfl), zT HB⟩
        · rw [if_neg c15] at H
          exact absurd H (by simp)
      · rw [if_neg c14] at H
        exact absurd H (by simp)
  · rw [if_neg c3] at H
    have c3b0 : (t198 == 0) = false := beq_eq_false_iff_ne.mpr c3
    have c3b1 : (t198 != 0) = true := bne_iff_ne.mpr c3
    simp only [Option.some.injEq, Prod.mk.injEq] at H
    obtain ⟨rfl, rfl⟩ := H
    go_enter Tryz.func40, Tryz.ntmps40
    go_wp2_with (first | ((with_reducible refine gate_dst (N := 1) rfl ?_); refine zY 1 #[.bool a0_0, .string a0_1, .string a0_2] 27 ?_; intro gb197 hg w24 hbox hb; have BK197 := Aside0.mk (hbox); have GW197 := zG hg HB; have GE197 := zG hg HB; replace HB := zS HB hb; clear hb hbox hg; obtain ⟨hcz25_0, hcz25_1, hcz25_2, hfz25_0, hfz25_1, hfz25_2⟩ := z3 BK197) | ((with_reducible refine gate_callee (f := 41) rfl ?_); refine zC Tryz.func41 (by kernel_rfl) #[.agg #[.bool a0_0, .string a0_1, .string a0_2]] ?_; (with_reducible refine (rat_Check.calls k a0_0 a0_1 a0_2 t198 _ A2.out).mono ?_); rintro e w26 ⟨rfl, hb⟩; refine ⟨_, rfl, ?_⟩; replace BK197 := zB BK197 hb; replace HB := zS HB hb; (try clear hb)))
    go_ret2
    exact ⟨by first | rfl | (simp [errW_none, errW_some] <;> rfl) | (simp [*, errW_none, errW_some] <;> rfl), zT HB⟩

end Go.Proofs.YtoijlbcbbblbfaaGreatDoorH.R

-- printed by hp.py
namespace Go.Proofs.YtoijlbcbbblbfaaGreatDoorH.R
open Go.RowKit Go.Proofs.YtoijlbcbbblbfaaGreatDoorH.Z Go.Proofs.YtoijlbcbbblbfaaGreatDoorW.PrintWords Go.Proofs.YtoijlbcbbblbfaaGreatDoorW.PrintLast Go.Proofs.YtoijlbcbbblbfaaGreatDoorW.PrintMore
attribute [local go_sem] max2_int min2_int max_two min_two max_three min_three max_four min_four   -- for this text's walks alone
set_option linter.unusedVariables false
set_option linter.unusedSimpArgs false

/-! ### whole_Of: function 54 -/
open Go.Proofs.YtoijlbcbbblbfaaGreatDoor Go.Proofs.YtoijlbcbbblbfaaGreatDoor.Num in
def whole_Of.f (a0 : Int) : Option (Bool × ByteArray) := if -9223372036854775808 ≤ a0 ∧ a0 ≤ 9223372036854775807 then some ((pv a0).1, (pv a0).2) else none
open Go.Proofs.YtoijlbcbbblbfaaGreatDoor Go.Proofs.YtoijlbcbbblbfaaGreatDoor.Num in
theorem whole_Of.calls (a0 : Int) (r1 : Bool) (r2 : ByteArray) (w : World) (h : whole_Of.f a0 = some (r1, r2)) :
    Calls Tryz.prog 54 #[.int .i64 a0] w fun e w' => e = .returned (.agg #[.bool r1, .string r2]) ∧ Below w.heap.size w w' := by
  unfold whole_Of.f at h
  split at h
  · rename_i hc
    simp only [Option.some.injEq, Prod.mk.injEq] at h
    obtain ⟨rfl, rfl⟩ := h
    exact of_w a0 hc.1 hc.2 w
  · exact absurd h (by simp)


end Go.Proofs.YtoijlbcbbblbfaaGreatDoorH.R

-- printed by hp.py
namespace Go.Proofs.YtoijlbcbbblbfaaGreatDoorH.R
open Go.RowKit Go.Proofs.YtoijlbcbbblbfaaGreatDoorH.Z Go.Proofs.YtoijlbcbbblbfaaGreatDoorW.PrintWords Go.Proofs.YtoijlbcbbblbfaaGreatDoorW.PrintLast Go.Proofs.YtoijlbcbbblbfaaGreatDoorW.PrintMore
attribute [local go_sem] max2_int min2_int max_two min_two max_three min_three max_four min_four   -- for this text's walks alone
set_option linter.unusedVariables false
set_option linter.unusedSimpArgs false

/-! ### rat_Of: function 17 -/
def rat_Of.f (a0 : Int) : Option (Bool × ByteArray × ByteArray) := (whole_Of.f a0).bind fun bt130 => (some (bt130.1, bt130.2, (⟨#[1]⟩ : ByteArray)))
set_option maxHeartbeats 8000000 in
set_option maxRecDepth 100000 in
theorem rat_Of.calls (a0 : Int) (r1 : Bool) (r2 : ByteArray) (r3 : ByteArray) (w : World) (h : rat_Of.f a0 = some (r1, r2, r3)) :
    Calls Tryz.prog 17 #[.int .i64 a0] w fun e w' => e = .returned (.agg #[.bool r1, .string r2, .string r3]) ∧ Below w.heap.size w w' := by
  have hu27 := Tryz.underlying27
  have HB := Aside0.mk (Below.refl w.heap.size w)
  have H : ((whole_Of.f a0).bind fun bt130 => (some (bt130.1, bt130.2, (⟨#[1]⟩ : ByteArray)))) = some (r1, r2, r3) := h
  clear h
  replace H := Option.bind_eq_some_iff.mp H
  obtain ⟨⟨t130, t131⟩, A20, H⟩ := H
  replace H : (some (t130, t131, (⟨#[1]⟩ : ByteArray))) = some (r1, r2, r3) := H
  have A2 := Aside0.mk A20
  clear A20
  simp only [Option.some.injEq, Prod.mk.injEq] at H
  obtain ⟨rfl, rfl, rfl⟩ := H
  go_enter Tryz.func17, Tryz.ntmps17
  go_wp2_with (first | ((with_reducible refine gate_dst (N := 2) rfl ?_); refine zY 2 #[.bool false, .string (⟨#[]⟩ : ByteArray), .string (⟨#[]⟩ : ByteArray)] 27 ?_; intro gb129 hg w3 hbox hb; have BK129 := Aside0.mk (hbox); have GW129 := zG hg HB; have GE129 := zG hg HB; replace HB := zS HB hb; clear hb hbox hg) | ((with_reducible refine gate_callee (f := 54) rfl ?_); refine zC Tryz.func54 (by kernel_rfl) #[.int .i64 a0] ?_; (with_reducible refine (whole_Of.calls a0 t130 t131 _ A2.out).mono ?_); rintro e w4 ⟨rfl, hb⟩; refine ⟨_, rfl, ?_⟩; replace BK129 := zB BK129 hb; replace HB := zS HB hb; (try clear hb); obtain ⟨hcz5_0, hcz5_1, hcz5_2, hfz5_0, hfz5_1, hfz5_2⟩ := z3 BK129))
  refine bodyPost_ret (results_cell_row rfl _ _ gb129 27 #[.bool t130, .string t131, .string (⟨#[1]⟩ : ByteArray)] (0, 0) _ rfl (by (with_reducible repeat (first | refine blk_drewN ?_ _ | refine blk_drew ?_ | refine blk_alloc ?_ _)); refine zP (cs := #[.bool t130, .string t131, .string (⟨#[]⟩ : ByteArray)]) ?_ 2 _; (with_reducible repeat (first | refine blk_drewN ?_ _ | refine blk_drew ?_ | refine blk_alloc ?_ _)); refine zP (cs := #[.bool t130, .string (⟨#[]⟩ : ByteArray), .string (⟨#[]⟩ : ByteArray)]) ?_ 1 _; (with_reducible repeat (first | refine blk_drewN ?_ _ | refine blk_drew ?_ | refine blk_alloc ?_ _)); refine zP (cs := #[.bool false, .string (⟨#[]⟩ : ByteArray), .string (⟨#[]⟩ : ByteArray)]) ?_ 0 _; (with_reducible repeat (first | refine blk_drewN ?_ _ | refine blk_drew ?_ | refine blk_alloc ?_ _)); exact BK129.out) Tryz.underlying27 rfl (by kernel_rfl)) rfl ?_
  exact ⟨by first | rfl | (simp [errW_none, errW_some] <;> rfl) | (simp [*, errW_none, errW_some] <;> rfl), zT HB⟩

end Go.Proofs.YtoijlbcbbblbfaaGreatDoorH.R

-- printed by hp.py
namespace Go.Proofs.YtoijlbcbbblbfaaGreatDoorH.R
open Go.RowKit Go.Proofs.YtoijlbcbbblbfaaGreatDoorH.Z Go.Proofs.YtoijlbcbbblbfaaGreatDoorW.PrintWords Go.Proofs.YtoijlbcbbblbfaaGreatDoorW.PrintLast Go.Proofs.YtoijlbcbbblbfaaGreatDoorW.PrintMore
attribute [local go_sem] max2_int min2_int max_two min_two max_three min_three max_four min_four   -- for this text's walks alone
set_option linter.unusedVariables false
set_option linter.unusedSimpArgs false

theorem eqA24 (d : Nat) (w : World) (x0 y0 : Bool) (x1 y1 : ByteArray) :
    (Op.equalIn (d + 2) 24 (.agg #[.bool x0, .string x1]) (.agg #[.bool y0, .string y1])).run Tryz.prog w = .ok (x0 == y0 && (x1.toList == y1.toList)) w := by
  refine eqA_of Tryz.underlying24 (by kernel_rfl) ?_
  refine eqf_cons (by rfl) (by go_simp; rfl) (by go_simp; rfl) (by go_simp) ?_
  exact eqf_last (by rfl) (by go_simp; rfl) (by go_simp; rfl) (by go_simp)
theorem eqA27 (d : Nat) (w : World) (x0 y0 : Bool) (x1 y1 : ByteArray) (x2 y2 : ByteArray) :
    (Op.equalIn (d + 3) 27 (.agg #[.bool x0, .string x1, .string x2]) (.agg #[.bool y0, .string y1, .string y2])).run Tryz.prog w = .ok ((x0 == y0 && (x1.toList == y1.toList)) && (x2.toList == y2.toList)) w := by
  refine eqA_of Tryz.underlying27 (by kernel_rfl) ?_
  refine eqf_cons (by rfl) (by go_simp) (by go_simp) (eqA24 (d + 0) w _ _ _ _) ?_
  exact eqf_last (by rfl) (by go_simp; rfl) (by go_simp; rfl) (by go_simp)
end Go.Proofs.YtoijlbcbbblbfaaGreatDoorH.R

-- printed by hp.py
namespace Go.Proofs.YtoijlbcbbblbfaaGreatDoorH.R
open Go.RowKit Go.Proofs.YtoijlbcbbblbfaaGreatDoorH.Z Go.Proofs.YtoijlbcbbblbfaaGreatDoorW.PrintWords Go.Proofs.YtoijlbcbbblbfaaGreatDoorW.PrintLast Go.Proofs.YtoijlbcbbblbfaaGreatDoorW.PrintMore
attribute [local go_sem] max2_int min2_int max_two min_two max_three min_three max_four min_four   -- for this text's walks alone
set_option linter.unusedVariables false
set_option linter.unusedSimpArgs false

/-! ### whole_Add: function 74 -/
open Go.Proofs.YtoijlbcbbblbfaaGreatDoor Go.Proofs.YtoijlbcbbblbfaaGreatDoor.Num in
def whole_Add.f (a0_0 : Bool) (a0_1 : ByteArray) (a1_0 : Bool) (a1_1 : ByteArray) : Option (Bool × ByteArray × Int) := if a0_1.size ≤ 15000 ∧ a1_1.size ≤ 15000 then some ((binF (· + ·) (a0_0, a0_1) (a1_0, a1_1)).1.1, (binF (· + ·) (a0_0, a0_1) (a1_0, a1_1)).1.2, (binF (· + ·) (a0_0, a0_1) (a1_0, a1_1)).2) else none
open Go.Proofs.YtoijlbcbbblbfaaGreatDoor Go.Proofs.YtoijlbcbbblbfaaGreatDoor.Num in
theorem whole_Add.calls (a0_0 : Bool) (a0_1 : ByteArray) (a1_0 : Bool) (a1_1 : ByteArray) (r1 : Bool) (r2 : ByteArray) (r3 : Int) (w : World) (h : whole_Add.f a0_0 a0_1 a1_0 a1_1 = some (r1, r2, r3)) :
    Calls Tryz.prog 74 #[.agg #[.bool a0_0, .string a0_1], .agg #[.bool a1_0, .string a1_1]] w fun e w' => e = .returned (.tuple #[.agg #[.bool r1, .string r2], .int .i64 r3]) ∧ Below w.heap.size w w' := by
  unfold whole_Add.f at h
  split at h
  · rename_i hc
    simp only [Option.some.injEq, Prod.mk.injEq] at h
    obtain ⟨rfl, rfl, rfl⟩ := h
    exact (add_f (a0_0, a0_1) (a1_0, a1_1) hc.1 hc.2).out w
  · exact absurd h (by simp)


end Go.Proofs.YtoijlbcbbblbfaaGreatDoorH.R

-- printed by hp.py
namespace Go.Proofs.YtoijlbcbbblbfaaGreatDoorH.R
open Go.RowKit Go.Proofs.YtoijlbcbbblbfaaGreatDoorH.Z Go.Proofs.YtoijlbcbbblbfaaGreatDoorW.PrintWords Go.Proofs.YtoijlbcbbblbfaaGreatDoorW.PrintLast Go.Proofs.YtoijlbcbbblbfaaGreatDoorW.PrintMore
attribute [local go_sem] max2_int min2_int max_two min_two max_three min_three max_four min_four   -- for this text's walks alone
set_option linter.unusedVariables false
set_option linter.unusedSimpArgs false

/-! ### rat_do_of_whole_Add: function 9000002 -/
open Go.Proofs.YtoijlbcbbblbfaaGreatDoor Go.Proofs.YtoijlbcbbblbfaaGreatDoor.Num in
def rat_do_of_whole_Add.f (a0_0 : Bool) (a0_1 : ByteArray) (a1_0 : Bool) (a1_1 : ByteArray) : Option (Bool × ByteArray) := (whole_Add.f a0_0 a0_1 a1_0 a1_1).map fun r => (r.1, r.2.1)
open Go.Proofs.YtoijlbcbbblbfaaGreatDoor Go.Proofs.YtoijlbcbbblbfaaGreatDoor.Num in
theorem rat_do_of_whole_Add.calls (a0_0 : Bool) (a0_1 : ByteArray) (a1_0 : Bool) (a1_1 : ByteArray) (r1 : Bool) (r2 : ByteArray) (w : World) (h : rat_do_of_whole_Add.f a0_0 a0_1 a1_0 a1_1 = some (r1, r2)) :
    Calls Tryz.prog 57 #[.func (.func 74) #[] #[], .agg #[.bool a0_0, .string a0_1], .agg #[.bool a1_0, .string a1_1]] w fun e w' => e = .returned (.agg #[.bool r1, .string r2]) ∧ Below w.heap.size w w' := by
  unfold rat_do_of_whole_Add.f at h
  obtain ⟨⟨x1, x2, x3⟩, hx, he⟩ := Option.map_eq_some_iff.1 h
  simp only [Prod.mk.injEq] at he
  obtain ⟨rfl, rfl⟩ := he
  exact do_Add _ _ _ _ _ _ _ (Lib.hid fun w => whole_Add.calls _ _ _ _ _ _ _ w hx) w


end Go.Proofs.YtoijlbcbbblbfaaGreatDoorH.R

-- printed by hp.py
namespace Go.Proofs.YtoijlbcbbblbfaaGreatDoorH.R
open Go.RowKit Go.Proofs.YtoijlbcbbblbfaaGreatDoorH.Z Go.Proofs.YtoijlbcbbblbfaaGreatDoorW.PrintWords Go.Proofs.YtoijlbcbbblbfaaGreatDoorW.PrintLast Go.Proofs.YtoijlbcbbblbfaaGreatDoorW.PrintMore
attribute [local go_sem] max2_int min2_int max_two min_two max_three min_three max_four min_four   -- for this text's walks alone
set_option linter.unusedVariables false
set_option linter.unusedSimpArgs false

/-! ### whole_Cmp: function 75 -/
open Go.Proofs.YtoijlbcbbblbfaaGreatDoor Go.Proofs.YtoijlbcbbblbfaaGreatDoor.Num in
def whole_Cmp.f (a0_0 : Bool) (a0_1 : ByteArray) (a1_0 : Bool) (a1_1 : ByteArray) : Option (Int × Int) := some ((cmpF (a0_0, a0_1) (a1_0, a1_1)).1, (cmpF (a0_0, a0_1) (a1_0, a1_1)).2)
open Go.Proofs.YtoijlbcbbblbfaaGreatDoor Go.Proofs.YtoijlbcbbblbfaaGreatDoor.Num in
theorem whole_Cmp.calls (a0_0 : Bool) (a0_1 : ByteArray) (a1_0 : Bool) (a1_1 : ByteArray) (r1 : Int) (r2 : Int) (w : World) (h : whole_Cmp.f a0_0 a0_1 a1_0 a1_1 = some (r1, r2)) :
    Calls Tryz.prog 75 #[.agg #[.bool a0_0, .string a0_1], .agg #[.bool a1_0, .string a1_1]] w fun e w' => e = .returned (.tuple #[.int .i64 r1, .int .i64 r2]) ∧ Below w.heap.size w w' := by
  unfold whole_Cmp.f at h
  simp only [Option.some.injEq, Prod.mk.injEq] at h
  obtain ⟨rfl, rfl⟩ := h
  exact (cmp_f (a0_0, a0_1) (a1_0, a1_1)).out w


end Go.Proofs.YtoijlbcbbblbfaaGreatDoorH.R

-- printed by hp.py
namespace Go.Proofs.YtoijlbcbbblbfaaGreatDoorH.R
open Go.RowKit Go.Proofs.YtoijlbcbbblbfaaGreatDoorH.Z Go.Proofs.YtoijlbcbbblbfaaGreatDoorW.PrintWords Go.Proofs.YtoijlbcbbblbfaaGreatDoorW.PrintLast Go.Proofs.YtoijlbcbbblbfaaGreatDoorW.PrintMore
attribute [local go_sem] max2_int min2_int max_two min_two max_three min_three max_four min_four   -- for this text's walks alone
set_option linter.unusedVariables false
set_option linter.unusedSimpArgs false

/-! ### rat_rounded: function 59 -/
mutual
def rat_rounded.j0 : Nat → Bool → Bool → ByteArray → Bool → ByteArray → Bool → ByteArray → Option (Bool × ByteArray)
  | 0, _, _, _, _, _, _, _ => none
  | k + 1, x8, x147000, x147001, x154000, x154001, x155000, x155001 => (rat_do_of_whole_Add.f x155000 x155001 x155000 x155001).bind fun bt155 => ((whole_Cmp.f bt155.1 bt155.2 x147000 x147001).bind fun bt157 => (if bt157.1 = 0 then (rat_rounded.j1 k bt157.1 (!x8) x154000 x154001) else (rat_rounded.j1 k bt157.1 false x154000 x154001)))
def rat_rounded.j1 : Nat → Int → Bool → Bool → ByteArray → Option (Bool × ByteArray)
  | 0, _, _, _, _ => none
  | k + 1, x9, x40, x154000, x154001 => if x40 = true then (rat_rounded.j2 k x40 x154000 x154001) else (rat_rounded.j2 k (decide (x9 < 0)) x154000 x154001)
def rat_rounded.j2 : Nat → Bool → Bool → ByteArray → Option (Bool × ByteArray)
  | 0, _, _, _ => none
  | k + 1, x40, x154000, x154001 => if x40 = true then (some (x154000, x154001)) else ((whole_Of.f 1).bind fun bt159 => ((rat_do_of_whole_Add.f x154000 x154001 bt159.1 bt159.2).bind fun bt161 => (some (bt161.1, bt161.2))))
end
def rat_rounded.f (k : Nat) (a0_0 : Bool) (a0_1 : ByteArray) (a1_0 : Bool) (a1_1 : ByteArray) : Option (Bool × ByteArray) := (whole_Div.f a0_0 a0_1 a1_0 a1_1).bind fun bt148 => (if bt148.2.1.toList = ([] : List UInt8) then (rat_rounded.j0 k false a1_0 a1_1 bt148.1 bt148.2.1 bt148.2.2.1 bt148.2.2.2.1) else (if 0 ≤ (wrap64 ((bt148.2.1.size : Int) - 1)) then (if (wrap64 ((bt148.2.1.size : Int) - 1)) < (bt148.2.1.size : Int) then (rat_rounded.j0 k ((Go.bits .and .u8 (bt bt148.2.1 (wrap64 ((bt148.2.1.size : Int) - 1))) 1) == 1) a1_0 a1_1 bt148.1 bt148.2.1 bt148.2.2.1 bt148.2.2.2.1) else (none)) else (none)))
def rat_rounded.T3 : Bool × List (List Nat × List Nat) := (true, [([], []), ([], []), ([0, 1], [0, 1]), ([], []), ([2, 3, 2], [2, 3]), ([4], [4]), ([5], [5]), ([5], [5]), ([6, 4, 0, 1, 2, 3, 4, 5, 6], [6]), ([7, 8, 0, 1, 2, 3, 4, 5, 6, 7, 8], [7])])
def rat_rounded.B3 : List Nat := [0, 0, 3, 0, 15, 31, 63, 63, 127, 511]
theorem rat_rounded.tab3 : rtab .any (opsOf Tryz.f59 3) = rat_rounded.T3 := by kernel_rfl
theorem rat_rounded.bits3 : waitsOk rat_rounded.T3.2 rat_rounded.B3 = true := by kernel_rfl
set_option maxHeartbeats 8000000 in
set_option maxRecDepth 100000 in
theorem rat_rounded.calls (k : Nat) (a0_0 : Bool) (a0_1 : ByteArray) (a1_0 : Bool) (a1_1 : ByteArray) (r1 : Bool) (r2 : ByteArray) (w : World) (h : rat_rounded.f k a0_0 a0_1 a1_0 a1_1 = some (r1, r2)) :
    Calls Tryz.prog 59 #[.agg #[.bool a0_0, .string a0_1], .agg #[.bool a1_0, .string a1_1]] w fun e w' => e = .returned (.agg #[.bool r1, .string r2]) ∧ Below w.heap.size w w' := by
  have hu24 := Tryz.underlying24; have hf0 := zf240; have hf1 := zf241; have hf2 := zf270; have hf3 := zf271
  have HB := Aside0.mk (Below.refl w.heap.size w)
  have H : ((whole_Div.f a0_0 a0_1 a1_0 a1_1).bind fun bt148 => (if bt148.2.1.toList = ([] : List UInt8) then (rat_rounded.j0 k false a1_0 a1_1 bt148.1 bt148.2.1 bt148.2.2.1 bt148.2.2.2.1) else (if 0 ≤ (wrap64 ((bt148.2.1.size : Int) - 1)) then (if (wrap64 ((bt148.2.1.size : Int) - 1)) < (bt148.2.1.size : Int) then (rat_rounded.j0 k ((Go.bits .and .u8 (bt bt148.2.1 (wrap64 ((bt148.2.1.size : Int) - 1))) 1) == 1) a1_0 a1_1 bt148.1 bt148.2.1 bt148.2.2.1 bt148.2.2.2.1) else (none)) else (none)))) = some (r1, r2) := h
  clear h
  replace H := Option.bind_eq_some_iff.mp H
  obtain ⟨⟨t148, t149, t150, t151, t152⟩, A30, H⟩ := H
  replace H : (if t149.toList = ([] : List UInt8) then (rat_rounded.j0 k false a1_0 a1_1 t148 t149 t150 t151) else (if 0 ≤ (wrap64 ((t149.size : Int) - 1)) then (if (wrap64 ((t149.size : Int) - 1)) < (t149.size : Int) then (rat_rounded.j0 k ((Go.bits .and .u8 (bt t149 (wrap64 ((t149.size : Int) - 1))) 1) == 1) a1_0 a1_1 t148 t149 t150 t151) else (none)) else (none))) = some (r1, r2) := H
  have A3 := Aside0.mk A30
  clear A30
  have HC4 := Aside0.mk H
  clear H
  go_enter Tryz.func59, Tryz.ntmps59
  go_upto_region 2 with (first | ((with_reducible refine gate_dst (N := 2) rfl ?_); (try (refine gate_guard (by rfl) ?_; dsimp only)); refine zY 2 #[.bool a0_0, .string a0_1] 24 ?_; intro gb145 hg w5 hbox hb; have BK145 := Aside0.mk (hbox); have GW145 := zG hg HB; have GE145 := zG hg HB; replace HB := zS HB hb; clear hb hbox hg) | ((with_reducible refine gate_dst (N := 3) rfl ?_); (try (refine gate_guard (by rfl) ?_; dsimp only)); refine zY 3 #[.bool a1_0, .string a1_1] 24 ?_; intro gb146 hg w6 hbox hb; have BK146 := Aside0.mk (hbox); have GW146 := zG hg HB; have GE146 := zG hg HB; obtain ⟨NB145_146, NB146_145⟩ := zQ hg BK145; replace BK145 := zB BK145 hb; replace HB := zS HB hb; clear hb hbox hg) | ((with_reducible refine gate_dst (N := 4) rfl ?_); (try (refine gate_guard (by rfl) ?_; dsimp only)); refine zY 4 #[.bool false, .string (⟨#[]⟩ : ByteArray)] 24 ?_; intro gb147 hg w7 hbox hb; have BK147 := Aside0.mk (hbox); have GW147 := zG hg HB; have GE147 := zG hg HB; obtain ⟨NB145_147, NB147_145⟩ := zQ hg BK145; obtain ⟨NB146_147, NB147_146⟩ := zQ hg BK146; obtain ⟨BK145, BK146⟩ := zB2 BK145 BK146 hb; replace HB := zS HB hb; clear hb hbox hg; have hnb8 := NB145_146.out; have hnc8 := NB146_145.out; have hnb9 := NB145_147.out; have hnc9 := NB147_145.out; obtain ⟨hcz10_0, hcz10_1, hfz10_0, hfz10_1⟩ := z2 BK145; have hnb11 := NB146_147.out; have hnc11 := NB147_146.out; obtain ⟨hcz12_0, hcz12_1, hfz12_0, hfz12_1⟩ := z2 BK146) | ((with_reducible refine gate_callee (f := 81) rfl ?_); refine zC Tryz.func81 (by kernel_rfl) #[.agg #[.bool a0_0, .string a0_1], .agg #[.bool a1_0, .string a1_1]] ?_; (with_reducible refine (whole_Div.calls a0_0 a0_1 a1_0 a1_1 t148 t149 t150 t151 t152 _ A3.out).mono ?_); rintro e w13 ⟨rfl, hb⟩; refine ⟨_, rfl, ?_⟩; obtain ⟨BK145, BK146, BK147⟩ := zB3 BK145 BK146 BK147 hb; replace HB := zS HB hb; (try clear hb)) | ((with_reducible refine gate_dst (N := 5) rfl ?_); (try (refine gate_guard (by rfl) ?_; dsimp only)); refine zY 5 #[.bool false, .string (⟨#[]⟩ : ByteArray)] 24 ?_; intro gb153 hg w14 hbox hb; have BK153 := Aside0.mk (hbox); have GW153 := zG hg HB; have GE153 := zG hg HB; obtain ⟨NB145_153, NB153_145⟩ := zQ hg BK145; obtain ⟨NB146_153, NB153_146⟩ := zQ hg BK146; obtain ⟨NB147_153, NB153_147⟩ := zQ hg BK147; obtain ⟨BK145, BK146, BK147⟩ := zB3 BK145 BK146 BK147 hb; replace HB := zS HB hb; clear hb hbox hg) | ((with_reducible refine gate_dst (N := 6) rfl ?_); (try (refine gate_guard (by rfl) ?_; dsimp only)); refine zY 6 #[.bool false, .string (⟨#[]⟩ : ByteArray)] 24 ?_; intro gb154 hg w15 hbox hb; have BK154 := Aside0.mk (hbox); have GW154 := zG hg HB; have GE154 := zG hg HB; obtain ⟨NB145_154, NB154_145⟩ := zQ hg BK145; obtain ⟨NB146_154, NB154_146⟩ := zQ hg BK146; obtain ⟨NB147_154, NB154_147⟩ := zQ hg BK147; obtain ⟨NB153_154, NB154_153⟩ := zQ hg BK153; obtain ⟨BK145, BK146, BK147, BK153⟩ := zB4 BK145 BK146 BK147 BK153 hb; replace HB := zS HB hb; clear hb hbox hg; have hnb16 := NB153_145.out; have hnc16 := NB145_153.out; have hnb17 := NB153_146.out; have hnc17 := NB146_153.out; have hnb18 := NB153_147.out; have hnc18 := NB147_153.out; have hnb19 := NB153_154.out; have hnc19 := NB154_153.out; obtain ⟨hcz20_0, hcz20_1, hfz20_0, hfz20_1⟩ := z2 BK153; have hnb21 := NB154_145.out; have hnc21 := NB145_154.out; have hnb22 := NB154_146.out; have hnc22 := NB146_154.out; have hnb23 := NB154_147.out; have hnc23 := NB147_154.out; obtain ⟨hcz24_0, hcz24_1, hfz24_0, hfz24_1⟩ := z2 BK154))
  (try simp only [Act.put, List.setIfInBounds_toArray, List.set_cons_zero, List.set_cons_succ])
  go_cut [8] (fun v8 wc => ∃ (kq : Nat) (x8_3 : Bool), v8 = .bool x8_3 ∧ Aside0 (rat_rounded.j0 kq x8_3 a1_0 a1_1 t148 t149 t150 t151 = some (r1, r2)) ∧ Aside0 (kq ≤ k) ∧ Aside0 (wc.heap[gb145]? = some (.cells #[.bool a0_0, .string a0_1] 24 (0, 0))) ∧ Aside0 (wc.heap[gb146]? = some (.cells #[.bool a1_0, .string a1_1] 24 (0, 0))) ∧ Aside0 (wc.heap[gb147]? = some (.cells #[.bool false, .string (⟨#[]⟩ : ByteArray)] 24 (0, 0))) ∧ Aside0 (wc.heap[gb153]? = some (.cells #[.bool t148, .string t149] 24 (0, 0))) ∧ Aside0 (wc.heap[gb154]? = some (.cells #[.bool t150, .string t151] 24 (0, 0))) ∧ Aside0 (Below w.heap.size w wc))
  case first =>
    have H := HC4.out
    clear HC4
    by_cases c25 : t149.toList = ([] : List UInt8)
    · rw [if_pos c25] at H
      have c25b0 : (t149.toList == ([] : List UInt8)) = true := beq_iff_eq.mpr c25
      have c25b1 : (t149.toList != ([] : List UInt8)) = false := bne_eq_false_iff_eq.mpr c25
      clear c25
      (first | rw [c25b0] | (simp only [i64_w, i32_w]; rw [c25b0]) | skip)
      have H' := Aside0.mk H
      clear H; have hnb26 := NB153_145.out; have hnc26 := NB145_153.out; have hnb27 := NB153_146.out; have hnc27 := NB146_153.out; have hnb28 := NB153_147.out; have hnc28 := NB147_153.out; have hnb29 := NB153_154.out; have hnc29 := NB154_153.out; obtain ⟨hcz30_0, hcz30_1, hfz30_0, hfz30_1⟩ := z2 BK153
      go_wp2
      go_meet
      case rel => exact ⟨_, (false), zR, H', zL, zK BK145, zK BK146, zK BK147, ⟨by (with_reducible repeat (first | refine blk_drewN ?_ _ | refine blk_drew ?_ | refine blk_alloc ?_ _)); refine blk_far ?_ NB153_154.out _; (with_reducible repeat (first | refine blk_drewN ?_ _ | refine blk_drew ?_ | refine blk_alloc ?_ _)); refine blk_far ?_ NB153_154.out _; (with_reducible repeat (first | refine blk_drewN ?_ _ | refine blk_drew ?_ | refine blk_alloc ?_ _)); refine zP (cs := #[.bool t148, .string (⟨#[]⟩ : ByteArray)]) ?_ 1 _; (with_reducible repeat (first | refine blk_drewN ?_ _ | refine blk_drew ?_ | refine blk_alloc ?_ _)); refine zP (cs := #[.bool false, .string (⟨#[]⟩ : ByteArray)]) ?_ 0 _; (with_reducible repeat (first | refine blk_drewN ?_ _ | refine blk_drew ?_ | refine blk_alloc ?_ _)); exact BK153.out⟩, ⟨by (with_reducible repeat (first | refine blk_drewN ?_ _ | refine blk_drew ?_ | refine blk_alloc ?_ _)); refine zP (cs := #[.bool t150, .string (⟨#[]⟩ : ByteArray)]) ?_ 1 _; (with_reducible repeat (first | refine blk_drewN ?_ _ | refine blk_drew ?_ | refine blk_alloc ?_ _)); refine zP (cs := #[.bool false, .string (⟨#[]⟩ : ByteArray)]) ?_ 0 _; (with_reducible repeat (first | refine blk_drewN ?_ _ | refine blk_drew ?_ | refine blk_alloc ?_ _)); refine blk_far ?_ NB154_153.out _; (with_reducible repeat (first | refine blk_drewN ?_ _ | refine blk_drew ?_ | refine blk_alloc ?_ _)); refine blk_far ?_ NB154_153.out _; (with_reducible repeat (first | refine blk_drewN ?_ _ | refine blk_drew ?_ | refine blk_alloc ?_ _)); exact BK154.out⟩, ⟨zT HB⟩⟩
    · rw [if_neg c25] at H
      have c25b0 : (t149.toList == ([] : List UInt8)) = false := beq_eq_false_iff_ne.mpr c25
      have c25b1 : (t149.toList != ([] : List UInt8)) = true := bne_iff_ne.mpr c25
      (first | rw [c25b0] | (simp only [i64_w, i32_w]; rw [c25b0]) | skip)
      obtain ⟨ji31, hji31⟩ : ∃ j_ : Int, (wrap64 ((t149.size : Int) - 1)) = j_ := ⟨_, rfl⟩
      replace H : (if 0 ≤ (ji31) then (if (ji31) < (t149.size : Int) then (rat_rounded.j0 k ((Go.bits .and .u8 (bt t149 (ji31)) 1) == 1) a1_0 a1_1 t148 t149 t150 t151) else (none)) else (none)) = some (r1, r2) := by first | (rw [hji31] at H; exact H) | (simp only [hji31] at H ⊢; exact H)
      have hji31w : (IntKind.i64.wrap ((t149.size : Int) - 1)) = ji31 := (i64_w _).trans hji31
      by_cases c32 : 0 ≤ (ji31)
      · rw [if_pos c32] at H
        have c32b0 : decide (0 ≤ (ji31)) = true := decide_eq_true c32
        clear c32
        by_cases c33 : (ji31) < (t149.size : Int)
        · rw [if_pos c33] at H
          have c33b0 : decide ((ji31) < (t149.size : Int)) = true := decide_eq_true c33
          clear c33
          have H' := Aside0.mk H
          clear H; have hnb35 := NB153_145.out; have hnc35 := NB145_153.out; have hnb36 := NB153_146.out; have hnc36 := NB146_153.out; have hnb37 := NB153_147.out; have hnc37 := NB147_153.out; have hnb38 := NB153_154.out; have hnc38 := NB154_153.out; obtain ⟨hcz39_0, hcz39_1, hfz39_0, hfz39_1⟩ := z2 BK153
          have p34 : 0 ≤ ((ji31) : Int) := of_decide_eq_true (by first | (with_reducible assumption) | assumption)
          have q34 : (ji31) < (t149.size : Int) := of_decide_eq_true (by first | (with_reducible assumption) | assumption)
          have hx34 := bt_at t149 (ji31)
          replace p34 := eq_true p34
          replace q34 := eq_true q34
          go_wp2
          go_meet
          case rel => exact ⟨_, (((Go.bits .and .u8 (bt t149 (ji31)) 1) == 1)), (by first | rfl | (simp; done) | (simp only [← hji31] <;> (first | rfl | simp)) | (simp [*]; done)), H', zL, zK BK145, zK BK146, zK BK147, ⟨by (with_reducible repeat (first | refine blk_drewN ?_ _ | refine blk_drew ?_ | refine blk_alloc ?_ _)); refine blk_far ?_ NB153_154.out _; (with_reducible repeat (first | refine blk_drewN ?_ _ | refine blk_drew ?_ | refine blk_alloc ?_ _)); refine blk_far ?_ NB153_154.out _; (with_reducible repeat (first | refine blk_drewN ?_ _ | refine blk_drew ?_ | refine blk_alloc ?_ _)); refine zP (cs := #[.bool t148, .string (⟨#[]⟩ : ByteArray)]) ?_ 1 _; (with_reducible repeat (first | refine blk_drewN ?_ _ | refine blk_drew ?_ | refine blk_alloc ?_ _)); refine zP (cs := #[.bool false, .string (⟨#[]⟩ : ByteArray)]) ?_ 0 _; (with_reducible repeat (first | refine blk_drewN ?_ _ | refine blk_drew ?_ | refine blk_alloc ?_ _)); exact BK153.out⟩, ⟨by (with_reducible repeat (first | refine blk_drewN ?_ _ | refine blk_drew ?_ | refine blk_alloc ?_ _)); refine zP (cs := #[.bool t150, .string (⟨#[]⟩ : ByteArray)]) ?_ 1 _; (with_reducible repeat (first | refine blk_drewN ?_ _ | refine blk_drew ?_ | refine blk_alloc ?_ _)); refine zP (cs := #[.bool false, .string (⟨#[]⟩ : ByteArray)]) ?_ 0 _; (with_reducible repeat (first | refine blk_drewN ?_ _ | refine blk_drew ?_ | refine blk_alloc ?_ _)); refine blk_far ?_ NB154_153.out _; (with_reducible repeat (first | refine blk_drewN ?_ _ | refine blk_drew ?_ | refine blk_alloc ?_ _)); refine blk_far ?_ NB154_153.out _; (with_reducible repeat (first | refine blk_drewN ?_ _ | refine blk_drew ?_ | refine blk_alloc ?_ _)); exact BK154.out⟩, ⟨zT HB⟩⟩
        · rw [if_neg c33] at H
          exact absurd H (by simp)
      · rw [if_neg c32] at H
        exact absurd H (by simp)
  case rest =>
    clear HC4
    try clear c1; try clear c2; try clear p2; try clear c3; try clear p3; try clear q3; try clear hx3; try clear c5; try clear p6; try clear c8; try clear c9; try clear c11; try clear c16; try clear c17; try clear c18; try clear c19; try clear c21; try clear c22; try clear c23; try clear c25; try clear c25b0; try clear c25b1; try clear c26; try clear c27; try clear c28; try clear c29; try clear c32; try clear c32b0; try clear c33; try clear c33b0; try clear p34; try clear q34; try clear hx34; try clear c35; try clear c36; try clear c37; try clear c38; try clear hcz10_0; try clear hcz10_1; try clear hcz12_0; try clear hcz12_1; try clear hcz20_0; try clear hcz20_1; try clear hcz24_0; try clear hcz24_1; try clear hcz30_0; try clear hcz30_1; try clear hcz39_0; try clear hcz39_1; try clear hfz10_0; try clear hfz10_1; try clear hfz12_0; try clear hfz12_1; try clear hfz20_0; try clear hfz20_1; try clear hfz24_0; try clear hfz24_1; try clear hfz30_0; try clear hfz30_1; try clear hfz39_0; try clear hfz39_1; try clear p34; try clear q34
    obtain ⟨kq, x8_3, rfl, HA, HJ3, BK145, BK146, BK147, BK153, BK154, HB⟩ := hcut
    cases kq with
    | zero => exact absurd HA.out (by simp [rat_rounded.j0])
    | succ kj3 =>
      have H := HA.out
      clear HA
      simp only [rat_rounded.j0] at H
      replace H := Option.bind_eq_some_iff.mp H
      obtain ⟨⟨t155, t156⟩, A400, H⟩ := H
      replace H : ((whole_Cmp.f t155 t156 a1_0 a1_1).bind fun bt157 => (if bt157.1 = 0 then (rat_rounded.j1 kj3 bt157.1 (!x8_3) t148 t149) else (rat_rounded.j1 kj3 bt157.1 false t148 t149))) = some (r1, r2) := H
      have A40 := Aside0.mk A400
      clear A400
      replace H := Option.bind_eq_some_iff.mp H
      obtain ⟨⟨t157, t158⟩, A410, H⟩ := H
      replace H : (if t157 = 0 then (rat_rounded.j1 kj3 t157 (!x8_3) t148 t149) else (rat_rounded.j1 kj3 t157 false t148 t149)) = some (r1, r2) := H
      have A41 := Aside0.mk A410
      clear A410
      have HC42 := Aside0.mk H
      clear H
      try go_wp2
      replace BK145 := zD BK145; replace BK146 := zD BK146; replace BK147 := zD BK147; replace BK153 := zD BK153; replace BK154 := zD BK154; replace HB := zF HB
      refine start_ (n := 10) (S := fun w' => w'.cell? ⟨gb154, 0, none⟩ = some (.bool t150) ∧ w'.cell? ⟨gb154, 1, none⟩ = some (.string t151) ∧ w'.cell? ⟨gb146, 0, none⟩ = some (.bool a1_0) ∧ w'.cell? ⟨gb146, 1, none⟩ = some (.string a1_1)) (ds := []) #[false, false, false, false, false, false, false, false, false, false] (by kernel_rfl) rfl rfl ⟨(blk_cell BK154.out 0).trans rfl, (blk_cell BK154.out 1).trans rfl, (blk_cell BK146.out 0).trans rfl, (blk_cell BK146.out 1).trans rfl⟩ (fun hHeld => ?_); refine with_tabW rat_rounded.tab3 rat_rounded.bits3 (fun HT_ HW_ => ?_)
      generalize wc.drew = w43 at BK145 BK146 BK147 BK153 BK154 HB hHeld ⊢
      refine zV (i := 0) (N := some 33) #[true, false, false, false, false, false, false, false, false, false] (take_ofW HT_.out HW_.out (by kernel_rfl)) hHeld ?_
      refine zV (i := 1) (N := some 34) #[true, true, false, false, false, false, false, false, false, false] (take_ofW HT_.out HW_.out (by kernel_rfl)) hHeld ?_
      refine zV (i := 3) (N := some 36) #[true, true, false, true, false, false, false, false, false, false] (take_ofW HT_.out HW_.out (by kernel_rfl)) hHeld ?_
      refine one_ (i := 2) (N := some 35) #[true, true, true, true, false, false, false, false, false, false] rfl rfl (one_of HT_.out (by kernel_rfl)) (by decide) (fun K hK => ?_)
      refine zX Tryz.func57 (by kernel_rfl) #[.func (.func 74) #[] #[], .agg #[.bool t150, .string t151], .agg #[.bool t150, .string t151]] ?_
      with_reducible refine (rat_do_of_whole_Add.calls t150 t151 t150 t151 t155 t156 _ A40.out).mono ?_
      rintro e w44 ⟨rfl, hb⟩; refine ⟨_, rfl, ?_⟩
      obtain ⟨BK145, BK146, BK147, BK153, BK154⟩ := zB5 BK145 BK146 BK147 BK153 BK154 hb; replace HB := zS HB hb
      (try clear hb)
      refine hK.out _ _ ⟨(blk_cell BK154.out 0).trans rfl, (blk_cell BK154.out 1).trans rfl, (blk_cell BK146.out 0).trans rfl, (blk_cell BK146.out 1).trans rfl⟩ (fun hHeld => ?_)
      clear hK K
      refine zW (some 35) ?_
      refine one_ (i := 4) (N := some 37) #[true, true, true, true, true, false, false, false, false, false] rfl rfl (one_of HT_.out (by kernel_rfl)) (by decide) (fun K hK => ?_)
      refine zX Tryz.func75 (by kernel_rfl) #[.agg #[.bool t155, .string t156], .agg #[.bool a1_0, .string a1_1]] ?_
      with_reducible refine (whole_Cmp.calls t155 t156 a1_0 a1_1 t157 t158 _ A41.out).mono ?_
      rintro e w45 ⟨rfl, hb⟩; refine ⟨_, rfl, ?_⟩
      obtain ⟨BK145, BK146, BK147, BK153, BK154⟩ := zB5 BK145 BK146 BK147 BK153 BK154 hb; replace HB := zS HB hb
      (try clear hb)
      refine hK.out _ _ ⟨(blk_cell BK154.out 0).trans rfl, (blk_cell BK154.out 1).trans rfl, (blk_cell BK146.out 0).trans rfl, (blk_cell BK146.out 1).trans rfl⟩ (fun hHeld => ?_)
      clear hK K
      refine zW (some 37) ?_
      refine zU (i := 5) (N := some 32) #[true, true, true, true, true, true, false, false, false, false] (any_of HT_.out (by kernel_rfl)) ?_
      refine zU (i := 6) (N := some 38) #[true, true, true, true, true, true, true, false, false, false] (any_of HT_.out (by kernel_rfl)) ?_
      refine zU (i := 7) (N := some 39) #[true, true, true, true, true, true, true, true, false, false] (any_of HT_.out (by kernel_rfl)) ?_
      refine zU (i := 8) (N := some 9) #[true, true, true, true, true, true, true, true, true, false] (any_of HT_.out (by kernel_rfl)) ?_
      refine zU (i := 9) (N := some 10) #[true, true, true, true, true, true, true, true, true, true] (any_of HT_.out (by kernel_rfl)) ?_
      refine done_ (done_of HT_.out (by kernel_rfl)) ?_
      go_upto_region 4 with (fail)
      go_cut [40] (fun v40 wc => ∃ (kq : Nat) (x40_41 : Bool), v40 = .bool x40_41 ∧ Aside0 (rat_rounded.j1 kq t157 x40_41 t148 t149 = some (r1, r2)) ∧ Aside0 (kq ≤ kj3) ∧ Aside0 (wc.heap[gb145]? = some (.cells #[.bool a0_0, .string a0_1] 24 (0, 0))) ∧ Aside0 (wc.heap[gb146]? = some (.cells #[.bool a1_0, .string a1_1] 24 (0, 0))) ∧ Aside0 (wc.heap[gb147]? = some (.cells #[.bool false, .string (⟨#[]⟩ : ByteArray)] 24 (0, 0))) ∧ Aside0 (wc.heap[gb153]? = some (.cells #[.bool t148, .string t149] 24 (0, 0))) ∧ Aside0 (wc.heap[gb154]? = some (.cells #[.bool t150, .string t151] 24 (0, 0))) ∧ Aside0 (Below w.heap.size w wc))
      case first =>
        have H := HC42.out
        clear HC42
        by_cases c46 : t157 = 0
        · rw [if_pos c46] at H
          have c46b0 : (t157 == 0) = true := beq_iff_eq.mpr c46
          have c46b1 : (t157 != 0) = false := bne_eq_false_iff_eq.mpr c46
          clear c46
          (first | rw [c46b0] | (simp only [i64_w, i32_w]; rw [c46b0]) | skip)
          have H' := Aside0.mk H
          clear H
          go_wp2
          go_meet
          case rel => exact ⟨_, (!x8_3), zR, H', ⟨by have := HJ3.out; first | omega | exact Nat.le_refl _⟩, zK BK145, zK BK146, zK BK147, zK BK153, zK BK154, ⟨zT HB⟩⟩
        · rw [if_neg c46] at H
          have c46b0 : (t157 == 0) = false := beq_eq_false_iff_ne.mpr c46
          have c46b1 : (t157 != 0) = true := bne_iff_ne.mpr c46
          (first | rw [c46b0] | (simp only [i64_w, i32_w]; rw [c46b0]) | skip)
          have H' := Aside0.mk H
          clear H
          go_wp2
          go_meet
          case rel => exact ⟨_, (false), zR, H', ⟨by have := HJ3.out; first | omega | exact Nat.le_refl _⟩, zK BK145, zK BK146, zK BK147, zK BK153, zK BK154, ⟨zT HB⟩⟩
      case rest =>
        clear HC42
        try clear c1; try clear c2; try clear p2; try clear c3; try clear p3; try clear q3; try clear hx3; try clear c4; try clear c5; try clear p6; try clear c7; try clear c8; try clear c9; try clear c11; try clear c16; try clear c17; try clear c18; try clear c19; try clear c21; try clear c22; try clear c23; try clear c25; try clear c25b0; try clear c25b1; try clear c26; try clear c27; try clear c28; try clear c29; try clear c32; try clear c32b0; try clear c33; try clear c33b0; try clear p34; try clear q34; try clear hx34; try clear c35; try clear c36; try clear c37; try clear c38; try clear c46; try clear c46b0; try clear c46b1; try clear hcz10_0; try clear hcz10_1; try clear hcz12_0; try clear hcz12_1; try clear hcz20_0; try clear hcz20_1; try clear hcz24_0; try clear hcz24_1; try clear hcz30_0; try clear hcz30_1; try clear hcz39_0; try clear hcz39_1; try clear hfz10_0; try clear hfz10_1; try clear hfz12_0; try clear hfz12_1; try clear hfz20_0; try clear hfz20_1; try clear hfz24_0; try clear hfz24_1; try clear hfz30_0; try clear hfz30_1; try clear hfz39_0; try clear hfz39_1; try clear p2; try clear p3; try clear p34; try clear p6; try clear q3; try clear q34
        obtain ⟨kq, x40_41, rfl, HA, HJ41, BK145, BK146, BK147, BK153, BK154, HB⟩ := hcut
        cases kq with
        | zero => exact absurd HA.out (by simp [rat_rounded.j1])
        | succ kj41 =>
          have H := HA.out
          clear HA
          simp only [rat_rounded.j1] at H
          have HC47 := Aside0.mk H
          clear H
          go_upto_if 40 with (fail)
          go_cut [40] (fun v40 wc => ∃ (kq : Nat) (x40_46 : Bool), v40 = .bool x40_46 ∧ Aside0 (rat_rounded.j2 kq x40_46 t148 t149 = some (r1, r2)) ∧ Aside0 (kq ≤ kj41) ∧ Aside0 (wc.heap[gb145]? = some (.cells #[.bool a0_0, .string a0_1] 24 (0, 0))) ∧ Aside0 (wc.heap[gb146]? = some (.cells #[.bool a1_0, .string a1_1] 24 (0, 0))) ∧ Aside0 (wc.heap[gb147]? = some (.cells #[.bool false, .string (⟨#[]⟩ : ByteArray)] 24 (0, 0))) ∧ Aside0 (wc.heap[gb153]? = some (.cells #[.bool t148, .string t149] 24 (0, 0))) ∧ Aside0 (wc.heap[gb154]? = some (.cells #[.bool t150, .string t151] 24 (0, 0))) ∧ Aside0 (Below w.heap.size w wc))
          case first =>
            have H := HC47.out
            clear HC47
            by_cases c48 : x40_41 = true
            · subst c48
              have H1 : (rat_rounded.j2 kj41 true t148 t149) = some (r1, r2) := by rw [if_pos rfl] at H; exact H
              clear H
              have H := H1
              clear H1
              have H' := Aside0.mk H
              clear H
              go_wp2
              go_meet
              case rel => exact ⟨_, (true), zR, H', ⟨by have := HJ3.out; have := HJ41.out; first | omega | exact Nat.le_refl _⟩, zK BK145, zK BK146, zK BK147, zK BK153, zK BK154, ⟨zT HB⟩⟩
            · replace c48 := Bool.eq_false_iff.mpr c48
              subst c48
              have H1 : (rat_rounded.j2 kj41 (decide (t157 < 0)) t148 t149) = some (r1, r2) := by rw [if_neg (show ¬ (false = true) by decide)] at H; exact H
              clear H
              have H := H1
              clear H1
              have H' := Aside0.mk H
              clear H
              go_wp2
              go_meet
              case rel => exact ⟨_, (decide (t157 < 0)), zR, H', ⟨by have := HJ3.out; have := HJ41.out; first | omega | exact Nat.le_refl _⟩, zK BK145, zK BK146, zK BK147, zK BK153, zK BK154, ⟨zT HB⟩⟩
          case rest =>
            clear HC47
            try clear c1; try clear c2; try clear p2; try clear c3; try clear p3; try clear q3; try clear hx3; try clear c4; try clear c5; try clear p6; try clear c7; try clear c8; try clear c9; try clear c11; try clear c16; try clear c17; try clear c18; try clear c19; try clear c21; try clear c22; try clear c23; try clear c25; try clear c25b0; try clear c25b1; try clear c26; try clear c27; try clear c28; try clear c29; try clear c32; try clear c32b0; try clear c33; try clear c33b0; try clear p34; try clear q34; try clear hx34; try clear c35; try clear c36; try clear c37; try clear c38; try clear c46; try clear c46b0; try clear c46b1; try clear c48; try clear hcz10_0; try clear hcz10_1; try clear hcz12_0; try clear hcz12_1; try clear hcz20_0; try clear hcz20_1; try clear hcz24_0; try clear hcz24_1; try clear hcz30_0; try clear hcz30_1; try clear hcz39_0; try clear hcz39_1; try clear hfz10_0; try clear hfz10_1; try clear hfz12_0; try clear hfz12_1; try clear hfz20_0; try clear hfz20_1; try clear hfz24_0; try clear hfz24_1; try clear hfz30_0; try clear hfz30_1; try clear hfz39_0; try clear hfz39_1; try clear p2; try clear p3; try clear p34; try clear p6; try clear q3; try clear q34
            obtain ⟨kq, x40_46, rfl, HA, HJ46, BK145, BK146, BK147, BK153, BK154, HB⟩ := hcut
            cases kq with
            | zero => exact absurd HA.out (by simp [rat_rounded.j2])
            | succ kj46 =>
              have H := HA.out
              clear HA
              simp only [rat_rounded.j2] at H
              by_cases c49 : x40_46 = true
              · subst c49
                have H1 : (some (t148, t149)) = some (r1, r2) := by rw [if_pos rfl] at H; exact H
                clear H
                have H := H1
                clear H1
                simp only [Option.some.injEq, Prod.mk.injEq] at H
                obtain ⟨rfl, rfl⟩ := H
                have hnb50 := NB153_145.out; have hnc50 := NB145_153.out; have hnb51 := NB153_146.out; have hnc51 := NB146_153.out; have hnb52 := NB153_147.out; have hnc52 := NB147_153.out; have hnb53 := NB153_154.out; have hnc53 := NB154_153.out; obtain ⟨hcz54_0, hcz54_1, hfz54_0, hfz54_1⟩ := z2 BK153; have hnb55 := NB147_145.out; have hnc55 := NB145_147.out; have hnb56 := NB147_146.out; have hnc56 := NB146_147.out; have hnb57 := NB147_154.out; have hnc57 := NB154_147.out; obtain ⟨hcz58_0, hcz58_1, hfz58_0, hfz58_1⟩ := z2 BK147
                go_wp2
                refine bodyPost_ret (results_cell_row rfl _ _ gb147 24 #[.bool t148, .string t149] (0, 0) _ rfl (by (with_reducible repeat (first | refine blk_drewN ?_ _ | refine blk_drew ?_ | refine blk_alloc ?_ _)); refine zP (cs := #[.bool t148, .string (⟨#[]⟩ : ByteArray)]) ?_ 1 _; (with_reducible repeat (first | refine blk_drewN ?_ _ | refine blk_drew ?_ | refine blk_alloc ?_ _)); refine zP (cs := #[.bool false, .string (⟨#[]⟩ : ByteArray)]) ?_ 0 _; (with_reducible repeat (first | refine blk_drewN ?_ _ | refine blk_drew ?_ | refine blk_alloc ?_ _)); exact BK147.out) Tryz.underlying24 rfl (by kernel_rfl)) rfl ?_
                exact ⟨by first | rfl | (simp [errW_none, errW_some] <;> rfl) | (simp [*, errW_none, errW_some] <;> rfl), zT HB⟩
              · replace c49 := Bool.eq_false_iff.mpr c49
                subst c49
                have H1 : ((whole_Of.f 1).bind fun bt159 => ((rat_do_of_whole_Add.f t148 t149 bt159.1 bt159.2).bind fun bt161 => (some (bt161.1, bt161.2)))) = some (r1, r2) := by rw [if_neg (show ¬ (false = true) by decide)] at H; exact H
                clear H
                have H := H1
                clear H1
                replace H := Option.bind_eq_some_iff.mp H
                obtain ⟨⟨t159, t160⟩, A590, H⟩ := H
                replace H : ((rat_do_of_whole_Add.f t148 t149 t159 t160).bind fun bt161 => (some (bt161.1, bt161.2))) = some (r1, r2) := H
                have A59 := Aside0.mk A590
                clear A590
                replace H := Option.bind_eq_some_iff.mp H
                obtain ⟨⟨t161, t162⟩, A600, H⟩ := H
                replace H : (some (t161, t162)) = some (r1, r2) := H
                have A60 := Aside0.mk A600
                clear A600
                simp only [Option.some.injEq, Prod.mk.injEq] at H
                obtain ⟨rfl, rfl⟩ := H
                try go_wp2
                replace BK145 := zD BK145; replace BK146 := zD BK146; replace BK147 := zD BK147; replace BK153 := zD BK153; replace BK154 := zD BK154; replace HB := zF HB
                refine start_ (n := 4) (S := fun w' => w'.cell? ⟨gb153, 0, none⟩ = some (.bool t148) ∧ w'.cell? ⟨gb153, 1, none⟩ = some (.string t149)) (ds := []) #[false, false, false, false] (by kernel_rfl) rfl rfl ⟨(blk_cell BK153.out 0).trans rfl, (blk_cell BK153.out 1).trans rfl⟩ (fun hHeld => ?_)
                generalize wc.drew = w61 at BK145 BK146 BK147 BK153 BK154 HB hHeld ⊢
                refine take_ (i := 0) (N := some 50) (v := ?_) (a' := ?_) #[true, false, false, false] rfl rfl (by kernel_rfl) (fun _ _ _ h => h) (Or.inl ⟨by rfl, ?_⟩) hHeld ?_ ?_
                rotate_left
                · rintro w' ⟨s0, s1⟩
                  go_simp
                  with_reducible rfl
                rotate_left
                · simp only [Act.put, List.setIfInBounds_toArray, List.set_cons_zero, List.set_cons_succ, i64_w, i32_w]
                  rfl
                refine one_ (i := 1) (N := some 51) #[true, true, false, false] rfl rfl (by kernel_rfl) (by decide) (fun K hK => ?_)
                refine zX Tryz.func54 (by kernel_rfl) #[.int .i64 1] ?_
                with_reducible refine (whole_Of.calls 1 t159 t160 _ A59.out).mono ?_
                rintro e w62 ⟨rfl, hb⟩; refine ⟨_, rfl, ?_⟩
                obtain ⟨BK145, BK146, BK147, BK153, BK154⟩ := zB5 BK145 BK146 BK147 BK153 BK154 hb; replace HB := zS HB hb
                (try clear hb)
                refine hK.out _ _ ⟨(blk_cell BK153.out 0).trans rfl, (blk_cell BK153.out 1).trans rfl⟩ (fun hHeld => ?_)
                clear hK K
                refine zW (some 51) ?_
                refine one_ (i := 2) (N := some 52) #[true, true, true, false] rfl rfl (by kernel_rfl) (by decide) (fun K hK => ?_)
                refine zX Tryz.func57 (by kernel_rfl) #[.func (.func 74) #[] #[], .agg #[.bool t148, .string t149], .agg #[.bool t159, .string t160]] ?_
                with_reducible refine (rat_do_of_whole_Add.calls t148 t149 t159 t160 t161 t162 _ A60.out).mono ?_
                rintro e w63 ⟨rfl, hb⟩; refine ⟨_, rfl, ?_⟩
                obtain ⟨BK145, BK146, BK147, BK153, BK154⟩ := zB5 BK145 BK146 BK147 BK153 BK154 hb; replace HB := zS HB hb
                (try clear hb)
                refine hK.out _ _ ⟨(blk_cell BK153.out 0).trans rfl, (blk_cell BK153.out 1).trans rfl⟩ (fun hHeld => ?_)
                clear hK K
                refine zW (some 52) ?_
                refine one_ (i := 3) (N := none) #[true, true, true, true] rfl rfl (by kernel_rfl) (by decide) (fun K hK => ?_)
                have hs64 : w63.cell? ⟨gb147, 0, none⟩ = some (.bool false) := (blk_cell BK147.out 0).trans rfl
                have hfs64 := blk_frozen BK147.out 0
                have hns64_0 := NB145_147.out
                have hns64_1 := NB146_147.out
                have hns64_3 := NB153_147.out
                have hns64_4 := NB154_147.out
                have hms64_0 := NB147_145.out
                have hms64_1 := NB147_146.out
                have hms64_3 := NB147_153.out
                have hms64_4 := NB147_154.out
                have hs65 : w63.cell? ⟨gb147, 1, none⟩ = some (.string (⟨#[]⟩ : ByteArray)) := (blk_cell BK147.out 1).trans rfl
                have hfs65 := blk_frozen BK147.out 1
                have hns65_0 := NB145_147.out
                have hns65_1 := NB146_147.out
                have hns65_3 := NB153_147.out
                have hns65_4 := NB154_147.out
                have hms65_0 := NB147_145.out
                have hms65_1 := NB147_146.out
                have hms65_3 := NB147_153.out
                have hms65_4 := NB147_154.out
                refine skip_ (w1 := ?_) (by rfl) rfl ?_ ?_
                rotate_left
                · go_simp
                  rfl
                refine hK.out _ _ ⟨((cell_far (p := ⟨gb147, _, none⟩) NB153_147.out _).trans (((cell_far (p := ⟨gb147, _, none⟩) NB153_147.out _).trans (hHeld.1)))), ((cell_far (p := ⟨gb147, _, none⟩) NB153_147.out _).trans (((cell_far (p := ⟨gb147, _, none⟩) NB153_147.out _).trans (hHeld.2))))⟩ (fun hHeld => ?_)
                clear hK K
                refine done_ (by kernel_rfl) ?_
                try go_wp2
                refine bodyPost_ret (results_cell_row rfl _ _ gb147 24 #[.bool t161, .string t162] (0, 0) _ rfl (by (with_reducible repeat (first | refine blk_drewN ?_ _ | refine blk_drew ?_ | refine blk_alloc ?_ _)); refine zP (cs := #[.bool t161, .string (⟨#[]⟩ : ByteArray)]) ?_ 1 _; (with_reducible repeat (first | refine blk_drewN ?_ _ | refine blk_drew ?_ | refine blk_alloc ?_ _)); refine zP (cs := #[.bool false, .string (⟨#[]⟩ : ByteArray)]) ?_ 0 _; (with_reducible repeat (first | refine blk_drewN ?_ _ | refine blk_drew ?_ | refine blk_alloc ?_ _)); exact BK147.out) Tryz.underlying24 rfl (by kernel_rfl)) rfl ?_
                exact ⟨by first | rfl | (simp [errW_none, errW_some] <;> rfl) | (simp [*, errW_none, errW_some] <;> rfl), zT HB⟩

end Go.Proofs.YtoijlbcbbblbfaaGreatDoorH.R

-- printed by hp.py
namespace Go.Proofs.YtoijlbcbbblbfaaGreatDoorH.R
open Go.RowKit Go.Proofs.YtoijlbcbbblbfaaGreatDoorH.Z Go.Proofs.YtoijlbcbbblbfaaGreatDoorW.PrintWords Go.Proofs.YtoijlbcbbblbfaaGreatDoorW.PrintLast Go.Proofs.YtoijlbcbbblbfaaGreatDoorW.PrintMore
attribute [local go_sem] max2_int min2_int max_two min_two max_three min_three max_four min_four   -- for this text's walks alone
set_option linter.unusedVariables false
set_option linter.unusedSimpArgs false

/-! ### strings_Repeat: function 62 -/
open Go.Proofs.YtoijlbcbbblbfaaGreatDoor Go.Proofs.YtoijlbcbbblbfaaGreatDoor.Num in
def strings_Repeat.f (a0 : ByteArray) (a1 : Int) : Option ByteArray := if a0.size ≤ 100000 ∧ 0 ≤ a1 ∧ a1 ≤ 100000 then some ⟨(Lib.repeatL a0.data.toList a1.toNat).toArray⟩ else none
open Go.Proofs.YtoijlbcbbblbfaaGreatDoor Go.Proofs.YtoijlbcbbblbfaaGreatDoor.Num in
theorem strings_Repeat.calls (a0 : ByteArray) (a1 : Int) (r : ByteArray) (w : World) (h : strings_Repeat.f a0 a1 = some r) :
    Calls Tryz.prog 62 #[.string a0, .int .i64 a1] w fun e w' => e = .returned (.string r) ∧ Below w.heap.size w w' := by
  unfold strings_Repeat.f at h
  split at h
  · rename_i hc
    obtain rfl := Option.some.inj h
    obtain ⟨n, rfl⟩ := Int.eq_ofNat_of_zero_le hc.2.1
    rw [Int.toNat_natCast]
    exact Tryz.strings_Repeat a0 n w (by omega) (by
      have h1 : a0.size * n ≤ 100000 * 100000 := Nat.mul_le_mul hc.1 (by omega)
      omega)
  · exact absurd h (by simp)


end Go.Proofs.YtoijlbcbbblbfaaGreatDoorH.R
