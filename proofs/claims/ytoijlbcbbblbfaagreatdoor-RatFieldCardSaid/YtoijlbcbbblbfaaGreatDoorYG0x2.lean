import Derived.Test.YtoijlbcbbblbfaaGreatDoorYG0x0
import Derived.Test.YtoijlbcbbblbfaaGreatDoorYG0x1
import Derived.Test.YtoijlbcbbblbfaaGreatDoorYS6
-- printed by hp.py
namespace Go.Proofs.YtoijlbcbbblbfaaGreatDoorH.R
open Go.RowKit Go.Proofs.YtoijlbcbbblbfaaGreatDoorH.Z Go.Proofs.YtoijlbcbbblbfaaGreatDoorW.PrintWords Go.Proofs.YtoijlbcbbblbfaaGreatDoorW.PrintLast Go.Proofs.YtoijlbcbbblbfaaGreatDoorW.PrintMore
attribute [local go_sem] max2_int min2_int max_two min_two max_three min_three max_four min_four   -- for this text's walks alone
set_option linter.unusedVariables false
set_option linter.unusedSimpArgs false

/-! ### rat_Decimal: function 20 -/
mutual
def rat_Decimal.j0 : Nat → Int → Bool → Bool → ByteArray → ByteArray → Option (ByteArray × Int)
  | 0, _, _, _, _, _ => none
  | k + 1, x1, x18, x164000, x164001, x164002 => if x18 = true then (some ((⟨#[]⟩ : ByteArray), 1)) else (rat_Decimal.l0 k x1 x1 0 x164000 x164001 x164002 false x164001)
def rat_Decimal.l0 : Nat → Int → Int → Int → Bool → ByteArray → ByteArray → Bool → ByteArray → Option (ByteArray × Int)
  | 0, _, _, _, _, _, _, _, _ => none
  | k + 1, x1, x29, x30, x164000, x164001, x164002, x166000, x166001 => if x30 < x29 then ((whole_Of.f 10).bind fun bt166 => ((rat_do_of_whole_Mul.f x166000 x166001 bt166.1 bt166.2).bind fun bt168 => (rat_Decimal.l0 k x1 x29 (wrap64 (x30 + 1)) x164000 x164001 x164002 bt168.1 bt168.2))) else ((rat_den.f x164000 x164001 x164002).bind fun bt170 => ((rat_rounded.f k x166000 x166001 bt170.1 bt170.2).bind fun bt172 => ((whole_Print.f bt172.1 bt172.2).bind fun bt175 => ((strings_Repeat.f (⟨#[48]⟩ : ByteArray) (mx 0 (wrap64 ((wrap64 (x1 + 1)) - (bt175.1.size : Int))))).bind fun t177 => (if t177.size + bt175.1.size ≤ 9223372036854775807 then (if x1 > 0 then (if 0 ≤ (wrap64 (((t177 ++ bt175.1).size : Int) - x1)) then (if (wrap64 (((t177 ++ bt175.1).size : Int) - x1)) ≤ ((t177 ++ bt175.1).size : Int) then (if ((t177 ++ bt175.1).extract 0 ((wrap64 (((t177 ++ bt175.1).size : Int) - x1)) : Int).toNat).size + 1 ≤ 9223372036854775807 then (if (((t177 ++ bt175.1).extract 0 ((wrap64 (((t177 ++ bt175.1).size : Int) - x1)) : Int).toNat) ++ (⟨#[46]⟩ : ByteArray)).size + ((t177 ++ bt175.1).extract ((wrap64 (((t177 ++ bt175.1).size : Int) - x1)) : Int).toNat (t177 ++ bt175.1).size).size ≤ 9223372036854775807 then (rat_Decimal.j2 k ((((t177 ++ bt175.1).extract 0 ((wrap64 (((t177 ++ bt175.1).size : Int) - x1)) : Int).toNat) ++ (⟨#[46]⟩ : ByteArray)) ++ ((t177 ++ bt175.1).extract ((wrap64 (((t177 ++ bt175.1).size : Int) - x1)) : Int).toNat (t177 ++ bt175.1).size)) x164000 x164001 x164002 bt172.1 bt172.2) else (none)) else (none)) else (none)) else (none)) else (rat_Decimal.j2 k (t177 ++ bt175.1) x164000 x164001 x164002 bt172.1 bt172.2)) else (none))))))
def rat_Decimal.j2 : Nat → ByteArray → Bool → ByteArray → ByteArray → Bool → ByteArray → Option (ByteArray × Int)
  | 0, _, _, _, _, _, _ => none
  | k + 1, x9, x164000, x164001, x164002, x175000, x175001 => if x164000 = true then (rat_Decimal.j3 k x9 (x175001.toList != ([] : List UInt8))) else (rat_Decimal.j3 k x9 false)
def rat_Decimal.j3 : Nat → ByteArray → Bool → Option (ByteArray × Int)
  | 0, _, _ => none
  | k + 1, x9, x75 => if x75 = true then (if 1 + x9.size ≤ 9223372036854775807 then (some ((⟨#[45]⟩ : ByteArray) ++ x9, 0)) else (none)) else (some (x9, 0))
end
def rat_Decimal.f (k : Nat) (a0_0 : Bool) (a0_1 : ByteArray) (a0_2 : ByteArray) (a1 : Int) : Option (ByteArray × Int) := (rat_Check.f k a0_0 a0_1 a0_2).bind fun t164 => (if t164 = 0 then (if a1 < 0 then (rat_Decimal.j0 k a1 true a0_0 a0_1 a0_2) else (rat_Decimal.j0 k a1 (decide (a1 > 100)) a0_0 a0_1 a0_2)) else (some ((⟨#[]⟩ : ByteArray), t164)))
def rat_Decimal.T16 : Bool × List (List Nat × List Nat) := (true, [([], []), ([], []), ([0, 1], [0, 1]), ([2], [2]), ([], []), ([], []), ([4, 5], [4, 5]), ([3, 6], [3, 6]), ([7, 0, 1, 2, 3, 4, 5, 6, 7], [0, 4, 7])])
def rat_Decimal.B16 : List Nat := [0, 0, 3, 7, 0, 0, 48, 127, 255]
theorem rat_Decimal.tab16 : rtab .any (opsOf Tryz.f20 16) = rat_Decimal.T16 := by kernel_rfl
theorem rat_Decimal.bits16 : waitsOk rat_Decimal.T16.2 rat_Decimal.B16 = true := by kernel_rfl
set_option maxHeartbeats 8000000 in
set_option maxRecDepth 100000 in
theorem rat_Decimal.calls (k : Nat) (a0_0 : Bool) (a0_1 : ByteArray) (a0_2 : ByteArray) (a1 : Int) (r1 : ByteArray) (r2 : Int) (w : World) (h : rat_Decimal.f k a0_0 a0_1 a0_2 a1 = some (r1, r2)) :
    Calls Tryz.prog 20 #[.agg #[.bool a0_0, .string a0_1, .string a0_2], .int .i64 a1] w fun e w' => e = .returned (.tuple #[.string r1, .int .i64 r2]) ∧ Below w.heap.size w w' := by
  have hu27 := Tryz.underlying27
  have hu24 := Tryz.underlying24; have hf0 := zf240; have hf1 := zf241; have hf2 := zf270; have hf3 := zf271
  have HB := Aside0.mk (Below.refl w.heap.size w)
  have H : ((rat_Check.f k a0_0 a0_1 a0_2).bind fun t164 => (if t164 = 0 then (if a1 < 0 then (rat_Decimal.j0 k a1 true a0_0 a0_1 a0_2) else (rat_Decimal.j0 k a1 (decide (a1 > 100)) a0_0 a0_1 a0_2)) else (some ((⟨#[]⟩ : ByteArray), t164)))) = some (r1, r2) := h
  clear h
  replace H := Option.bind_eq_some_iff.mp H
  obtain ⟨t164, A30, H⟩ := H
  replace H : (if t164 = 0 then (if a1 < 0 then (rat_Decimal.j0 k a1 true a0_0 a0_1 a0_2) else (rat_Decimal.j0 k a1 (decide (a1 > 100)) a0_0 a0_1 a0_2)) else (some ((⟨#[]⟩ : ByteArray), t164))) = some (r1, r2) := H
  have A3 := Aside0.mk A30
  clear A30
  by_cases c4 : t164 = 0
  · rw [if_pos c4] at H
    have c4b0 : (t164 == 0) = true := beq_iff_eq.mpr c4
    have c4b1 : (t164 != 0) = false := bne_eq_false_iff_eq.mpr c4
    clear c4
    have HC5 := Aside0.mk H
    clear H
    go_enter Tryz.func20, Tryz.ntmps20
    go_upto_region 4 with (first | ((with_reducible refine gate_dst (N := 2) rfl ?_); refine zY 2 #[.bool a0_0, .string a0_1, .string a0_2] 27 ?_; intro gb163 hg w6 hbox hb; have BK163 := Aside0.mk (hbox); have GW163 := zG hg HB; have GE163 := zG hg HB; replace HB := zS HB hb; clear hb hbox hg; obtain ⟨hcz7_0, hcz7_1, hcz7_2, hfz7_0, hfz7_1, hfz7_2⟩ := z3 BK163) | ((with_reducible refine gate_callee (f := 41) rfl ?_); refine zC Tryz.func41 (by kernel_rfl) #[.agg #[.bool a0_0, .string a0_1, .string a0_2]] ?_; (with_reducible refine (rat_Check.calls k a0_0 a0_1 a0_2 t164 _ A3.out).mono ?_); rintro e w8 ⟨rfl, hb⟩; refine ⟨_, rfl, ?_⟩; replace BK163 := zB BK163 hb; replace HB := zS HB hb; (try clear hb)))
    (try simp only [Act.put, List.setIfInBounds_toArray, List.set_cons_zero, List.set_cons_succ])
    go_cut [18] (fun v18 wc => ∃ (kq : Nat) (x18_4 : Bool), v18 = .bool x18_4 ∧ Aside0 (rat_Decimal.j0 kq a1 x18_4 a0_0 a0_1 a0_2 = some (r1, r2)) ∧ Aside0 (kq ≤ k) ∧ Aside0 (wc.heap[gb163]? = some (.cells #[.bool a0_0, .string a0_1, .string a0_2] 27 (0, 0))) ∧ Aside0 (Below w.heap.size w wc))
    case first =>
      have H := HC5.out
      clear HC5
      by_cases c9 : a1 < 0
      · rw [if_pos c9] at H
        have c9b0 : decide (a1 < 0) = true := decide_eq_true c9
        clear c9
        (first | rw [c9b0] | (simp only [i64_w, i32_w]; rw [c9b0]) | skip)
        have H' := Aside0.mk H
        clear H
        go_wp2
        go_meet
        case rel => exact ⟨_, (true), zR, H', zL, zK BK163, ⟨zT HB⟩⟩
      · rw [if_neg c9] at H
        have c9b0 : decide (a1 < 0) = false := decide_eq_false c9
        clear c9
        (first | rw [c9b0] | (simp only [i64_w, i32_w]; rw [c9b0]) | skip)
        have H' := Aside0.mk H
        clear H
        go_wp2
        go_meet
        case rel => exact ⟨_, (decide (a1 > 100)), zR, H', zL, zK BK163, ⟨zT HB⟩⟩
    case rest =>
      clear HC5
      try clear c2; try clear p2; try clear c4; try clear c4b0; try clear c4b1; try clear c9; try clear c9b0; try clear hcz7_0; try clear hcz7_1; try clear hcz7_2; try clear hfz7_0; try clear hfz7_1; try clear hfz7_2
      obtain ⟨kq, x18_4, rfl, HA, HJ4, BK163, HB⟩ := hcut
      cases kq with
      | zero => exact absurd HA.out (by simp [rat_Decimal.j0])
      | succ kj4 =>
        have H := HA.out
        clear HA
        simp only [rat_Decimal.j0] at H
        by_cases c10 : x18_4 = true
        · subst c10
          have H1 : (some ((⟨#[]⟩ : ByteArray), 1)) = some (r1, r2) := by rw [if_pos rfl] at H; exact H
          clear H
          have H := H1
          clear H1
          simp only [Option.some.injEq, Prod.mk.injEq] at H
          obtain ⟨rfl, rfl⟩ := H
          go_wp2
          go_ret2
          exact ⟨by first | rfl | (simp [errW_none, errW_some] <;> rfl) | (simp [*, errW_none, errW_some] <;> rfl), zT HB⟩
        · replace c10 := Bool.eq_false_iff.mpr c10
          subst c10
          have H1 : (rat_Decimal.l0 kj4 a1 a1 0 a0_0 a0_1 a0_2 false a0_1) = some (r1, r2) := by rw [if_neg (show ¬ (false = true) by decide)] at H; exact H
          clear H
          have H := H1
          clear H1
          have H' := Aside0.mk H
          clear H; obtain ⟨hcz11_0, hcz11_1, hcz11_2, hfz11_0, hfz11_1, hfz11_2⟩ := z3 BK163
          go_wp2_with (first | ((with_reducible refine gate_dst (N := 7) rfl ?_); refine zY 7 #[.bool false, .string (⟨#[]⟩ : ByteArray)] 24 ?_; intro gb165 hg w12 hbox hb; have BK165 := Aside0.mk (hbox); have GW165 := zG hg HB; have GE165 := zG hg HB; obtain ⟨NB163_165, NB165_163⟩ := zQ hg BK163; replace BK163 := zB BK163 hb; replace HB := zS HB hb; clear hb hbox hg; have hnb13 := NB165_163.out; have hnc13 := NB163_165.out; obtain ⟨hcz14_0, hcz14_1, hfz14_0, hfz14_1⟩ := z2 BK165))
          go_loopg [30] kj4 (fun kq v30 w' => ∃ (x30_2 : Int) (x166000_2 : Bool) (x166001_2 : ByteArray), v30 = .int .i64 x30_2 ∧ Aside0 (rat_Decimal.l0 kq a1 a1 x30_2 a0_0 a0_1 a0_2 x166000_2 x166001_2 = some (r1, r2)) ∧ Aside0 (kq ≤ kj4) ∧ Aside0 (w'.heap[gb163]? = some (.cells #[.bool a0_0, .string a0_1, .string a0_2] 27 (0, 0))) ∧ Aside0 (w'.heap[gb165]? = some (.cells #[.bool x166000_2, .string x166001_2] 24 (0, 0))) ∧ Aside0 (Below w.heap.size w w'))
          case atStart => exact ⟨(0), (false), (a0_1), zR, H', ⟨Nat.le_refl _⟩, zK BK163, ⟨by (with_reducible repeat (first | refine blk_drewN ?_ _ | refine blk_drew ?_ | refine blk_alloc ?_ _)); refine zP (cs := #[.bool false, .string (⟨#[]⟩ : ByteArray)]) ?_ 1 _; (with_reducible repeat (first | refine blk_drewN ?_ _ | refine blk_drew ?_ | refine blk_alloc ?_ _)); refine zP (cs := #[.bool false, .string (⟨#[]⟩ : ByteArray)]) ?_ 0 _; (with_reducible repeat (first | refine blk_drewN ?_ _ | refine blk_drew ?_ | refine blk_alloc ?_ _)); exact BK165.out⟩, ⟨zT HB⟩⟩
          case round =>
            clear H'
            try clear c1; try clear c2; try clear p2; try clear c4; try clear c4b0; try clear c4b1; try clear c9; try clear c9b0; try clear c10; try clear c13; try clear hcz11_0; try clear hcz11_1; try clear hcz11_2; try clear hcz14_0; try clear hcz14_1; try clear hcz7_0; try clear hcz7_1; try clear hcz7_2; try clear hfz11_0; try clear hfz11_1; try clear hfz11_2; try clear hfz14_0; try clear hfz14_1; try clear hfz7_0; try clear hfz7_1; try clear hfz7_2; try clear p2
            obtain ⟨x30_2, x166000_2, x166001_2, rfl, HA, HK2, BK163, BK165, HB⟩ := hrel
            cases gk with
            | zero => exact absurd HA.out (by simp [rat_Decimal.l0])
            | succ k2 =>
              have H := HA.out
              clear HA
              simp only [rat_Decimal.l0] at H
              by_cases c15 : x30_2 < a1
              · rw [if_pos c15] at H
                have c15b0 : decide (x30_2 < a1) = true := decide_eq_true c15
                clear c15
                replace H := Option.bind_eq_some_iff.mp H
                obtain ⟨⟨t166, t167⟩, A160, H⟩ := H
                replace H : ((rat_do_of_whole_Mul.f x166000_2 x166001_2 t166 t167).bind fun bt168 => (rat_Decimal.l0 k2 a1 a1 (wrap64 (x30_2 + 1)) a0_0 a0_1 a0_2 bt168.1 bt168.2)) = some (r1, r2) := H
                have A16 := Aside0.mk A160
                clear A160
                replace H := Option.bind_eq_some_iff.mp H
                obtain ⟨⟨t168, t169⟩, A170, H⟩ := H
                replace H : (rat_Decimal.l0 k2 a1 a1 (wrap64 (x30_2 + 1)) a0_0 a0_1 a0_2 t168 t169) = some (r1, r2) := H
                have A17 := Aside0.mk A170
                clear A170
                have H' := Aside0.mk H
                clear H
                try go_wp2
                replace BK163 := zD BK163; replace BK165 := zD BK165; replace HB := zF HB
                refine start_ (n := 4) (S := fun w' => w'.cell? ⟨gb165, 0, none⟩ = some (.bool x166000_2) ∧ w'.cell? ⟨gb165, 1, none⟩ = some (.string x166001_2)) (ds := [3]) #[false, false, false, false] (by kernel_rfl) rfl rfl ⟨(blk_cell BK165.out 0).trans rfl, (blk_cell BK165.out 1).trans rfl⟩ (fun hHeld => ?_)
                generalize wr.drew = w18 at BK163 BK165 HB hHeld ⊢
                refine take_ (i := 0) (N := some 32) (v := ?_) (a' := ?_) #[true, false, false, false] rfl rfl (by kernel_rfl) (fun _ _ _ h => h) (Or.inl ⟨by rfl, ?_⟩) hHeld ?_ ?_
                rotate_left
                · rintro w' ⟨s0, s1⟩
                  go_simp
                  with_reducible rfl
                rotate_left
                · simp only [Act.put, List.setIfInBounds_toArray, List.set_cons_zero, List.set_cons_succ, i64_w, i32_w]
                  rfl
                refine one_ (i := 1) (N := some 33) #[true, true, false, false] rfl rfl (by kernel_rfl) (by decide) (fun K hK => ?_)
                refine zX Tryz.func54 (by kernel_rfl) #[.int .i64 10] ?_
                with_reducible refine (whole_Of.calls 10 t166 t167 _ A16.out).mono ?_
                rintro e w19 ⟨rfl, hb⟩; refine ⟨_, rfl, ?_⟩
                obtain ⟨BK163, BK165⟩ := zB2 BK163 BK165 hb; replace HB := zS HB hb
                (try clear hb)
                refine hK.out _ _ ⟨(blk_cell BK165.out 0).trans rfl, (blk_cell BK165.out 1).trans rfl⟩ (fun hHeld => ?_)
                clear hK K
                refine zW (some 33) ?_
                refine one_ (i := 2) (N := some 34) #[true, true, true, false] rfl rfl (by kernel_rfl) (by decide) (fun K hK => ?_)
                refine zX Tryz.func57 (by kernel_rfl) #[.func (.func 58) #[] #[], .agg #[.bool x166000_2, .string x166001_2], .agg #[.bool t166, .string t167]] ?_
                with_reducible refine (rat_do_of_whole_Mul.calls x166000_2 x166001_2 t166 t167 t168 t169 _ A17.out).mono ?_
                rintro e w20 ⟨rfl, hb⟩; refine ⟨_, rfl, ?_⟩
                obtain ⟨BK163, BK165⟩ := zB2 BK163 BK165 hb; replace HB := zS HB hb
                (try clear hb)
                refine hK.out _ _ ⟨(blk_cell BK165.out 0).trans rfl, (blk_cell BK165.out 1).trans rfl⟩ (fun hHeld => ?_)
                clear hK K
                refine zW (some 34) ?_
                refine last_ (i := 3) (N := none) #[true, true, true, true] rfl rfl (by kernel_rfl) (by decide) (fun K hK => ?_)
                have hs21 : w20.cell? ⟨gb165, 0, none⟩ = some (.bool x166000_2) := (blk_cell BK165.out 0).trans rfl
                have hfs21 := blk_frozen BK165.out 0
                have hns21_0 := NB163_165.out
                have hms21_0 := NB165_163.out
                have hs22 : w20.cell? ⟨gb165, 1, none⟩ = some (.string x166001_2) := (blk_cell BK165.out 1).trans rfl
                have hfs22 := blk_frozen BK165.out 1
                have hns22_0 := NB163_165.out
                have hms22_0 := NB165_163.out
                refine skip_ (w1 := ?_) (by rfl) rfl ?_ ?_
                rotate_left
                · go_simp
                  rfl
                refine hK.out _ _ ?_
                clear hK K
                refine done_ (by kernel_rfl) ?_
                try go_wp2
                go_roundg k2
                case measure => have := HJ4.out; have := HK2.out; omega
                case rel => exact ⟨(wrap64 (x30_2 + 1)), (t168), (t169), zR, H', ⟨by have := HJ4.out; have := HK2.out; omega⟩, zK BK163, ⟨by (with_reducible repeat (first | refine blk_drewN ?_ _ | refine blk_drew ?_ | refine blk_alloc ?_ _)); refine zP (cs := #[.bool t168, .string x166001_2]) ?_ 1 _; (with_reducible repeat (first | refine blk_drewN ?_ _ | refine blk_drew ?_ | refine blk_alloc ?_ _)); refine zP (cs := #[.bool x166000_2, .string x166001_2]) ?_ 0 _; (with_reducible repeat (first | refine blk_drewN ?_ _ | refine blk_drew ?_ | refine blk_alloc ?_ _)); exact BK165.out⟩, ⟨zT HB⟩⟩
              · rw [if_neg c15] at H
                have c15b0 : decide (x30_2 < a1) = false := decide_eq_false c15
                clear c15
                replace H := Option.bind_eq_some_iff.mp H
                obtain ⟨⟨t170, t171⟩, A230, H⟩ := H
                replace H : ((rat_rounded.f k2 x166000_2 x166001_2 t170 t171).bind fun bt172 => ((whole_Print.f bt172.1 bt172.2).bind fun bt175 => ((strings_Repeat.f (⟨#[48]⟩ : ByteArray) (mx 0 (wrap64 ((wrap64 (a1 + 1)) - (bt175.1.size : Int))))).bind fun t177 => (if t177.size + bt175.1.size ≤ 9223372036854775807 then (if a1 > 0 then (if 0 ≤ (wrap64 (((t177 ++ bt175.1).size : Int) - a1)) then (if (wrap64 (((t177 ++ bt175.1).size : Int) - a1)) ≤ ((t177 ++ bt175.1).size : Int) then (if ((t177 ++ bt175.1).extract 0 ((wrap64 (((t177 ++ bt175.1).size : Int) - a1)) : Int).toNat).size + 1 ≤ 9223372036854775807 then (if (((t177 ++ bt175.1).extract 0 ((wrap64 (((t177 ++ bt175.1).size : Int) - a1)) : Int).toNat) ++ (⟨#[46]⟩ : ByteArray)).size + ((t177 ++ bt175.1).extract ((wrap64 (((t177 ++ bt175.1).size : Int) - a1)) : Int).toNat (t177 ++ bt175.1).size).size ≤ 9223372036854775807 then (rat_Decimal.j2 k2 ((((t177 ++ bt175.1).extract 0 ((wrap64 (((t177 ++ bt175.1).size : Int) - a1)) : Int).toNat) ++ (⟨#[46]⟩ : ByteArray)) ++ ((t177 ++ bt175.1).extract ((wrap64 (((t177 ++ bt175.1).size : Int) - a1)) : Int).toNat (t177 ++ bt175.1).size)) a0_0 a0_1 a0_2 bt172.1 bt172.2) else (none)) else (none)) else (none)) else (none)) else (rat_Decimal.j2 k2 (t177 ++ bt175.1) a0_0 a0_1 a0_2 bt172.1 bt172.2)) else (none))))) = some (r1, r2) := H
                have A23 := Aside0.mk A230
                clear A230
                replace H := Option.bind_eq_some_iff.mp H
                obtain ⟨⟨t172, t173⟩, A240, H⟩ := H
                replace H : ((whole_Print.f t172 t173).bind fun bt175 => ((strings_Repeat.f (⟨#[48]⟩ : ByteArray) (mx 0 (wrap64 ((wrap64 (a1 + 1)) - (bt175.1.size : Int))))).bind fun t177 => (if t177.size + bt175.1.size ≤ 9223372036854775807 then (if a1 > 0 then (if 0 ≤ (wrap64 (((t177 ++ bt175.1).size : Int) - a1)) then (if (wrap64 (((t177 ++ bt175.1).size : Int) - a1)) ≤ ((t177 ++ bt175.1).size : Int) then (if ((t177 ++ bt175.1).extract 0 ((wrap64 (((t177 ++ bt175.1).size : Int) - a1)) : Int).toNat).size + 1 ≤ 9223372036854775807 then (if (((t177 ++ bt175.1).extract 0 ((wrap64 (((t177 ++ bt175.1).size : Int) - a1)) : Int).toNat) ++ (⟨#[46]⟩ : ByteArray)).size + ((t177 ++ bt175.1).extract ((wrap64 (((t177 ++ bt175.1).size : Int) - a1)) : Int).toNat (t177 ++ bt175.1).size).size ≤ 9223372036854775807 then (rat_Decimal.j2 k2 ((((t177 ++ bt175.1).extract 0 ((wrap64 (((t177 ++ bt175.1).size : Int) - a1)) : Int).toNat) ++ (⟨#[46]⟩ : ByteArray)) ++ ((t177 ++ bt175.1).extract ((wrap64 (((t177 ++ bt175.1).size : Int) - a1)) : Int).toNat (t177 ++ bt175.1).size)) a0_0 a0_1 a0_2 t172 t173) else (none)) else (none)) else (none)) else (none)) else (rat_Decimal.j2 k2 (t177 ++ bt175.1) a0_0 a0_1 a0_2 t172 t173)) else (none)))) = some (r1, r2) := H
                have A24 := Aside0.mk A240
                clear A240
                replace H := Option.bind_eq_some_iff.mp H
                obtain ⟨⟨t175, t176⟩, A250, H⟩ := H
                replace H : ((strings_Repeat.f (⟨#[48]⟩ : ByteArray) (mx 0 (wrap64 ((wrap64 (a1 + 1)) - (t175.size : Int))))).bind fun t177 => (if t177.size + t175.size ≤ 9223372036854775807 then (if a1 > 0 then (if 0 ≤ (wrap64 (((t177 ++ t175).size : Int) - a1)) then (if (wrap64 (((t177 ++ t175).size : Int) - a1)) ≤ ((t177 ++ t175).size : Int) then (if ((t177 ++ t175).extract 0 ((wrap64 (((t177 ++ t175).size : Int) - a1)) : Int).toNat).size + 1 ≤ 9223372036854775807 then (if (((t177 ++ t175).extract 0 ((wrap64 (((t177 ++ t175).size : Int) - a1)) : Int).toNat) ++ (⟨#[46]⟩ : ByteArray)).size + ((t177 ++ t175).extract ((wrap64 (((t177 ++ t175).size : Int) - a1)) : Int).toNat (t177 ++ t175).size).size ≤ 9223372036854775807 then (rat_Decimal.j2 k2 ((((t177 ++ t175).extract 0 ((wrap64 (((t177 ++ t175).size : Int) - a1)) : Int).toNat) ++ (⟨#[46]⟩ : ByteArray)) ++ ((t177 ++ t175).extract ((wrap64 (((t177 ++ t175).size : Int) - a1)) : Int).toNat (t177 ++ t175).size)) a0_0 a0_1 a0_2 t172 t173) else (none)) else (none)) else (none)) else (none)) else (rat_Decimal.j2 k2 (t177 ++ t175) a0_0 a0_1 a0_2 t172 t173)) else (none))) = some (r1, r2) := H
                have A25 := Aside0.mk A250
                clear A250
                obtain ⟨ji26, hji26⟩ : ∃ j_ : Int, (mx 0 (wrap64 ((wrap64 (a1 + 1)) - (t175.size : Int)))) = j_ := ⟨_, rfl⟩
                replace H : ((strings_Repeat.f (⟨#[48]⟩ : ByteArray) (ji26)).bind fun t177 => (if t177.size + t175.size ≤ 9223372036854775807 then (if a1 > 0 then (if 0 ≤ (wrap64 (((t177 ++ t175).size : Int) - a1)) then (if (wrap64 (((t177 ++ t175).size : Int) - a1)) ≤ ((t177 ++ t175).size : Int) then (if ((t177 ++ t175).extract 0 ((wrap64 (((t177 ++ t175).size : Int) - a1)) : Int).toNat).size + 1 ≤ 9223372036854775807 then (if (((t177 ++ t175).extract 0 ((wrap64 (((t177 ++ t175).size : Int) - a1)) : Int).toNat) ++ (⟨#[46]⟩ : ByteArray)).size + ((t177 ++ t175).extract ((wrap64 (((t177 ++ t175).size : Int) - a1)) : Int).toNat (t177 ++ t175).size).size ≤ 9223372036854775807 then (rat_Decimal.j2 k2 ((((t177 ++ t175).extract 0 ((wrap64 (((t177 ++ t175).size : Int) - a1)) : Int).toNat) ++ (⟨#[46]⟩ : ByteArray)) ++ ((t177 ++ t175).extract ((wrap64 (((t177 ++ t175).size : Int) - a1)) : Int).toNat (t177 ++ t175).size)) a0_0 a0_1 a0_2 t172 t173) else (none)) else (none)) else (none)) else (none)) else (rat_Decimal.j2 k2 (t177 ++ t175) a0_0 a0_1 a0_2 t172 t173)) else (none))) = some (r1, r2) := by first | (rw [hji26] at H; exact H) | (simp only [hji26] at H ⊢; exact H)
                (try rw [hji26] at A23)
                (try rw [hji26] at A24)
                (try rw [hji26] at A25)
                have hji26_ : (if 0 < (wrap64 ((wrap64 (a1 + 1)) - (t175.size : Int))) then (wrap64 ((wrap64 (a1 + 1)) - (t175.size : Int))) else 0) = ji26 := hji26
                replace H := Option.bind_eq_some_iff.mp H
                obtain ⟨t177, A270, H⟩ := H
                replace H : (if t177.size + t175.size ≤ 9223372036854775807 then (if a1 > 0 then (if 0 ≤ (wrap64 (((t177 ++ t175).size : Int) - a1)) then (if (wrap64 (((t177 ++ t175).size : Int) - a1)) ≤ ((t177 ++ t175).size : Int) then (if ((t177 ++ t175).extract 0 ((wrap64 (((t177 ++ t175).size : Int) - a1)) : Int).toNat).size + 1 ≤ 9223372036854775807 then (if (((t177 ++ t175).extract 0 ((wrap64 (((t177 ++ t175).size : Int) - a1)) : Int).toNat) ++ (⟨#[46]⟩ : ByteArray)).size + ((t177 ++ t175).extract ((wrap64 (((t177 ++ t175).size : Int) - a1)) : Int).toNat (t177 ++ t175).size).size ≤ 9223372036854775807 then (rat_Decimal.j2 k2 ((((t177 ++ t175).extract 0 ((wrap64 (((t177 ++ t175).size : Int) - a1)) : Int).toNat) ++ (⟨#[46]⟩ : ByteArray)) ++ ((t177 ++ t175).extract ((wrap64 (((t177 ++ t175).size : Int) - a1)) : Int).toNat (t177 ++ t175).size)) a0_0 a0_1 a0_2 t172 t173) else (none)) else (none)) else (none)) else (none)) else (rat_Decimal.j2 k2 (t177 ++ t175) a0_0 a0_1 a0_2 t172 t173)) else (none)) = some (r1, r2) := H
                have A27 := Aside0.mk A270
                clear A270
                by_cases c28 : t177.size + t175.size ≤ 9223372036854775807
                · rw [if_pos c28] at H
                  have c28b0 := eq_true c28
                  have c28b1 : decide (t177.size + t175.size ≤ 9223372036854775807) = true := decide_eq_true c28
                  try have c28b2 : (9223372036854775807 < t177.size + t175.size) = False := eq_false (Nat.not_lt.2 c28)
                  have HC29 := Aside0.mk H
                  clear H
                  try go_wp2
                  replace BK163 := zD BK163; replace BK165 := zD BK165; replace HB := zF HB
                  refine start_ (n := 6) (S := fun w' => w'.cell? ⟨gb165, 0, none⟩ = some (.bool x166000_2) ∧ w'.cell? ⟨gb165, 1, none⟩ = some (.string x166001_2) ∧ w'.cell? ⟨gb163, 0, none⟩ = some (.bool a0_0) ∧ w'.cell? ⟨gb163, 1, none⟩ = some (.string a0_1) ∧ w'.cell? ⟨gb163, 2, none⟩ = some (.string a0_2)) (ds := []) #[false, false, false, false, false, false] (by kernel_rfl) rfl rfl ⟨(blk_cell BK165.out 0).trans rfl, (blk_cell BK165.out 1).trans rfl, (blk_cell BK163.out 0).trans rfl, (blk_cell BK163.out 1).trans rfl, (blk_cell BK163.out 2).trans rfl⟩ (fun hHeld => ?_)
                  generalize wr.drew = w30 at BK163 BK165 HB hHeld ⊢
                  refine take_ (i := 0) (N := some 36) (v := ?_) (a' := ?_) #[true, false, false, false, false, false] rfl rfl (by kernel_rfl) (fun _ _ _ h => h) (Or.inl ⟨by rfl, ?_⟩) hHeld ?_ ?_
                  rotate_left
                  · rintro w' ⟨s0, s1, s2, s3, s4⟩
                    go_simp
                    with_reducible rfl
                  rotate_left
                  · simp only [Act.put, List.setIfInBounds_toArray, List.set_cons_zero, List.set_cons_succ, i64_w, i32_w]
                    rfl
                  refine take_ (i := 1) (N := some 37) (v := ?_) (a' := ?_) #[true, true, false, false, false, false] rfl rfl (by kernel_rfl) (fun _ _ _ h => h) (Or.inl ⟨by rfl, ?_⟩) hHeld ?_ ?_
                  rotate_left
                  · rintro w' ⟨s0, s1, s2, s3, s4⟩
                    go_simp
                    with_reducible rfl
                  rotate_left
                  · simp only [Act.put, List.setIfInBounds_toArray, List.set_cons_zero, List.set_cons_succ, i64_w, i32_w]
                    rfl
                  refine join_ (σ := Nat) 1 #[true, true, true, true, true, false] (fun s_ => [(38, .agg #[.bool t170, .string t171]), (39, .agg #[.bool t172, .string t173]), (8, .pointer (some ⟨s_, 0, none⟩))]) (fun s_ w' => (w'.cell? ⟨gb165, 0, none⟩ = some (.bool x166000_2) ∧ w'.cell? ⟨gb165, 1, none⟩ = some (.string x166001_2) ∧ w'.cell? ⟨gb163, 0, none⟩ = some (.bool a0_0) ∧ w'.cell? ⟨gb163, 1, none⟩ = some (.string a0_1) ∧ w'.cell? ⟨gb163, 2, none⟩ = some (.string a0_2)) ∧ (w'.heap[gb163]? = some (.cells #[.bool a0_0, .string a0_1, .string a0_2] 27 (0, 0))) ∧ (w'.heap[gb165]? = some (.cells #[.bool x166000_2, .string x166001_2] 24 (0, 0))) ∧ (w'.heap[s_]? = some (.cells #[.bool false, .string (⟨#[]⟩ : ByteArray)] 24 (0, 0))) ∧ (w.heap.size ≤ s_) ∧ (w.heap.size ≤ s_) ∧ (gb163 ≠ s_) ∧ (s_ ≠ gb163) ∧ (gb165 ≠ s_) ∧ (s_ ≠ gb165) ∧ (Below w.heap.size w w')) ?_ ?_
                  rotate_left
                  · intro hCont
                    refine two_ (i := 2) (j := 4) (Ni := some 38) (Nj := some 8) #[true, true, true, false, false, false] #[true, true, false, false, true, false] rfl rfl rfl rfl (by kernel_rfl) (by decide) (by decide) (fun K hK => ?_) (fun K hK => ?_)
                    · skip
                      refine zX Tryz.func60 (by kernel_rfl) #[.agg #[.bool a0_0, .string a0_1, .string a0_2]] ?_
                      with_reducible refine (rat_den.calls a0_0 a0_1 a0_2 t170 t171 _ A23.out).mono ?_
                      rintro e w31 ⟨rfl, hb⟩; refine ⟨_, rfl, ?_⟩
                      obtain ⟨BK163, BK165⟩ := zB2 BK163 BK165 hb; replace HB := zS HB hb
                      (try clear hb)
                      refine hK.out _ _ ⟨(blk_cell BK165.out 0).trans rfl, (blk_cell BK165.out 1).trans rfl, (blk_cell BK163.out 0).trans rfl, (blk_cell BK163.out 1).trans rfl, (blk_cell BK163.out 2).trans rfl⟩ (fun hHeld => ?_)
                      clear hK K
                      refine zW (some 38) ?_
                      refine two_ (i := 3) (j := 4) (Ni := some 39) (Nj := some 8) #[true, true, true, true, false, false] #[true, true, true, false, true, false] rfl rfl rfl rfl (by kernel_rfl) (by decide) (by decide) (fun K hK => ?_) (fun K hK => ?_)
                      · skip
                        refine zX Tryz.func59 (by kernel_rfl) #[.agg #[.bool x166000_2, .string x166001_2], .agg #[.bool t170, .string t171]] ?_
                        with_reducible refine (rat_rounded.calls k2 x166000_2 x166001_2 t170 t171 t172 t173 _ A24.out).mono ?_
                        rintro e w32 ⟨rfl, hb⟩; refine ⟨_, rfl, ?_⟩
                        obtain ⟨BK163, BK165⟩ := zB2 BK163 BK165 hb; replace HB := zS HB hb
                        (try clear hb)
                        refine hK.out _ _ ⟨(blk_cell BK165.out 0).trans rfl, (blk_cell BK165.out 1).trans rfl, (blk_cell BK163.out 0).trans rfl, (blk_cell BK163.out 1).trans rfl, (blk_cell BK163.out 2).trans rfl⟩ (fun hHeld => ?_)
                        clear hK K
                        refine zW (some 39) ?_
                        refine one_ (i := 4) (N := some 8) #[true, true, true, true, true, false] rfl rfl (by kernel_rfl) (by decide) (fun K hK => ?_)
                        refine box_step ?hg (N := 8) ?hd (cs := #[.bool false, .string (⟨#[]⟩ : ByteArray)]) (t := 24) ?hr ?_; (case hd => rfl); (case hg => rfl); (case hr => first | (go_simp; done) | (go_simp; rfl))
                        intro gb174 hg w33 hbox hb
                        have BK174 := Aside0.mk (hbox); have GW174 := zG hg HB; have GE174 := zG hg HB; obtain ⟨NB163_174, NB174_163⟩ := zQ hg BK163; obtain ⟨NB165_174, NB174_165⟩ := zQ hg BK165; obtain ⟨BK163, BK165⟩ := zB2 BK163 BK165 hb; replace HB := zS HB hb; clear hb hbox hg
                        refine hK.out _ _ ⟨(blk_cell BK165.out 0).trans rfl, (blk_cell BK165.out 1).trans rfl, (blk_cell BK163.out 0).trans rfl, (blk_cell BK163.out 1).trans rfl, (blk_cell BK163.out 2).trans rfl⟩ (fun hHeld => ?_)
                        clear hK K
                        refine zW (some 8) ?_
                        exact norm_ (by simp only [putAll, Act.put, List.setIfInBounds_toArray, List.set_cons_zero, List.set_cons_succ]) (hCont (gb174) _ ⟨hHeld, (zK BK163).out, (zK BK165).out, (zK BK174).out, GW174.out, GE174.out, NB163_174.out, NB174_163.out, NB165_174.out, NB174_165.out, (zT HB)⟩)
                      · skip
                        refine box_step ?hg (N := 8) ?hd (cs := #[.bool false, .string (⟨#[]⟩ : ByteArray)]) (t := 24) ?hr ?_; (case hd => rfl); (case hg => rfl); (case hr => first | (go_simp; done) | (go_simp; rfl))
                        intro gb174 hg w32 hbox hb
                        have BK174 := Aside0.mk (hbox); have GW174 := zG hg HB; have GE174 := zG hg HB; obtain ⟨NB163_174, NB174_163⟩ := zQ hg BK163; obtain ⟨NB165_174, NB174_165⟩ := zQ hg BK165; obtain ⟨BK163, BK165⟩ := zB2 BK163 BK165 hb; replace HB := zS HB hb; clear hb hbox hg
                        refine hK.out _ _ ⟨(blk_cell BK165.out 0).trans rfl, (blk_cell BK165.out 1).trans rfl, (blk_cell BK163.out 0).trans rfl, (blk_cell BK163.out 1).trans rfl, (blk_cell BK163.out 2).trans rfl⟩ (fun hHeld => ?_)
                        clear hK K
                        refine zW (some 8) ?_
                        refine one_ (i := 3) (N := some 39) #[true, true, true, true, true, false] rfl rfl (by kernel_rfl) (by decide) (fun K hK => ?_)
                        refine zX Tryz.func59 (by kernel_rfl) #[.agg #[.bool x166000_2, .string x166001_2], .agg #[.bool t170, .string t171]] ?_
                        with_reducible refine (rat_rounded.calls k2 x166000_2 x166001_2 t170 t171 t172 t173 _ A24.out).mono ?_
                        rintro e w33 ⟨rfl, hb⟩; refine ⟨_, rfl, ?_⟩
                        obtain ⟨BK163, BK165, BK174⟩ := zB3 BK163 BK165 BK174 hb; replace HB := zS HB hb
                        (try clear hb)
                        refine hK.out _ _ ⟨(blk_cell BK165.out 0).trans rfl, (blk_cell BK165.out 1).trans rfl, (blk_cell BK163.out 0).trans rfl, (blk_cell BK163.out 1).trans rfl, (blk_cell BK163.out 2).trans rfl⟩ (fun hHeld => ?_)
                        clear hK K
                        refine zW (some 39) ?_
                        exact norm_ (by simp only [putAll, Act.put, List.setIfInBounds_toArray, List.set_cons_zero, List.set_cons_succ]) (hCont (gb174) _ ⟨hHeld, (zK BK163).out, (zK BK165).out, (zK BK174).out, GW174.out, GE174.out, NB163_174.out, NB174_163.out, NB165_174.out, NB174_165.out, (zT HB)⟩)
                    · skip
                      refine box_step ?hg (N := 8) ?hd (cs := #[.bool false, .string (⟨#[]⟩ : ByteArray)]) (t := 24) ?hr ?_; (case hd => rfl); (case hg => rfl); (case hr => first | (go_simp; done) | (go_simp; rfl))
                      intro gb174 hg w31 hbox hb
                      have BK174 := Aside0.mk (hbox); have GW174 := zG hg HB; have GE174 := zG hg HB; obtain ⟨NB163_174, NB174_163⟩ := zQ hg BK163; obtain ⟨NB165_174, NB174_165⟩ := zQ hg BK165; obtain ⟨BK163, BK165⟩ := zB2 BK163 BK165 hb; replace HB := zS HB hb; clear hb hbox hg
                      refine hK.out _ _ ⟨(blk_cell BK165.out 0).trans rfl, (blk_cell BK165.out 1).trans rfl, (blk_cell BK163.out 0).trans rfl, (blk_cell BK163.out 1).trans rfl, (blk_cell BK163.out 2).trans rfl⟩ (fun hHeld => ?_)
                      clear hK K
                      refine zW (some 8) ?_
                      refine one_ (i := 2) (N := some 38) #[true, true, true, false, true, false] rfl rfl (by kernel_rfl) (by decide) (fun K hK => ?_)
                      refine zX Tryz.func60 (by kernel_rfl) #[.agg #[.bool a0_0, .string a0_1, .string a0_2]] ?_
                      with_reducible refine (rat_den.calls a0_0 a0_1 a0_2 t170 t171 _ A23.out).mono ?_
                      rintro e w32 ⟨rfl, hb⟩; refine ⟨_, rfl, ?_⟩
                      obtain ⟨BK163, BK165, BK174⟩ := zB3 BK163 BK165 BK174 hb; replace HB := zS HB hb
                      (try clear hb)
                      refine hK.out _ _ ⟨(blk_cell BK165.out 0).trans rfl, (blk_cell BK165.out 1).trans rfl, (blk_cell BK163.out 0).trans rfl, (blk_cell BK163.out 1).trans rfl, (blk_cell BK163.out 2).trans rfl⟩ (fun hHeld => ?_)
                      clear hK K
                      refine zW (some 38) ?_
                      refine one_ (i := 3) (N := some 39) #[true, true, true, true, true, false] rfl rfl (by kernel_rfl) (by decide) (fun K hK => ?_)
                      refine zX Tryz.func59 (by kernel_rfl) #[.agg #[.bool x166000_2, .string x166001_2], .agg #[.bool t170, .string t171]] ?_
                      with_reducible refine (rat_rounded.calls k2 x166000_2 x166001_2 t170 t171 t172 t173 _ A24.out).mono ?_
                      rintro e w33 ⟨rfl, hb⟩; refine ⟨_, rfl, ?_⟩
                      obtain ⟨BK163, BK165, BK174⟩ := zB3 BK163 BK165 BK174 hb; replace HB := zS HB hb
                      (try clear hb)
                      refine hK.out _ _ ⟨(blk_cell BK165.out 0).trans rfl, (blk_cell BK165.out 1).trans rfl, (blk_cell BK163.out 0).trans rfl, (blk_cell BK163.out 1).trans rfl, (blk_cell BK163.out 2).trans rfl⟩ (fun hHeld => ?_)
                      clear hK K
                      refine zW (some 39) ?_
                      exact norm_ (by simp only [putAll, Act.put, List.setIfInBounds_toArray, List.set_cons_zero, List.set_cons_succ]) (hCont (gb174) _ ⟨hHeld, (zK BK163).out, (zK BK165).out, (zK BK174).out, GW174.out, GE174.out, NB163_174.out, NB174_163.out, NB165_174.out, NB174_165.out, (zT HB)⟩)
                  rintro gb174 w34 ⟨hS_, h0_, h1_, h2_, h3_, h4_, h5_, h6_, h7_, h8_, h9_⟩
                  have n0_ : Aside0 (w34.heap[gb163]? = some (.cells #[.bool a0_0, .string a0_1, .string a0_2] 27 (0, 0))) := ⟨h0_⟩; have n1_ : Aside0 (w34.heap[gb165]? = some (.cells #[.bool x166000_2, .string x166001_2] 24 (0, 0))) := ⟨h1_⟩; have n2_ : Aside0 (w34.heap[gb174]? = some (.cells #[.bool false, .string (⟨#[]⟩ : ByteArray)] 24 (0, 0))) := ⟨h2_⟩; have n3_ : Aside0 (w.heap.size ≤ gb174) := ⟨h3_⟩; have n4_ : Aside0 (w.heap.size ≤ gb174) := ⟨h4_⟩; have n5_ : Aside0 (gb163 ≠ gb174) := ⟨h5_⟩; have n6_ : Aside0 (gb174 ≠ gb163) := ⟨h6_⟩; have n7_ : Aside0 (gb165 ≠ gb174) := ⟨h7_⟩; have n8_ : Aside0 (gb174 ≠ gb165) := ⟨h8_⟩; have n9_ : Aside0 (Below w.heap.size w w34) := ⟨h9_⟩; clear BK163; clear BK165; clear HB; clear h0_ h1_ h2_ h3_ h4_ h5_ h6_ h7_ h8_ h9_; have BK163 := n0_; have BK165 := n1_; have BK174 := n2_; have GW174 := n3_; have GE174 := n4_; have NB163_174 := n5_; have NB174_163 := n6_; have NB165_174 := n7_; have NB174_165 := n8_; have HB := n9_; clear n0_ n1_ n2_ n3_ n4_ n5_ n6_ n7_ n8_ n9_
                  have hHeld : w34.cell? ⟨gb165, 0, none⟩ = some (.bool x166000_2) ∧ w34.cell? ⟨gb165, 1, none⟩ = some (.string x166001_2) ∧ w34.cell? ⟨gb163, 0, none⟩ = some (.bool a0_0) ∧ w34.cell? ⟨gb163, 1, none⟩ = some (.string a0_1) ∧ w34.cell? ⟨gb163, 2, none⟩ = some (.string a0_2) := hS_
                  refine norm_ (a' := ?_) ?_ ?_
                  rotate_left
                  · simp only [putAll, Act.put, List.setIfInBounds_toArray, List.set_cons_zero, List.set_cons_succ]
                    rfl
                  refine one_ (i := 5) (N := none) #[true, true, true, true, true, true] rfl rfl (by kernel_rfl) (by decide) (fun K hK => ?_)
                  have hs35 : w34.cell? ⟨gb174, 0, none⟩ = some (.bool false) := (blk_cell BK174.out 0).trans rfl
                  have hfs35 := blk_frozen BK174.out 0
                  have hns35_0 := NB163_174.out
                  have hns35_1 := NB165_174.out
                  have hms35_0 := NB174_163.out
                  have hms35_1 := NB174_165.out
                  have hs36 : w34.cell? ⟨gb174, 1, none⟩ = some (.string (⟨#[]⟩ : ByteArray)) := (blk_cell BK174.out 1).trans rfl
                  have hfs36 := blk_frozen BK174.out 1
                  have hns36_0 := NB163_174.out
                  have hns36_1 := NB165_174.out
                  have hms36_0 := NB174_163.out
                  have hms36_1 := NB174_165.out
                  refine skip_ (w1 := ?_) (by rfl) rfl ?_ ?_
                  rotate_left
                  · go_simp
                    rfl
                  refine hK.out _ _ ⟨((cell_far (p := ⟨gb174, _, none⟩) NB165_174.out _).trans (((cell_far (p := ⟨gb174, _, none⟩) NB165_174.out _).trans (hHeld.1)))), ((cell_far (p := ⟨gb174, _, none⟩) NB165_174.out _).trans (((cell_far (p := ⟨gb174, _, none⟩) NB165_174.out _).trans (hHeld.2.1)))), ((cell_far (p := ⟨gb174, _, none⟩) NB163_174.out _).trans (((cell_far (p := ⟨gb174, _, none⟩) NB163_174.out _).trans (hHeld.2.2.1)))), ((cell_far (p := ⟨gb174, _, none⟩) NB163_174.out _).trans (((cell_far (p := ⟨gb174, _, none⟩) NB163_174.out _).trans (hHeld.2.2.2.1)))), ((cell_far (p := ⟨gb174, _, none⟩) NB163_174.out _).trans (((cell_far (p := ⟨gb174, _, none⟩) NB163_174.out _).trans (hHeld.2.2.2.2))))⟩ (fun hHeld => ?_)
                  clear hK K
                  refine done_ (by kernel_rfl) ?_
                  have hnb37 := NB174_163.out; have hnc37 := NB163_174.out; have hnb38 := NB174_165.out; have hnc38 := NB165_174.out; obtain ⟨hcz39_0, hcz39_1, hfz39_0, hfz39_1⟩ := z2 BK174
                  go_upto_if 55 with (first | ((with_reducible refine gate_callee (f := 61) rfl ?_); refine zC Tryz.func61 (by kernel_rfl) #[.agg #[.bool t172, .string t173]] ?_; (with_reducible refine (whole_Print.calls t172 t173 t175 t176 _ A25.out).mono ?_); rintro e w40 ⟨rfl, hb⟩; refine ⟨_, rfl, ?_⟩; obtain ⟨BK163, BK165⟩ := zB2 BK163 BK165 hb; replace BK174 := Aside0.mk (blk_below (g := gb174) (o := .cells #[.bool t172, .string t173] 24 (0, 0)) (by (with_reducible repeat (first | refine blk_drewN ?_ _ | refine blk_drew ?_ | refine blk_alloc ?_ _)); refine zP (cs := #[.bool t172, .string (⟨#[]⟩ : ByteArray)]) ?_ 1 _; (with_reducible repeat (first | refine blk_drewN ?_ _ | refine blk_drew ?_ | refine blk_alloc ?_ _)); refine zP (cs := #[.bool false, .string (⟨#[]⟩ : ByteArray)]) ?_ 0 _; (with_reducible repeat (first | refine blk_drewN ?_ _ | refine blk_drew ?_ | refine blk_alloc ?_ _)); exact BK174.out) hb); replace HB := zS HB hb; (try clear hb)) | ((with_reducible refine gate_callee (f := 62) rfl ?_); refine goesL_ (some 51) rfl rfl Tryz.func62 (by kernel_rfl) rfl #[.string (⟨#[48]⟩ : ByteArray), .int .i64 ji26] rfl (by (try simp only [List.map_toArray, List.map_cons, List.map_nil]); first | done | (simp only [hji26]; rfl) | rfl | (simp only [List.length_drop, List.length_take]; rfl)) ?_; (with_reducible refine (strings_Repeat.calls (⟨#[48]⟩ : ByteArray) ji26 t177 _ A27.out).mono ?_); rintro e w41 ⟨rfl, hb⟩; refine ⟨_, rfl, ?_⟩; obtain ⟨BK163, BK165, BK174⟩ := zB3 BK163 BK165 BK174 hb; replace HB := zS HB hb; (try clear hb)))
                  (try simp only [Act.put, List.setIfInBounds_toArray, List.set_cons_zero, List.set_cons_succ])
                  go_cut [9] (fun v9 wc => ∃ (kq : Nat) (x9_28 : ByteArray), v9 = .string x9_28 ∧ Aside0 (rat_Decimal.j2 kq x9_28 a0_0 a0_1 a0_2 t172 t173 = some (r1, r2)) ∧ Aside0 (kq ≤ k2) ∧ Aside0 (wc.heap[gb163]? = some (.cells #[.bool a0_0, .string a0_1, .string a0_2] 27 (0, 0))) ∧ Aside0 (wc.heap[gb165]? = some (.cells #[.bool x166000_2, .string x166001_2] 24 (0, 0))) ∧ Aside0 (wc.heap[gb174]? = some (.cells #[.bool t172, .string t173] 24 (0, 0))) ∧ Aside0 (Below w.heap.size w wc))
                  case first =>
                    have H := HC29.out
                    clear HC29
                    by_cases c42 : a1 > 0
                    · rw [if_pos c42] at H
                      have c42b0 : decide (0 < a1) = true := decide_eq_true c42
                      clear c42
                      (first | rw [c42b0] | (simp only [i64_w, i32_w]; rw [c42b0]) | skip)
                      obtain ⟨ji43, hji43⟩ : ∃ j_ : Int, (wrap64 (((t177 ++ t175).size : Int) - a1)) = j_ := ⟨_, rfl⟩
                      replace H : (if 0 ≤ (ji43) then (if (ji43) ≤ ((t177 ++ t175).size : Int) then (if ((t177 ++ t175).extract 0 ((ji43) : Int).toNat).size + 1 ≤ 9223372036854775807 then (if (((t177 ++ t175).extract 0 ((ji43) : Int).toNat) ++ (⟨#[46]⟩ : ByteArray)).size + ((t177 ++ t175).extract ((ji43) : Int).toNat (t177 ++ t175).size).size ≤ 9223372036854775807 then (rat_Decimal.j2 k2 ((((t177 ++ t175).extract 0 ((ji43) : Int).toNat) ++ (⟨#[46]⟩ : ByteArray)) ++ ((t177 ++ t175).extract ((ji43) : Int).toNat (t177 ++ t175).size)) a0_0 a0_1 a0_2 t172 t173) else (none)) else (none)) else (none)) else (none)) = some (r1, r2) := by first | (rw [hji43] at H; exact H) | (simp only [hji43] at H ⊢; exact H)
                      have hji43w : (IntKind.i64.wrap (((t177 ++ t175).size : Int) - a1)) = ji43 := (i64_w _).trans hji43
                      have hji43y : (IntKind.i64.wrap ((t177.size : Int) + (t175.size : Int) - a1)) = ji43 := by have h_ := hji43w; rw [ByteArray.size_append, Int.natCast_add] at h_; exact h_
                      have hji43z : (wrap64 ((t177.size : Int) + (t175.size : Int) - a1)) = ji43 := by have h_ := hji43; rw [ByteArray.size_append, Int.natCast_add] at h_; exact h_
                      by_cases c44 : 0 ≤ (ji43)
                      · rw [if_pos c44] at H
                        have c44b0 := eq_true c44
                        have c44b1 : decide (0 ≤ (ji43)) = true := decide_eq_true c44
                        clear c44
                        by_cases c45 : (ji43) ≤ ((t177 ++ t175).size : Int)
                        · rw [if_pos c45] at H
                          have c45b0 := eq_true c45
                          have c45b1 : decide ((ji43) ≤ ((t177 ++ t175).size : Int)) = true := decide_eq_true c45
                          by_cases c46 : ((t177 ++ t175).extract 0 ((ji43) : Int).toNat).size + 1 ≤ 9223372036854775807
                          · rw [if_pos c46] at H
                            have c46b0 := eq_true c46
                            have c46b1 : decide (((t177 ++ t175).extract 0 ((ji43) : Int).toNat).size + 1 ≤ 9223372036854775807) = true := decide_eq_true c46
                            try have c46b2 : (9223372036854775807 < ((t177 ++ t175).extract 0 ((ji43) : Int).toNat).size + 1) = False := eq_false (Nat.not_lt.2 c46)
                            have c47b0 := eq_true (of_decide_eq_true (by first | (with_reducible assumption) | assumption) : 0 ≤ (ji43))
                            have c48b0 := eq_true (of_decide_eq_true (by first | (with_reducible assumption) | assumption) : (ji43) ≤ ((t177 ++ t175).size : Int))
                            have c46y : (9223372036854775807 < ji43.toNat + 1) = False := eq_false (by have h_ := of_eq_true c46b0; have g_ := of_eq_true c48b0; rw [ByteArray.size_extract] at h_; omega)
                            have c48b0y : ((ji43) ≤ (t177.size : Int) + (t175.size : Int)) = True := eq_true (by have h_ := of_eq_true c48b0; rw [ByteArray.size_append, Int.natCast_add] at h_; exact h_)
                            by_cases c49 : (((t177 ++ t175).extract 0 ((ji43) : Int).toNat) ++ (⟨#[46]⟩ : ByteArray)).size + ((t177 ++ t175).extract ((ji43) : Int).toNat (t177 ++ t175).size).size ≤ 9223372036854775807
                            · rw [if_pos c49] at H
                              have c49b0 := eq_true c49
                              have c49b1 : decide ((((t177 ++ t175).extract 0 ((ji43) : Int).toNat) ++ (⟨#[46]⟩ : ByteArray)).size + ((t177 ++ t175).extract ((ji43) : Int).toNat (t177 ++ t175).size).size ≤ 9223372036854775807) = true := decide_eq_true c49
                              try have c49b2 : (9223372036854775807 < (((t177 ++ t175).extract 0 ((ji43) : Int).toNat) ++ (⟨#[46]⟩ : ByteArray)).size + ((t177 ++ t175).extract ((ji43) : Int).toNat (t177 ++ t175).size).size) = False := eq_false (Nat.not_lt.2 c49)
                              have c49y : (9223372036854775807 < ji43.toNat + 1 + (t177.size + t175.size - ji43.toNat)) = False := eq_false (by have h_ := of_eq_true c49b0; have g_ := of_eq_true c48b0; have e_ : (⟨#[46]⟩ : ByteArray).size = 1 := rfl; simp only [ByteArray.size_append, ByteArray.size_extract, e_, Int.natCast_add] at h_ g_; omega)
                              have H' := Aside0.mk H
                              clear H
                              try go_wp2
                              replace BK163 := zD BK163; replace BK165 := zD BK165; replace BK174 := zD BK174; replace HB := zF HB
                              refine start_ (n := 9) (S := fun w' => True) (ds := []) #[false, false, false, false, false, false, false, false, false] (by kernel_rfl) rfl rfl trivial (fun hHeld => ?_); refine with_tabW rat_Decimal.tab16 rat_Decimal.bits16 (fun HT_ HW_ => ?_)
                              generalize w41.drew = w50 at BK163 BK165 BK174 HB hHeld ⊢
                              refine zU (i := 0) (N := some 60) #[true, false, false, false, false, false, false, false, false] (any_of HT_.out (by kernel_rfl)) ?_
                              refine zU (i := 1) (N := some 61) #[true, true, false, false, false, false, false, false, false] (any_of HT_.out (by kernel_rfl)) ?_
                              refine zU (i := 2) (N := some 62) #[true, true, true, false, false, false, false, false, false] (any_of HT_.out (by kernel_rfl)) ?_
                              refine zU (i := 3) (N := some 63) #[true, true, true, true, false, false, false, false, false] (any_of HT_.out (by kernel_rfl)) ?_
                              refine zU (i := 4) (N := some 64) #[true, true, true, true, true, false, false, false, false] (any_of HT_.out (by kernel_rfl)) ?_
                              refine zU (i := 5) (N := some 65) #[true, true, true, true, true, true, false, false, false] (any_of HT_.out (by kernel_rfl)) ?_
                              refine zU (i := 6) (N := some 66) #[true, true, true, true, true, true, true, false, false] (any_of HT_.out (by kernel_rfl)) ?_
                              refine zU (i := 7) (N := some 67) #[true, true, true, true, true, true, true, true, false] (any_of HT_.out (by kernel_rfl)) ?_
                              refine zU (i := 8) (N := some 9) #[true, true, true, true, true, true, true, true, true] (any_of HT_.out (by kernel_rfl)) ?_
                              refine done_ (done_of HT_.out (by kernel_rfl)) ?_
                              try go_wp2
                              go_meet
                              case rel => exact ⟨_, ((((t177 ++ t175).extract 0 ((ji43) : Int).toNat) ++ (⟨#[46]⟩ : ByteArray)) ++ ((t177 ++ t175).extract ((ji43) : Int).toNat (t177 ++ t175).size)), (by first | rfl | (simp; done) | (simp only [← hji43] <;> (first | rfl | simp)) | (simp [*]; done)), H', ⟨by have := HJ4.out; have := HK2.out; first | omega | exact Nat.le_refl _⟩, zK BK163, zK BK165, zK BK174, ⟨zT HB⟩⟩
                            · rw [if_neg c49] at H
                              exact absurd H (by simp)
                          · rw [if_neg c46] at H
                            exact absurd H (by simp)
                        · rw [if_neg c45] at H
                          exact absurd H (by simp)
                      · rw [if_neg c44] at H
                        exact absurd H (by simp)
                    · rw [if_neg c42] at H
                      have c42b0 : decide (0 < a1) = false := decide_eq_false c42
                      clear c42
                      (first | rw [c42b0] | (simp only [i64_w, i32_w]; rw [c42b0]) | skip)
                      have H' := Aside0.mk H
                      clear H
                      go_wp2
                      go_meet
                      case rel => exact ⟨_, (t177 ++ t175), zR, H', ⟨by have := HJ4.out; have := HK2.out; first | omega | exact Nat.le_refl _⟩, zK BK163, zK BK165, zK BK174, ⟨zT HB⟩⟩
                  case rest =>
                    clear HC29
                    try clear c1; try clear c2; try clear p2; try clear c3; try clear c4; try clear c5; try clear c6; try clear p6; try clear c9; try clear c15; try clear c15b0; try clear c28; try clear c28b0; try clear c28b1; try clear c28b2; try clear c37; try clear c38; try clear c42; try clear c42b0; try clear c44; try clear c44b0; try clear c44b1; try clear c45; try clear c45b0; try clear c45b1; try clear c46; try clear c46b0; try clear c46b1; try clear c46b2; try clear c47; try clear c47b0; try clear c48; try clear c48b0; try clear c49; try clear c49b0; try clear c49b1; try clear c49b2; try clear hcz39_0; try clear hcz39_1; try clear hfz39_0; try clear hfz39_1
                    obtain ⟨kq, x9_28, rfl, HA, HJ28, BK163, BK165, BK174, HB⟩ := hcut
                    cases kq with
                    | zero => exact absurd HA.out (by simp [rat_Decimal.j2])
                    | succ kj28 =>
                      have H := HA.out
                      clear HA
                      simp only [rat_Decimal.j2] at H
                      have HC51 := Aside0.mk H
                      clear H
                      go_upto_region 17 with (fail)
                      go_cut [75] (fun v75 wc => ∃ (kq : Nat) (x75_50 : Bool), v75 = .bool x75_50 ∧ Aside0 (rat_Decimal.j3 kq x9_28 x75_50 = some (r1, r2)) ∧ Aside0 (kq ≤ kj28) ∧ Aside0 (wc.heap[gb163]? = some (.cells #[.bool a0_0, .string a0_1, .string a0_2] 27 (0, 0))) ∧ Aside0 (wc.heap[gb165]? = some (.cells #[.bool x166000_2, .string x166001_2] 24 (0, 0))) ∧ Aside0 (wc.heap[gb174]? = some (.cells #[.bool t172, .string t173] 24 (0, 0))) ∧ Aside0 (Below w.heap.size w wc))
                      case first =>
                        have H := HC51.out
                        clear HC51
                        by_cases c52 : a0_0 = true
                        · subst c52
                          have H1 : (rat_Decimal.j3 kj28 x9_28 (t173.toList != ([] : List UInt8))) = some (r1, r2) := by rw [if_pos rfl] at H; exact H
                          clear H
                          have H := H1
                          clear H1
                          have H' := Aside0.mk H
                          clear H; have hnb53 := NB163_165.out; have hnc53 := NB165_163.out; have hnb54 := NB163_174.out; have hnc54 := NB174_163.out; obtain ⟨hcz55_0, hcz55_1, hcz55_2, hfz55_0, hfz55_1, hfz55_2⟩ := z3 BK163; have hnb56 := NB174_165.out; have hnc56 := NB165_174.out; obtain ⟨hcz57_0, hcz57_1, hfz57_0, hfz57_1⟩ := z2 BK174
                          go_wp2
                          go_meet
                          case rel => exact ⟨_, ((t173.toList != ([] : List UInt8))), zR, H', ⟨by have := HJ4.out; have := HK2.out; have := HJ28.out; first | omega | exact Nat.le_refl _⟩, zK BK163, zK BK165, zK BK174, ⟨zT HB⟩⟩
                        · replace c52 := Bool.eq_false_iff.mpr c52
                          subst c52
                          have H1 : (rat_Decimal.j3 kj28 x9_28 false) = some (r1, r2) := by rw [if_neg (show ¬ (false = true) by decide)] at H; exact H
                          clear H
                          have H := H1
                          clear H1
                          have H' := Aside0.mk H
                          clear H; have hnb58 := NB163_165.out; have hnc58 := NB165_163.out; have hnb59 := NB163_174.out; have hnc59 := NB174_163.out; obtain ⟨hcz60_0, hcz60_1, hcz60_2, hfz60_0, hfz60_1, hfz60_2⟩ := z3 BK163
                          go_wp2
                          go_meet
                          case rel => exact ⟨_, (false), zR, H', ⟨by have := HJ4.out; have := HK2.out; have := HJ28.out; first | omega | exact Nat.le_refl _⟩, zK BK163, zK BK165, zK BK174, ⟨zT HB⟩⟩
                      case rest =>
                        clear HC51
                        try clear c1; try clear c2; try clear p2; try clear c3; try clear c4; try clear c5; try clear c6; try clear p6; try clear c9; try clear c15; try clear c15b0; try clear c28; try clear c28b0; try clear c28b1; try clear c28b2; try clear c37; try clear c38; try clear c42; try clear c42b0; try clear c44; try clear c44b0; try clear c44b1; try clear c45; try clear c45b0; try clear c45b1; try clear c46; try clear c46b0; try clear c46b1; try clear c46b2; try clear c47; try clear c47b0; try clear c48; try clear c48b0; try clear c49; try clear c49b0; try clear c49b1; try clear c49b2; try clear c52; try clear c53; try clear c54; try clear c56; try clear c58; try clear c59; try clear c60; try clear hcz39_0; try clear hcz39_1; try clear hcz55_0; try clear hcz55_1; try clear hcz55_2; try clear hcz57_0; try clear hcz57_1; try clear hcz60_0; try clear hcz60_1; try clear hcz60_2; try clear hfz39_0; try clear hfz39_1; try clear hfz55_0; try clear hfz55_1; try clear hfz55_2; try clear hfz57_0; try clear hfz57_1; try clear hfz60_0; try clear hfz60_1; try clear hfz60_2; try clear p2; try clear p6
                        obtain ⟨kq, x75_50, rfl, HA, HJ50, BK163, BK165, BK174, HB⟩ := hcut
                        cases kq with
                        | zero => exact absurd HA.out (by simp [rat_Decimal.j3])
                        | succ kj50 =>
                          have H := HA.out
                          clear HA
                          simp only [rat_Decimal.j3] at H
                          by_cases c61 : x75_50 = true
                          · subst c61
                            have H1 : (if 1 + x9_28.size ≤ 9223372036854775807 then (some ((⟨#[45]⟩ : ByteArray) ++ x9_28, 0)) else (none)) = some (r1, r2) := by rw [if_pos rfl] at H; exact H
                            clear H
                            have H := H1
                            clear H1
                            by_cases c62 : 1 + x9_28.size ≤ 9223372036854775807
                            · rw [if_pos c62] at H
                              have c62b0 := eq_true c62
                              have c62b1 : decide (1 + x9_28.size ≤ 9223372036854775807) = true := decide_eq_true c62
                              try have c62b2 : (9223372036854775807 < 1 + x9_28.size) = False := eq_false (Nat.not_lt.2 c62)
                              simp only [Option.some.injEq, Prod.mk.injEq] at H
                              obtain ⟨rfl, rfl⟩ := H
                              go_wp2
                              go_ret2
                              exact ⟨by first | rfl | (simp [errW_none, errW_some] <;> rfl) | (simp only [← hji26]; first | rfl | (simp [errW_none, errW_some] <;> rfl)) | (simp [*, errW_none, errW_some] <;> rfl), zT HB⟩
                            · rw [if_neg c62] at H
                              exact absurd H (by simp)
                          · replace c61 := Bool.eq_false_iff.mpr c61
                            subst c61
                            have H1 : (some (x9_28, 0)) = some (r1, r2) := by rw [if_neg (show ¬ (false = true) by decide)] at H; exact H
                            clear H
                            have H := H1
                            clear H1
                            simp only [Option.some.injEq, Prod.mk.injEq] at H
                            obtain ⟨rfl, rfl⟩ := H
                            go_wp2
                            go_ret2
                            exact ⟨by first | rfl | (simp [errW_none, errW_some] <;> rfl) | (simp only [← hji26]; first | rfl | (simp [errW_none, errW_some] <;> rfl)) | (simp [*, errW_none, errW_some] <;> rfl), zT HB⟩
                · rw [if_neg c28] at H
                  exact absurd H (by simp)
  · rw [if_neg c4] at H
    have c4b0 : (t164 == 0) = false := beq_eq_false_iff_ne.mpr c4
    have c4b1 : (t164 != 0) = true := bne_iff_ne.mpr c4
    simp only [Option.some.injEq, Prod.mk.injEq] at H
    obtain ⟨rfl, rfl⟩ := H
    go_enter Tryz.func20, Tryz.ntmps20
    go_wp2_with (first | ((with_reducible refine gate_dst (N := 2) rfl ?_); refine zY 2 #[.bool a0_0, .string a0_1, .string a0_2] 27 ?_; intro gb163 hg w63 hbox hb; have BK163 := Aside0.mk (hbox); have GW163 := zG hg HB; have GE163 := zG hg HB; replace HB := zS HB hb; clear hb hbox hg; obtain ⟨hcz64_0, hcz64_1, hcz64_2, hfz64_0, hfz64_1, hfz64_2⟩ := z3 BK163) | ((with_reducible refine gate_callee (f := 41) rfl ?_); refine zC Tryz.func41 (by kernel_rfl) #[.agg #[.bool a0_0, .string a0_1, .string a0_2]] ?_; (with_reducible refine (rat_Check.calls k a0_0 a0_1 a0_2 t164 _ A3.out).mono ?_); rintro e w65 ⟨rfl, hb⟩; refine ⟨_, rfl, ?_⟩; replace BK163 := zB BK163 hb; replace HB := zS HB hb; (try clear hb)))
    go_ret2
    exact ⟨by first | rfl | (simp [errW_none, errW_some] <;> rfl) | (simp [*, errW_none, errW_some] <;> rfl), zT HB⟩

end Go.Proofs.YtoijlbcbbblbfaaGreatDoorH.R

-- printed by hp.py
namespace Go.Proofs.YtoijlbcbbblbfaaGreatDoorH.R
open Go.RowKit Go.Proofs.YtoijlbcbbblbfaaGreatDoorH.Z Go.Proofs.YtoijlbcbbblbfaaGreatDoorW.PrintWords Go.Proofs.YtoijlbcbbblbfaaGreatDoorW.PrintLast Go.Proofs.YtoijlbcbbblbfaaGreatDoorW.PrintMore
attribute [local go_sem] max2_int min2_int max_two min_two max_three min_three max_four min_four   -- for this text's walks alone
set_option linter.unusedVariables false
set_option linter.unusedSimpArgs false

/-! ### gussetref02_Of: function 23 -/
open Go.Proofs.YtoijlbcbbblbfaaGreatDoor Go.Proofs.YtoijlbcbbblbfaaGreatDoor.Num in
def gussetref02_Of.f (a0 : Int) : Option (Bool × ByteArray) := if -9223372036854775808 ≤ a0 ∧ a0 ≤ 9223372036854775807 then some ((pv a0).1, (pv a0).2) else none
open Go.Proofs.YtoijlbcbbblbfaaGreatDoor Go.Proofs.YtoijlbcbbblbfaaGreatDoor.Num in
theorem gussetref02_Of.calls (a0 : Int) (r1 : Bool) (r2 : ByteArray) (w : World) (h : gussetref02_Of.f a0 = some (r1, r2)) :
    Calls Tryz.prog 23 #[.int .i64 a0] w fun e w' => e = .returned (.agg #[.bool r1, .string r2]) ∧ Below w.heap.size w w' := by
  unfold gussetref02_Of.f at h
  split at h
  · rename_i hc
    simp only [Option.some.injEq, Prod.mk.injEq] at h
    obtain ⟨rfl, rfl⟩ := h
    exact of_r a0 hc.1 hc.2 w
  · exact absurd h (by simp)


end Go.Proofs.YtoijlbcbbblbfaaGreatDoorH.R

-- printed by hp.py
namespace Go.Proofs.YtoijlbcbbblbfaaGreatDoorH.R
open Go.RowKit Go.Proofs.YtoijlbcbbblbfaaGreatDoorH.Z Go.Proofs.YtoijlbcbbblbfaaGreatDoorW.PrintWords Go.Proofs.YtoijlbcbbblbfaaGreatDoorW.PrintLast Go.Proofs.YtoijlbcbbblbfaaGreatDoorW.PrintMore
attribute [local go_sem] max2_int min2_int max_two min_two max_three min_three max_four min_four   -- for this text's walks alone
set_option linter.unusedVariables false
set_option linter.unusedSimpArgs false

/-! ### gussetref03_Lowest: function 16 -/
open Go.Proofs.YtoijlbcbbblbfaaGreatDoor Go.Proofs.YtoijlbcbbblbfaaGreatDoor.Num in
def gussetref03_Lowest.f (a0_0 : Bool) (a0_1 : ByteArray) (a1_0 : Bool) (a1_1 : ByteArray) : Option (Bool × ByteArray × ByteArray) := if a0_1.size ≤ 1000 ∧ a1_1.size ≤ 1000 ∧ chk a0_0 a0_1 = 0 ∧ chk a1_0 a1_1 = 0 ∧ ival a1_0 a1_1 ≠ 0 then some ((pq (Rat.divInt (ival a0_0 a0_1) (ival a1_0 a1_1))).1, (pq (Rat.divInt (ival a0_0 a0_1) (ival a1_0 a1_1))).2.1, (pq (Rat.divInt (ival a0_0 a0_1) (ival a1_0 a1_1))).2.2) else none
open Go.Proofs.YtoijlbcbbblbfaaGreatDoor Go.Proofs.YtoijlbcbbblbfaaGreatDoor.Num in
theorem gussetref03_Lowest.calls (a0_0 : Bool) (a0_1 : ByteArray) (a1_0 : Bool) (a1_1 : ByteArray) (r1 : Bool) (r2 : ByteArray) (r3 : ByteArray) (w : World) (h : gussetref03_Lowest.f a0_0 a0_1 a1_0 a1_1 = some (r1, r2, r3)) :
    Calls Tryz.prog 16 #[.agg #[.bool a0_0, .string a0_1], .agg #[.bool a1_0, .string a1_1]] w fun e w' => e = .returned (.agg #[.bool r1, .string r2, .string r3]) ∧ Below w.heap.size w w' := by
  unfold gussetref03_Lowest.f at h
  split at h
  · rename_i hc
    simp only [Option.some.injEq, Prod.mk.injEq] at h
    obtain ⟨rfl, rfl, rfl⟩ := h
    exact lowest_r _ _ _ _ hc.1 hc.2.1 (chk_ok.1 hc.2.2.1) (chk_ok.1 hc.2.2.2.1) hc.2.2.2.2 w
  · exact absurd h (by simp)


end Go.Proofs.YtoijlbcbbblbfaaGreatDoorH.R

-- printed by hp.py
namespace Go.Proofs.YtoijlbcbbblbfaaGreatDoorH.R
open Go.RowKit Go.Proofs.YtoijlbcbbblbfaaGreatDoorH.Z Go.Proofs.YtoijlbcbbblbfaaGreatDoorW.PrintWords Go.Proofs.YtoijlbcbbblbfaaGreatDoorW.PrintLast Go.Proofs.YtoijlbcbbblbfaaGreatDoorW.PrintMore
attribute [local go_sem] max2_int min2_int max_two min_two max_three min_three max_four min_four   -- for this text's walks alone
set_option linter.unusedVariables false
set_option linter.unusedSimpArgs false

/-! ### gussetref03_Frac: function 45 -/
def gussetref03_Frac.f (a0 : Int) (a1 : Int) : Option (Bool × ByteArray × ByteArray) := (gussetref02_Of.f a0).bind fun bt206 => ((gussetref02_Of.f a1).bind fun bt208 => ((gussetref03_Lowest.f bt206.1 bt206.2 bt208.1 bt208.2).bind fun bt210 => (some (bt210.1, bt210.2.1, bt210.2.2))))
set_option maxHeartbeats 8000000 in
set_option maxRecDepth 100000 in
theorem gussetref03_Frac.calls (a0 : Int) (a1 : Int) (r1 : Bool) (r2 : ByteArray) (r3 : ByteArray) (w : World) (h : gussetref03_Frac.f a0 a1 = some (r1, r2, r3)) :
    Calls Tryz.prog 45 #[.int .i64 a0, .int .i64 a1] w fun e w' => e = .returned (.agg #[.bool r1, .string r2, .string r3]) ∧ Below w.heap.size w w' := by
  have hu27 := Tryz.underlying27
  have HB := Aside0.mk (Below.refl w.heap.size w)
  have H : ((gussetref02_Of.f a0).bind fun bt206 => ((gussetref02_Of.f a1).bind fun bt208 => ((gussetref03_Lowest.f bt206.1 bt206.2 bt208.1 bt208.2).bind fun bt210 => (some (bt210.1, bt210.2.1, bt210.2.2))))) = some (r1, r2, r3) := h
  clear h
  replace H := Option.bind_eq_some_iff.mp H
  obtain ⟨⟨t206, t207⟩, A30, H⟩ := H
  replace H : ((gussetref02_Of.f a1).bind fun bt208 => ((gussetref03_Lowest.f t206 t207 bt208.1 bt208.2).bind fun bt210 => (some (bt210.1, bt210.2.1, bt210.2.2)))) = some (r1, r2, r3) := H
  have A3 := Aside0.mk A30
  clear A30
  replace H := Option.bind_eq_some_iff.mp H
  obtain ⟨⟨t208, t209⟩, A40, H⟩ := H
  replace H : ((gussetref03_Lowest.f t206 t207 t208 t209).bind fun bt210 => (some (bt210.1, bt210.2.1, bt210.2.2))) = some (r1, r2, r3) := H
  have A4 := Aside0.mk A40
  clear A40
  replace H := Option.bind_eq_some_iff.mp H
  obtain ⟨⟨t210, t211, t212⟩, A50, H⟩ := H
  replace H : (some (t210, t211, t212)) = some (r1, r2, r3) := H
  have A5 := Aside0.mk A50
  clear A50
  simp only [Option.some.injEq, Prod.mk.injEq] at H
  obtain ⟨rfl, rfl, rfl⟩ := H
  go_enter Tryz.func45, Tryz.ntmps45
  go_wp2_with (first | ((with_reducible refine gate_dst (N := 4) rfl ?_); refine zY 4 #[.bool false, .string (⟨#[]⟩ : ByteArray), .string (⟨#[]⟩ : ByteArray)] 27 ?_; intro gb205 hg w6 hbox hb; have BK205 := Aside0.mk (hbox); have GW205 := zG hg HB; have GE205 := zG hg HB; replace HB := zS HB hb; clear hb hbox hg) | ((with_reducible refine gate_callee (f := 23) rfl ?_); refine zC Tryz.func23 (by kernel_rfl) #[.int .i64 a0] ?_; (with_reducible refine (gussetref02_Of.calls a0 t206 t207 _ A3.out).mono ?_); rintro e w7 ⟨rfl, hb⟩; refine ⟨_, rfl, ?_⟩; replace BK205 := zB BK205 hb; replace HB := zS HB hb; (try clear hb)) | ((with_reducible refine gate_callee (f := 23) rfl ?_); refine zC Tryz.func23 (by kernel_rfl) #[.int .i64 a1] ?_; (with_reducible refine (gussetref02_Of.calls a1 t208 t209 _ A4.out).mono ?_); rintro e w8 ⟨rfl, hb⟩; refine ⟨_, rfl, ?_⟩; replace BK205 := zB BK205 hb; replace HB := zS HB hb; (try clear hb)) | ((with_reducible refine gate_callee (f := 16) rfl ?_); refine zC Tryz.func16 (by kernel_rfl) #[.agg #[.bool t206, .string t207], .agg #[.bool t208, .string t209]] ?_; (with_reducible refine (gussetref03_Lowest.calls t206 t207 t208 t209 t210 t211 t212 _ A5.out).mono ?_); rintro e w9 ⟨rfl, hb⟩; refine ⟨_, rfl, ?_⟩; replace BK205 := zB BK205 hb; replace HB := zS HB hb; (try clear hb); obtain ⟨hcz10_0, hcz10_1, hcz10_2, hfz10_0, hfz10_1, hfz10_2⟩ := z3 BK205))
  refine bodyPost_ret (results_cell_row rfl _ _ gb205 27 #[.bool t210, .string t211, .string t212] (0, 0) _ rfl (by (with_reducible repeat (first | refine blk_drewN ?_ _ | refine blk_drew ?_ | refine blk_alloc ?_ _)); refine zP (cs := #[.bool t210, .string t211, .string (⟨#[]⟩ : ByteArray)]) ?_ 2 _; (with_reducible repeat (first | refine blk_drewN ?_ _ | refine blk_drew ?_ | refine blk_alloc ?_ _)); refine zP (cs := #[.bool t210, .string (⟨#[]⟩ : ByteArray), .string (⟨#[]⟩ : ByteArray)]) ?_ 1 _; (with_reducible repeat (first | refine blk_drewN ?_ _ | refine blk_drew ?_ | refine blk_alloc ?_ _)); refine zP (cs := #[.bool false, .string (⟨#[]⟩ : ByteArray), .string (⟨#[]⟩ : ByteArray)]) ?_ 0 _; (with_reducible repeat (first | refine blk_drewN ?_ _ | refine blk_drew ?_ | refine blk_alloc ?_ _)); exact BK205.out) Tryz.underlying27 rfl (by kernel_rfl)) rfl ?_
  exact ⟨by first | rfl | (simp [errW_none, errW_some] <;> rfl) | (simp [*, errW_none, errW_some] <;> rfl), zT HB⟩

end Go.Proofs.YtoijlbcbbblbfaaGreatDoorH.R

-- printed by hp.py
namespace Go.Proofs.YtoijlbcbbblbfaaGreatDoorH.R
open Go.RowKit Go.Proofs.YtoijlbcbbblbfaaGreatDoorH.Z Go.Proofs.YtoijlbcbbblbfaaGreatDoorW.PrintWords Go.Proofs.YtoijlbcbbblbfaaGreatDoorW.PrintLast Go.Proofs.YtoijlbcbbblbfaaGreatDoorW.PrintMore
attribute [local go_sem] max2_int min2_int max_two min_two max_three min_three max_four min_four   -- for this text's walks alone
set_option linter.unusedVariables false
set_option linter.unusedSimpArgs false

attribute [local go_sem high] eqA27
/-! ### gussetlaw03_live: function 13 -/
def gussetlaw03_live.f (k : Nat)  : Option (Bool) := (gussetref02_Of.f 6).bind fun bt213 => ((gussetref02_Of.f (-4)).bind fun bt215 => ((rat_Make.f k bt213.1 bt213.2 bt215.1 bt215.2).bind fun bt217 => ((rat_Decimal.f k bt217.1 bt217.2.1 bt217.2.2.1 0).bind fun bt222 => ((rat_Print.f k bt217.1 bt217.2.1 bt217.2.2.1).bind fun bt224 => ((rat_Of.f 0).bind fun bt226 => ((rat_Div.f k bt217.1 bt217.2.1 bt217.2.2.1 bt226.1 bt226.2.1 bt226.2.2).bind fun bt229 => ((gussetref03_Frac.f (-3) 2).bind fun bt234 => (if ((bt217.1 == bt234.1 && (bt217.2.1.toList == bt234.2.1.toList)) && (bt217.2.2.1.toList == bt234.2.2.toList)) = true then (if bt217.2.2.2 = 0 then (if bt222.1.toList = ([45, 50] : List UInt8) then (if bt222.2 = 0 then (if bt224.1.toList = ([45, 51, 47, 50] : List UInt8) then (if bt224.2 = 0 then (some (bt229.2.2.2 == 3)) else (none)) else (none)) else (none)) else (none)) else (none)) else (none)))))))))
def gussetlaw03_live.T4 : Bool × List (List Nat × List Nat) := (true, [([], []), ([], []), ([0, 1, 1], [0, 1]), ([2], [2]), ([3], [3]), ([3], [3]), ([], []), ([6, 4, 2, 0, 1, 2, 3, 4, 6], [4, 6]), ([5, 7, 0, 1, 2, 3, 4, 5, 6, 7], [5])])
def gussetlaw03_live.B4 : List Nat := [0, 0, 3, 7, 15, 15, 0, 95, 255]
theorem gussetlaw03_live.tab4 : rtab .any (opsOf Tryz.f13 4) = gussetlaw03_live.T4 := by kernel_rfl
theorem gussetlaw03_live.bits4 : waitsOk gussetlaw03_live.T4.2 gussetlaw03_live.B4 = true := by kernel_rfl
def gussetlaw03_live.T5 : Bool × List (List Nat × List Nat) := (true, [([], []), ([], []), ([0, 1], [0, 1]), ([2, 1], [2]), ([3], [3]), ([4, 3], [3, 4]), ([3, 5], [3, 5]), ([6, 3], [6]), ([7], [7]), ([8, 7], [7, 8]), ([7, 9], [7, 9]), ([10, 7], [10]), ([11], [11]), ([12, 11], [11, 12]), ([11, 13], [11, 13]), ([14, 11], [14]), ([15], [15]), ([16, 15], [15, 16]), ([15, 17], [15, 17]), ([18, 15], [18]), ([19], [19]), ([20, 19], [19, 20]), ([19, 21], [19, 21]), ([22, 19], [22]), ([23], [23]), ([24, 23], [23, 24]), ([23, 25], [23, 25]), ([26, 23, 0, 1, 2, 3, 4, 5, 6, 7, 8, 9, 10, 11, 12, 13, 14, 15, 16, 17, 18, 19, 20, 21, 22, 23, 24, 25, 26], [26])])
def gussetlaw03_live.B5 : List Nat := [0, 0, 3, 7, 15, 31, 63, 127, 255, 511, 1023, 2047, 4095, 8191, 16383, 32767, 65535, 131071, 262143, 524287, 1048575, 2097151, 4194303, 8388607, 16777215, 33554431, 67108863, 134217727]
theorem gussetlaw03_live.tab5 : rtab .any (opsOf Tryz.f13 5) = gussetlaw03_live.T5 := by kernel_rfl
theorem gussetlaw03_live.bits5 : waitsOk gussetlaw03_live.T5.2 gussetlaw03_live.B5 = true := by kernel_rfl
set_option maxHeartbeats 8000000 in
set_option maxRecDepth 100000 in
theorem gussetlaw03_live.calls (k : Nat)  (r : Bool) (w : World) (h : gussetlaw03_live.f k  = some r) :
    Calls Tryz.prog 13 #[] w fun e w' => e = .returned (.bool r) ∧ Below w.heap.size w w' := by
  have hu27 := Tryz.underlying27
  have HB := Aside0.mk (Below.refl w.heap.size w)
  have H : ((gussetref02_Of.f 6).bind fun bt213 => ((gussetref02_Of.f (-4)).bind fun bt215 => ((rat_Make.f k bt213.1 bt213.2 bt215.1 bt215.2).bind fun bt217 => ((rat_Decimal.f k bt217.1 bt217.2.1 bt217.2.2.1 0).bind fun bt222 => ((rat_Print.f k bt217.1 bt217.2.1 bt217.2.2.1).bind fun bt224 => ((rat_Of.f 0).bind fun bt226 => ((rat_Div.f k bt217.1 bt217.2.1 bt217.2.2.1 bt226.1 bt226.2.1 bt226.2.2).bind fun bt229 => ((gussetref03_Frac.f (-3) 2).bind fun bt234 => (if ((bt217.1 == bt234.1 && (bt217.2.1.toList == bt234.2.1.toList)) && (bt217.2.2.1.toList == bt234.2.2.toList)) = true then (if bt217.2.2.2 = 0 then (if bt222.1.toList = ([45, 50] : List UInt8) then (if bt222.2 = 0 then (if bt224.1.toList = ([45, 51, 47, 50] : List UInt8) then (if bt224.2 = 0 then (some (bt229.2.2.2 == 3)) else (none)) else (none)) else (none)) else (none)) else (none)) else (none)))))))))) = some r := h
  clear h
  replace H := Option.bind_eq_some_iff.mp H
  obtain ⟨⟨t213, t214⟩, A10, H⟩ := H
  replace H : ((gussetref02_Of.f (-4)).bind fun bt215 => ((rat_Make.f k t213 t214 bt215.1 bt215.2).bind fun bt217 => ((rat_Decimal.f k bt217.1 bt217.2.1 bt217.2.2.1 0).bind fun bt222 => ((rat_Print.f k bt217.1 bt217.2.1 bt217.2.2.1).bind fun bt224 => ((rat_Of.f 0).bind fun bt226 => ((rat_Div.f k bt217.1 bt217.2.1 bt217.2.2.1 bt226.1 bt226.2.1 bt226.2.2).bind fun bt229 => ((gussetref03_Frac.f (-3) 2).bind fun bt234 => (if ((bt217.1 == bt234.1 && (bt217.2.1.toList == bt234.2.1.toList)) && (bt217.2.2.1.toList == bt234.2.2.toList)) = true then (if bt217.2.2.2 = 0 then (if bt222.1.toList = ([45, 50] : List UInt8) then (if bt222.2 = 0 then (if bt224.1.toList = ([45, 51, 47, 50] : List UInt8) then (if bt224.2 = 0 then (some (bt229.2.2.2 == 3)) else (none)) else (none)) else (none)) else (none)) else (none)) else (none))))))))) = some r := H
  have A1 := Aside0.mk A10
  clear A10
  replace H := Option.bind_eq_some_iff.mp H
  obtain ⟨⟨t215, t216⟩, A20, H⟩ := H
  replace H : ((rat_Make.f k t213 t214 t215 t216).bind fun bt217 => ((rat_Decimal.f k bt217.1 bt217.2.1 bt217.2.2.1 0).bind fun bt222 => ((rat_Print.f k bt217.1 bt217.2.1 bt217.2.2.1).bind fun bt224 => ((rat_Of.f 0).bind fun bt226 => ((rat_Div.f k bt217.1 bt217.2.1 bt217.2.2.1 bt226.1 bt226.2.1 bt226.2.2).bind fun bt229 => ((gussetref03_Frac.f (-3) 2).bind fun bt234 => (if ((bt217.1 == bt234.1 && (bt217.2.1.toList == bt234.2.1.toList)) && (bt217.2.2.1.toList == bt234.2.2.toList)) = true then (if bt217.2.2.2 = 0 then (if bt222.1.toList = ([45, 50] : List UInt8) then (if bt222.2 = 0 then (if bt224.1.toList = ([45, 51, 47, 50] : List UInt8) then (if bt224.2 = 0 then (some (bt229.2.2.2 == 3)) else (none)) else (none)) else (none)) else (none)) else (none)) else (none)))))))) = some r := H
  have A2 := Aside0.mk A20
  clear A20
  replace H := Option.bind_eq_some_iff.mp H
  obtain ⟨⟨t217, t218, t219, t220⟩, A30, H⟩ := H
  replace H : ((rat_Decimal.f k t217 t218 t219 0).bind fun bt222 => ((rat_Print.f k t217 t218 t219).bind fun bt224 => ((rat_Of.f 0).bind fun bt226 => ((rat_Div.f k t217 t218 t219 bt226.1 bt226.2.1 bt226.2.2).bind fun bt229 => ((gussetref03_Frac.f (-3) 2).bind fun bt234 => (if ((t217 == bt234.1 && (t218.toList == bt234.2.1.toList)) && (t219.toList == bt234.2.2.toList)) = true then (if t220 = 0 then (if bt222.1.toList = ([45, 50] : List UInt8) then (if bt222.2 = 0 then (if bt224.1.toList = ([45, 51, 47, 50] : List UInt8) then (if bt224.2 = 0 then (some (bt229.2.2.2 == 3)) else (none)) else (none)) else (none)) else (none)) else (none)) else (none))))))) = some r := H
  have A3 := Aside0.mk A30
  clear A30
  replace H := Option.bind_eq_some_iff.mp H
  obtain ⟨⟨t222, t223⟩, A40, H⟩ := H
  replace H : ((rat_Print.f k t217 t218 t219).bind fun bt224 => ((rat_Of.f 0).bind fun bt226 => ((rat_Div.f k t217 t218 t219 bt226.1 bt226.2.1 bt226.2.2).bind fun bt229 => ((gussetref03_Frac.f (-3) 2).bind fun bt234 => (if ((t217 == bt234.1 && (t218.toList == bt234.2.1.toList)) && (t219.toList == bt234.2.2.toList)) = true then (if t220 = 0 then (if t222.toList = ([45, 50] : List UInt8) then (if t223 = 0 then (if bt224.1.toList = ([45, 51, 47, 50] : List UInt8) then (if bt224.2 = 0 then (some (bt229.2.2.2 == 3)) else (none)) else (none)) else (none)) else (none)) else (none)) else (none)))))) = some r := H
  have A4 := Aside0.mk A40
  clear A40
  replace H := Option.bind_eq_some_iff.mp H
  obtain ⟨⟨t224, t225⟩, A50, H⟩ := H
  replace H : ((rat_Of.f 0).bind fun bt226 => ((rat_Div.f k t217 t218 t219 bt226.1 bt226.2.1 bt226.2.2).bind fun bt229 => ((gussetref03_Frac.f (-3) 2).bind fun bt234 => (if ((t217 == bt234.1 && (t218.toList == bt234.2.1.toList)) && (t219.toList == bt234.2.2.toList)) = true then (if t220 = 0 then (if t222.toList = ([45, 50] : List UInt8) then (if t223 = 0 then (if t224.toList = ([45, 51, 47, 50] : List UInt8) then (if t225 = 0 then (some (bt229.2.2.2 == 3)) else (none)) else (none)) else (none)) else (none)) else (none)) else (none))))) = some r := H
  have A5 := Aside0.mk A50
  clear A50
  replace H := Option.bind_eq_some_iff.mp H
  obtain ⟨⟨t226, t227, t228⟩, A60, H⟩ := H
  replace H : ((rat_Div.f k t217 t218 t219 t226 t227 t228).bind fun bt229 => ((gussetref03_Frac.f (-3) 2).bind fun bt234 => (if ((t217 == bt234.1 && (t218.toList == bt234.2.1.toList)) && (t219.toList == bt234.2.2.toList)) = true then (if t220 = 0 then (if t222.toList = ([45, 50] : List UInt8) then (if t223 = 0 then (if t224.toList = ([45, 51, 47, 50] : List UInt8) then (if t225 = 0 then (some (bt229.2.2.2 == 3)) else (none)) else (none)) else (none)) else (none)) else (none)) else (none)))) = some r := H
  have A6 := Aside0.mk A60
  clear A60
  replace H := Option.bind_eq_some_iff.mp H
  obtain ⟨⟨t229, t230, t231, t232⟩, A70, H⟩ := H
  replace H : ((gussetref03_Frac.f (-3) 2).bind fun bt234 => (if ((t217 == bt234.1 && (t218.toList == bt234.2.1.toList)) && (t219.toList == bt234.2.2.toList)) = true then (if t220 = 0 then (if t222.toList = ([45, 50] : List UInt8) then (if t223 = 0 then (if t224.toList = ([45, 51, 47, 50] : List UInt8) then (if t225 = 0 then (some (t232 == 3)) else (none)) else (none)) else (none)) else (none)) else (none)) else (none))) = some r := H
  have A7 := Aside0.mk A70
  clear A70
  replace H := Option.bind_eq_some_iff.mp H
  obtain ⟨⟨t234, t235, t236⟩, A80, H⟩ := H
  replace H : (if ((t217 == t234 && (t218.toList == t235.toList)) && (t219.toList == t236.toList)) = true then (if t220 = 0 then (if t222.toList = ([45, 50] : List UInt8) then (if t223 = 0 then (if t224.toList = ([45, 51, 47, 50] : List UInt8) then (if t225 = 0 then (some (t232 == 3)) else (none)) else (none)) else (none)) else (none)) else (none)) else (none)) = some r := H
  have A8 := Aside0.mk A80
  clear A80
  by_cases c9 : ((t217 == t234 && (t218.toList == t235.toList)) && (t219.toList == t236.toList)) = true
  · rw [if_pos c9] at H
    have c9b0 : ((t217 == t234 && (t218.toList == t235.toList)) && (t219.toList == t236.toList)) = true := c9
    clear c9
    by_cases c10 : t220 = 0
    · rw [if_pos c10] at H
      have c10b0 : (t220 == 0) = true := beq_iff_eq.mpr c10
      have c10b1 : (t220 != 0) = false := bne_eq_false_iff_eq.mpr c10
      clear c10
      by_cases c11 : t222.toList = ([45, 50] : List UInt8)
      · rw [if_pos c11] at H
        have c11b0 : (t222.toList == ([45, 50] : List UInt8)) = true := beq_iff_eq.mpr c11
        have c11b1 : (t222.toList != ([45, 50] : List UInt8)) = false := bne_eq_false_iff_eq.mpr c11
        clear c11
        by_cases c12 : t223 = 0
        · rw [if_pos c12] at H
          have c12b0 : (t223 == 0) = true := beq_iff_eq.mpr c12
          have c12b1 : (t223 != 0) = false := bne_eq_false_iff_eq.mpr c12
          clear c12
          by_cases c13 : t224.toList = ([45, 51, 47, 50] : List UInt8)
          · rw [if_pos c13] at H
            have c13b0 : (t224.toList == ([45, 51, 47, 50] : List UInt8)) = true := beq_iff_eq.mpr c13
            have c13b1 : (t224.toList != ([45, 51, 47, 50] : List UInt8)) = false := bne_eq_false_iff_eq.mpr c13
            clear c13
            by_cases c14 : t225 = 0
            · rw [if_pos c14] at H
              have c14b0 : (t225 == 0) = true := beq_iff_eq.mpr c14
              have c14b1 : (t225 != 0) = false := bne_eq_false_iff_eq.mpr c14
              clear c14
              obtain rfl := Option.some.inj H
              go_enter Tryz.func13, Tryz.ntmps13
              try go_wp2_with (first | ((with_reducible refine gate_callee (f := 23) rfl ?_); refine zC Tryz.func23 (by kernel_rfl) #[.int .i64 6] ?_; (with_reducible refine (gussetref02_Of.calls 6 t213 t214 _ A1.out).mono ?_); rintro e w15 ⟨rfl, hb⟩; refine ⟨_, rfl, ?_⟩; replace HB := zS HB hb; (try clear hb)) | ((with_reducible refine gate_callee (f := 23) rfl ?_); refine zC Tryz.func23 (by kernel_rfl) #[.int .i64 (-4)] ?_; (with_reducible refine (gussetref02_Of.calls (-4) t215 t216 _ A2.out).mono ?_); rintro e w16 ⟨rfl, hb⟩; refine ⟨_, rfl, ?_⟩; replace HB := zS HB hb; (try clear hb)) | ((with_reducible refine gate_callee (f := 14) rfl ?_); refine zC Tryz.func14 (by kernel_rfl) #[.agg #[.bool t213, .string t214], .agg #[.bool t215, .string t216]] ?_; (with_reducible refine (rat_Make.calls k t213 t214 t215 t216 t217 t218 t219 t220 _ A3.out).mono ?_); rintro e w17 ⟨rfl, hb⟩; refine ⟨_, rfl, ?_⟩; replace HB := zS HB hb; (try clear hb)) | ((with_reducible refine gate_dst (N := 1) rfl ?_); refine zY 1 #[.bool false, .string (⟨#[]⟩ : ByteArray), .string (⟨#[]⟩ : ByteArray)] 27 ?_; intro gb221 hg w18 hbox hb; have BK221 := Aside0.mk (hbox); have GW221 := zG hg HB; have GE221 := zG hg HB; replace HB := zS HB hb; clear hb hbox hg; obtain ⟨hcz19_0, hcz19_1, hcz19_2, hfz19_0, hfz19_1, hfz19_2⟩ := z3 BK221) | ((with_reducible refine gate_callee (f := 20) rfl ?_); refine zC Tryz.func20 (by kernel_rfl) #[.agg #[.bool t217, .string t218, .string t219], .int .i64 0] ?_; (with_reducible refine (rat_Decimal.calls k t217 t218 t219 0 t222 t223 _ A4.out).mono ?_); rintro e w20 ⟨rfl, hb⟩; refine ⟨_, rfl, ?_⟩; replace BK221 := Aside0.mk (blk_below (g := gb221) (o := .cells #[.bool t217, .string t218, .string t219] 27 (0, 0)) (by (with_reducible repeat (first | refine blk_drewN ?_ _ | refine blk_drew ?_ | refine blk_alloc ?_ _)); refine zP (cs := #[.bool t217, .string t218, .string (⟨#[]⟩ : ByteArray)]) ?_ 2 _; (with_reducible repeat (first | refine blk_drewN ?_ _ | refine blk_drew ?_ | refine blk_alloc ?_ _)); refine zP (cs := #[.bool t217, .string (⟨#[]⟩ : ByteArray), .string (⟨#[]⟩ : ByteArray)]) ?_ 1 _; (with_reducible repeat (first | refine blk_drewN ?_ _ | refine blk_drew ?_ | refine blk_alloc ?_ _)); refine zP (cs := #[.bool false, .string (⟨#[]⟩ : ByteArray), .string (⟨#[]⟩ : ByteArray)]) ?_ 0 _; (with_reducible repeat (first | refine blk_drewN ?_ _ | refine blk_drew ?_ | refine blk_alloc ?_ _)); exact BK221.out) hb); replace HB := zS HB hb; (try clear hb); obtain ⟨hcz21_0, hcz21_1, hcz21_2, hfz21_0, hfz21_1, hfz21_2⟩ := z3 BK221) | ((with_reducible refine gate_callee (f := 40) rfl ?_); refine zC Tryz.func40 (by kernel_rfl) #[.agg #[.bool t217, .string t218, .string t219]] ?_; (with_reducible refine (rat_Print.calls k t217 t218 t219 t224 t225 _ A5.out).mono ?_); rintro e w22 ⟨rfl, hb⟩; refine ⟨_, rfl, ?_⟩; replace BK221 := zB BK221 hb; replace HB := zS HB hb; (try clear hb)))
              replace BK221 := zD BK221; replace HB := zF HB
              refine start_ (n := 9) (S := fun w' => w'.cell? ⟨gb221, 0, none⟩ = some (.bool t217) ∧ w'.cell? ⟨gb221, 1, none⟩ = some (.string t218) ∧ w'.cell? ⟨gb221, 2, none⟩ = some (.string t219)) (ds := []) #[false, false, false, false, false, false, false, false, false] (by kernel_rfl) rfl rfl ⟨(blk_cell BK221.out 0).trans rfl, (blk_cell BK221.out 1).trans rfl, (blk_cell BK221.out 2).trans rfl⟩ (fun hHeld => ?_); refine with_tabW gussetlaw03_live.tab4 gussetlaw03_live.bits4 (fun HT_ HW_ => ?_)
              generalize w22.drew = w23 at BK221 HB hHeld ⊢
              refine zV (i := 0) (N := some 26) #[true, false, false, false, false, false, false, false, false] (take_ofW HT_.out HW_.out (by kernel_rfl)) hHeld ?_
              refine join_ (σ := Nat) 2 #[true, true, true, true, true, true, true, false, false] (fun s_ => [(27, .agg #[.bool t226, .string t227, .string t228]), (28, .tuple #[.agg #[.bool t229, .string t230, .string t231], .int .i64 t232]), (7, .pointer (some ⟨s_, 0, none⟩)), (25, .tuple #[.agg #[.bool t229, .string t230, .string t231], .int .i64 t232]), (29, .agg #[.bool t229, .string t230, .string t231]), (30, .int .i64 t232)]) (fun s_ w' => (w'.cell? ⟨gb221, 0, none⟩ = some (.bool t217) ∧ w'.cell? ⟨gb221, 1, none⟩ = some (.string t218) ∧ w'.cell? ⟨gb221, 2, none⟩ = some (.string t219)) ∧ (w'.heap[gb221]? = some (.cells #[.bool t217, .string t218, .string t219] 27 (0, 0))) ∧ (w'.heap[s_]? = some (.cells #[.bool false, .string (⟨#[]⟩ : ByteArray), .string (⟨#[]⟩ : ByteArray)] 27 (0, 0))) ∧ (w.heap.size ≤ s_) ∧ (w.heap.size ≤ s_) ∧ (gb221 ≠ s_) ∧ (s_ ≠ gb221) ∧ (Below w.heap.size w w')) ?_ ?_
              rotate_left
              · intro hCont
                refine two_ (i := 1) (j := 6) (Ni := some 27) (Nj := some 7) #[true, true, false, false, false, false, false, false, false] #[true, false, false, false, false, false, true, false, false] rfl rfl rfl rfl (two_of HT_.out (by kernel_rfl)) (by decide) (by decide) (fun K hK => ?_) (fun K hK => ?_)
                · skip
                  refine zX Tryz.func17 (by kernel_rfl) #[.int .i64 0] ?_
                  with_reducible refine (rat_Of.calls 0 t226 t227 t228 _ A6.out).mono ?_
                  rintro e w24 ⟨rfl, hb⟩; refine ⟨_, rfl, ?_⟩
                  replace BK221 := zB BK221 hb; replace HB := zS HB hb
                  (try clear hb)
                  refine hK.out _ _ ⟨(blk_cell BK221.out 0).trans rfl, (blk_cell BK221.out 1).trans rfl, (blk_cell BK221.out 2).trans rfl⟩ (fun hHeld => ?_)
                  clear hK K
                  refine zW (some 27) ?_
                  refine two_ (i := 2) (j := 6) (Ni := some 28) (Nj := some 7) #[true, true, true, false, false, false, false, false, false] #[true, true, false, false, false, false, true, false, false] rfl rfl rfl rfl (two_of HT_.out (by kernel_rfl)) (by decide) (by decide) (fun K hK => ?_) (fun K hK => ?_)
                  · skip
                    refine zX Tryz.func29 (by kernel_rfl) #[.agg #[.bool t217, .string t218, .string t219], .agg #[.bool t226, .string t227, .string t228]] ?_
                    with_reducible refine (rat_Div.calls k t217 t218 t219 t226 t227 t228 t229 t230 t231 t232 _ A7.out).mono ?_
                    rintro e w25 ⟨rfl, hb⟩; refine ⟨_, rfl, ?_⟩
                    replace BK221 := zB BK221 hb; replace HB := zS HB hb
                    (try clear hb)
                    refine hK.out _ _ ⟨(blk_cell BK221.out 0).trans rfl, (blk_cell BK221.out 1).trans rfl, (blk_cell BK221.out 2).trans rfl⟩ (fun hHeld => ?_)
                    clear hK K
                    refine zW (some 28) ?_
                    refine zU (i := 3) (N := some 25) #[true, true, true, true, false, false, false, false, false] (any_of HT_.out (by kernel_rfl)) ?_
                    refine zU (i := 4) (N := some 29) #[true, true, true, true, true, false, false, false, false] (any_of HT_.out (by kernel_rfl)) ?_
                    refine zU (i := 5) (N := some 30) #[true, true, true, true, true, true, false, false, false] (any_of HT_.out (by kernel_rfl)) ?_
                    refine one_ (i := 6) (N := some 7) #[true, true, true, true, true, true, true, false, false] rfl rfl (one_of HT_.out (by kernel_rfl)) (by decide) (fun K hK => ?_)
                    refine box_step ?hg (N := 7) ?hd (cs := #[.bool false, .string (⟨#[]⟩ : ByteArray), .string (⟨#[]⟩ : ByteArray)]) (t := 27) ?hr ?_; (case hd => rfl); (case hg => rfl); (case hr => first | (go_simp; done) | (go_simp; rfl))
                    intro gb233 hg w26 hbox hb
                    have BK233 := Aside0.mk (hbox); have GW233 := zG hg HB; have GE233 := zG hg HB; obtain ⟨NB221_233, NB233_221⟩ := zQ hg BK221; replace BK221 := zB BK221 hb; replace HB := zS HB hb; clear hb hbox hg
                    refine hK.out _ _ ⟨(blk_cell BK221.out 0).trans rfl, (blk_cell BK221.out 1).trans rfl, (blk_cell BK221.out 2).trans rfl⟩ (fun hHeld => ?_)
                    clear hK K
                    refine zW (some 7) ?_
                    exact norm_ (by simp only [putAll, Act.put, List.setIfInBounds_toArray, List.set_cons_zero, List.set_cons_succ]) (hCont (gb233) _ ⟨hHeld, (zK BK221).out, (zK BK233).out, GW233.out, GE233.out, NB221_233.out, NB233_221.out, (zT HB)⟩)
                  · skip
                    refine box_step ?hg (N := 7) ?hd (cs := #[.bool false, .string (⟨#[]⟩ : ByteArray), .string (⟨#[]⟩ : ByteArray)]) (t := 27) ?hr ?_; (case hd => rfl); (case hg => rfl); (case hr => first | (go_simp; done) | (go_simp; rfl))
                    intro gb233 hg w25 hbox hb
                    have BK233 := Aside0.mk (hbox); have GW233 := zG hg HB; have GE233 := zG hg HB; obtain ⟨NB221_233, NB233_221⟩ := zQ hg BK221; replace BK221 := zB BK221 hb; replace HB := zS HB hb; clear hb hbox hg
                    refine hK.out _ _ ⟨(blk_cell BK221.out 0).trans rfl, (blk_cell BK221.out 1).trans rfl, (blk_cell BK221.out 2).trans rfl⟩ (fun hHeld => ?_)
                    clear hK K
                    refine zW (some 7) ?_
                    refine one_ (i := 2) (N := some 28) #[true, true, true, false, false, false, true, false, false] rfl rfl (one_of HT_.out (by kernel_rfl)) (by decide) (fun K hK => ?_)
                    refine zX Tryz.func29 (by kernel_rfl) #[.agg #[.bool t217, .string t218, .string t219], .agg #[.bool t226, .string t227, .string t228]] ?_
                    with_reducible refine (rat_Div.calls k t217 t218 t219 t226 t227 t228 t229 t230 t231 t232 _ A7.out).mono ?_
                    rintro e w26 ⟨rfl, hb⟩; refine ⟨_, rfl, ?_⟩
                    obtain ⟨BK221, BK233⟩ := zB2 BK221 BK233 hb; replace HB := zS HB hb
                    (try clear hb)
                    refine hK.out _ _ ⟨(blk_cell BK221.out 0).trans rfl, (blk_cell BK221.out 1).trans rfl, (blk_cell BK221.out 2).trans rfl⟩ (fun hHeld => ?_)
                    clear hK K
                    refine zW (some 28) ?_
                    refine zU (i := 3) (N := some 25) #[true, true, true, true, false, false, true, false, false] (any_of HT_.out (by kernel_rfl)) ?_
                    refine zU (i := 4) (N := some 29) #[true, true, true, true, true, false, true, false, false] (any_of HT_.out (by kernel_rfl)) ?_
                    refine zU (i := 5) (N := some 30) #[true, true, true, true, true, true, true, false, false] (any_of HT_.out (by kernel_rfl)) ?_
                    exact norm_ (by simp only [putAll, Act.put, List.setIfInBounds_toArray, List.set_cons_zero, List.set_cons_succ]) (hCont (gb233) _ ⟨hHeld, (zK BK221).out, (zK BK233).out, GW233.out, GE233.out, NB221_233.out, NB233_221.out, (zT HB)⟩)
                · skip
                  refine box_step ?hg (N := 7) ?hd (cs := #[.bool false, .string (⟨#[]⟩ : ByteArray), .string (⟨#[]⟩ : ByteArray)]) (t := 27) ?hr ?_; (case hd => rfl); (case hg => rfl); (case hr => first | (go_simp; done) | (go_simp; rfl))
                  intro gb233 hg w24 hbox hb
                  have BK233 := Aside0.mk (hbox); have GW233 := zG hg HB; have GE233 := zG hg HB; obtain ⟨NB221_233, NB233_221⟩ := zQ hg BK221; replace BK221 := zB BK221 hb; replace HB := zS HB hb; clear hb hbox hg
                  refine hK.out _ _ ⟨(blk_cell BK221.out 0).trans rfl, (blk_cell BK221.out 1).trans rfl, (blk_cell BK221.out 2).trans rfl⟩ (fun hHeld => ?_)
                  clear hK K
                  refine zW (some 7) ?_
                  refine one_ (i := 1) (N := some 27) #[true, true, false, false, false, false, true, false, false] rfl rfl (one_of HT_.out (by kernel_rfl)) (by decide) (fun K hK => ?_)
                  refine zX Tryz.func17 (by kernel_rfl) #[.int .i64 0] ?_
                  with_reducible refine (rat_Of.calls 0 t226 t227 t228 _ A6.out).mono ?_
                  rintro e w25 ⟨rfl, hb⟩; refine ⟨_, rfl, ?_⟩
                  obtain ⟨BK221, BK233⟩ := zB2 BK221 BK233 hb; replace HB := zS HB hb
                  (try clear hb)
                  refine hK.out _ _ ⟨(blk_cell BK221.out 0).trans rfl, (blk_cell BK221.out 1).trans rfl, (blk_cell BK221.out 2).trans rfl⟩ (fun hHeld => ?_)
                  clear hK K
                  refine zW (some 27) ?_
                  refine one_ (i := 2) (N := some 28) #[true, true, true, false, false, false, true, false, false] rfl rfl (one_of HT_.out (by kernel_rfl)) (by decide) (fun K hK => ?_)
                  refine zX Tryz.func29 (by kernel_rfl) #[.agg #[.bool t217, .string t218, .string t219], .agg #[.bool t226, .string t227, .string t228]] ?_
                  with_reducible refine (rat_Div.calls k t217 t218 t219 t226 t227 t228 t229 t230 t231 t232 _ A7.out).mono ?_
                  rintro e w26 ⟨rfl, hb⟩; refine ⟨_, rfl, ?_⟩
                  obtain ⟨BK221, BK233⟩ := zB2 BK221 BK233 hb; replace HB := zS HB hb
                  (try clear hb)
                  refine hK.out _ _ ⟨(blk_cell BK221.out 0).trans rfl, (blk_cell BK221.out 1).trans rfl, (blk_cell BK221.out 2).trans rfl⟩ (fun hHeld => ?_)
                  clear hK K
                  refine zW (some 28) ?_
                  refine zU (i := 3) (N := some 25) #[true, true, true, true, false, false, true, false, false] (any_of HT_.out (by kernel_rfl)) ?_
                  refine zU (i := 4) (N := some 29) #[true, true, true, true, true, false, true, false, false] (any_of HT_.out (by kernel_rfl)) ?_
                  refine zU (i := 5) (N := some 30) #[true, true, true, true, true, true, true, false, false] (any_of HT_.out (by kernel_rfl)) ?_
                  exact norm_ (by simp only [putAll, Act.put, List.setIfInBounds_toArray, List.set_cons_zero, List.set_cons_succ]) (hCont (gb233) _ ⟨hHeld, (zK BK221).out, (zK BK233).out, GW233.out, GE233.out, NB221_233.out, NB233_221.out, (zT HB)⟩)
              rintro gb233 w27 ⟨hS_, h0_, h1_, h2_, h3_, h4_, h5_, h6_⟩
              have n0_ : Aside0 (w27.heap[gb221]? = some (.cells #[.bool t217, .string t218, .string t219] 27 (0, 0))) := ⟨h0_⟩; have n1_ : Aside0 (w27.heap[gb233]? = some (.cells #[.bool false, .string (⟨#[]⟩ : ByteArray), .string (⟨#[]⟩ : ByteArray)] 27 (0, 0))) := ⟨h1_⟩; have n2_ : Aside0 (w.heap.size ≤ gb233) := ⟨h2_⟩; have n3_ : Aside0 (w.heap.size ≤ gb233) := ⟨h3_⟩; have n4_ : Aside0 (gb221 ≠ gb233) := ⟨h4_⟩; have n5_ : Aside0 (gb233 ≠ gb221) := ⟨h5_⟩; have n6_ : Aside0 (Below w.heap.size w w27) := ⟨h6_⟩; clear BK221; clear HB; clear h0_ h1_ h2_ h3_ h4_ h5_ h6_; have BK221 := n0_; have BK233 := n1_; have GW233 := n2_; have GE233 := n3_; have NB221_233 := n4_; have NB233_221 := n5_; have HB := n6_; clear n0_ n1_ n2_ n3_ n4_ n5_ n6_
              have hHeld : w27.cell? ⟨gb221, 0, none⟩ = some (.bool t217) ∧ w27.cell? ⟨gb221, 1, none⟩ = some (.string t218) ∧ w27.cell? ⟨gb221, 2, none⟩ = some (.string t219) := hS_
              refine norm_ (a' := ?_) ?_ ?_
              rotate_left
              · simp only [putAll, Act.put, List.setIfInBounds_toArray, List.set_cons_zero, List.set_cons_succ]
                rfl
              refine one_ (i := 7) (N := none) #[true, true, true, true, true, true, true, true, false] rfl rfl (one_of HT_.out (by kernel_rfl)) (by decide) (fun K hK => ?_)
              have hs28 : w27.cell? ⟨gb233, 0, none⟩ = some (.bool false) := (blk_cell BK233.out 0).trans rfl
              have hfs28 := blk_frozen BK233.out 0
              have hns28_0 := NB221_233.out
              have hms28_0 := NB233_221.out
              have hs29 : w27.cell? ⟨gb233, 1, none⟩ = some (.string (⟨#[]⟩ : ByteArray)) := (blk_cell BK233.out 1).trans rfl
              have hfs29 := blk_frozen BK233.out 1
              have hns29_0 := NB221_233.out
              have hms29_0 := NB233_221.out
              have hs30 : w27.cell? ⟨gb233, 2, none⟩ = some (.string (⟨#[]⟩ : ByteArray)) := (blk_cell BK233.out 2).trans rfl
              have hfs30 := blk_frozen BK233.out 2
              have hns30_0 := NB221_233.out
              have hms30_0 := NB233_221.out
              refine skip_ (w1 := ?_) (by rfl) rfl ?_ ?_
              rotate_left
              · go_simp
                rfl
              refine hK.out _ _ ⟨((cell_far (p := ⟨gb233, _, none⟩) NB221_233.out _).trans (((cell_far (p := ⟨gb233, _, none⟩) NB221_233.out _).trans (((cell_far (p := ⟨gb233, _, none⟩) NB221_233.out _).trans (hHeld.1)))))), ((cell_far (p := ⟨gb233, _, none⟩) NB221_233.out _).trans (((cell_far (p := ⟨gb233, _, none⟩) NB221_233.out _).trans (((cell_far (p := ⟨gb233, _, none⟩) NB221_233.out _).trans (hHeld.2.1)))))), ((cell_far (p := ⟨gb233, _, none⟩) NB221_233.out _).trans (((cell_far (p := ⟨gb233, _, none⟩) NB221_233.out _).trans (((cell_far (p := ⟨gb233, _, none⟩) NB221_233.out _).trans (hHeld.2.2))))))⟩ (fun hHeld => ?_)
              clear hK K
              refine zU (i := 8) (N := some 8) #[true, true, true, true, true, true, true, true, true] (any_of HT_.out (by kernel_rfl)) ?_
              refine done_ (done_of HT_.out (by kernel_rfl)) ?_
              try go_wp2
              have n0_ : Aside0 ((((w27.setCell ⟨gb233, 0, none⟩ (.bool t229)).setCell ⟨gb233, 1, none⟩ (.string t230)).setCell ⟨gb233, 2, none⟩ (.string t231)).heap[gb221]? = some (.cells #[.bool t217, .string t218, .string t219] 27 (0, 0))) := zK BK221; have n1_ : Aside0 ((((w27.setCell ⟨gb233, 0, none⟩ (.bool t229)).setCell ⟨gb233, 1, none⟩ (.string t230)).setCell ⟨gb233, 2, none⟩ (.string t231)).heap[gb233]? = some (.cells #[.bool t229, .string t230, .string t231] 27 (0, 0))) := ⟨by (with_reducible repeat (first | refine blk_drewN ?_ _ | refine blk_drew ?_ | refine blk_alloc ?_ _)); refine zP (cs := #[.bool t229, .string t230, .string (⟨#[]⟩ : ByteArray)]) ?_ 2 _; (with_reducible repeat (first | refine blk_drewN ?_ _ | refine blk_drew ?_ | refine blk_alloc ?_ _)); refine zP (cs := #[.bool t229, .string (⟨#[]⟩ : ByteArray), .string (⟨#[]⟩ : ByteArray)]) ?_ 1 _; (with_reducible repeat (first | refine blk_drewN ?_ _ | refine blk_drew ?_ | refine blk_alloc ?_ _)); refine zP (cs := #[.bool false, .string (⟨#[]⟩ : ByteArray), .string (⟨#[]⟩ : ByteArray)]) ?_ 0 _; (with_reducible repeat (first | refine blk_drewN ?_ _ | refine blk_drew ?_ | refine blk_alloc ?_ _)); exact BK233.out⟩; have n2_ : Aside0 (Below w.heap.size w (((w27.setCell ⟨gb233, 0, none⟩ (.bool t229)).setCell ⟨gb233, 1, none⟩ (.string t230)).setCell ⟨gb233, 2, none⟩ (.string t231))) := ⟨zT HB⟩
              (try clear BK221)
              (try clear BK233)
              (try clear HB)
              generalize (((w27.setCell ⟨gb233, 0, none⟩ (.bool t229)).setCell ⟨gb233, 1, none⟩ (.string t230)).setCell ⟨gb233, 2, none⟩ (.string t231)) = w31 at n0_ n1_ n2_ ⊢
              have BK221 := n0_; have BK233 := n1_
              have HB := n2_; clear n0_ n1_ n2_
              replace BK221 := zD BK221; replace BK233 := zD BK233; replace HB := zF HB
              refine start_ (n := 28) (S := fun w' => w'.cell? ⟨gb221, 0, none⟩ = some (.bool t217) ∧ w'.cell? ⟨gb221, 1, none⟩ = some (.string t218) ∧ w'.cell? ⟨gb221, 2, none⟩ = some (.string t219)) (ds := []) #[false, false, false, false, false, false, false, false, false, false, false, false, false, false, false, false, false, false, false, false, false, false, false, false, false, false, false, false] (by kernel_rfl) rfl rfl ⟨(blk_cell BK221.out 0).trans rfl, (blk_cell BK221.out 1).trans rfl, (blk_cell BK221.out 2).trans rfl⟩ (fun hHeld => ?_); refine with_tabW gussetlaw03_live.tab5 gussetlaw03_live.bits5 (fun HT_ HW_ => ?_)
              generalize w31.drew = w32 at BK221 BK233 HB hHeld ⊢
              refine zV (i := 0) (N := some 31) #[true, false, false, false, false, false, false, false, false, false, false, false, false, false, false, false, false, false, false, false, false, false, false, false, false, false, false, false] (take_ofW HT_.out HW_.out (by kernel_rfl)) hHeld ?_
              refine one_ (i := 1) (N := some 32) #[true, true, false, false, false, false, false, false, false, false, false, false, false, false, false, false, false, false, false, false, false, false, false, false, false, false, false, false] rfl rfl (one_of HT_.out (by kernel_rfl)) (by decide) (fun K hK => ?_)
              refine zX Tryz.func45 (by kernel_rfl) #[.int .i64 (-3), .int .i64 2] ?_
              with_reducible refine (gussetref03_Frac.calls (-3) 2 t234 t235 t236 _ A8.out).mono ?_
              rintro e w33 ⟨rfl, hb⟩; refine ⟨_, rfl, ?_⟩
              obtain ⟨BK221, BK233⟩ := zB2 BK221 BK233 hb; replace HB := zS HB hb
              (try clear hb)
              refine hK.out _ _ ⟨(blk_cell BK221.out 0).trans rfl, (blk_cell BK221.out 1).trans rfl, (blk_cell BK221.out 2).trans rfl⟩ (fun hHeld => ?_)
              clear hK K
              refine zW (some 32) ?_
              refine zU (i := 2) (N := some 33) #[true, true, true, false, false, false, false, false, false, false, false, false, false, false, false, false, false, false, false, false, false, false, false, false, false, false, false, false] (any_of HT_.out (by kernel_rfl)) ?_
              refine zU (i := 3) (N := some 34) #[true, true, true, true, false, false, false, false, false, false, false, false, false, false, false, false, false, false, false, false, false, false, false, false, false, false, false, false] (any_of HT_.out (by kernel_rfl)) ?_
              refine zU (i := 4) (N := some 35) #[true, true, true, true, true, false, false, false, false, false, false, false, false, false, false, false, false, false, false, false, false, false, false, false, false, false, false, false] (any_of HT_.out (by kernel_rfl)) ?_
              refine zU (i := 5) (N := some 36) #[true, true, true, true, true, true, false, false, false, false, false, false, false, false, false, false, false, false, false, false, false, false, false, false, false, false, false, false] (any_of HT_.out (by kernel_rfl)) ?_
              refine zU (i := 6) (N := some 37) #[true, true, true, true, true, true, true, false, false, false, false, false, false, false, false, false, false, false, false, false, false, false, false, false, false, false, false, false] (any_of HT_.out (by kernel_rfl)) ?_
              refine zU (i := 7) (N := some 38) #[true, true, true, true, true, true, true, true, false, false, false, false, false, false, false, false, false, false, false, false, false, false, false, false, false, false, false, false] (any_of HT_.out (by kernel_rfl)) ?_
              refine zU (i := 8) (N := some 39) #[true, true, true, true, true, true, true, true, true, false, false, false, false, false, false, false, false, false, false, false, false, false, false, false, false, false, false, false] (any_of HT_.out (by kernel_rfl)) ?_
              refine zU (i := 9) (N := some 40) #[true, true, true, true, true, true, true, true, true, true, false, false, false, false, false, false, false, false, false, false, false, false, false, false, false, false, false, false] (any_of HT_.out (by kernel_rfl)) ?_
              refine zU (i := 10) (N := some 41) #[true, true, true, true, true, true, true, true, true, true, true, false, false, false, false, false, false, false, false, false, false, false, false, false, false, false, false, false] (any_of HT_.out (by kernel_rfl)) ?_
              refine zU (i := 11) (N := some 42) #[true, true, true, true, true, true, true, true, true, true, true, true, false, false, false, false, false, false, false, false, false, false, false, false, false, false, false, false] (any_of HT_.out (by kernel_rfl)) ?_
              refine zU (i := 12) (N := some 43) #[true, true, true, true, true, true, true, true, true, true, true, true, true, false, false, false, false, false, false, false, false, false, false, false, false, false, false, false] (any_of HT_.out (by kernel_rfl)) ?_
              refine zU (i := 13) (N := some 44) #[true, true, true, true, true, true, true, true, true, true, true, true, true, true, false, false, false, false, false, false, false, false, false, false, false, false, false, false] (any_of HT_.out (by kernel_rfl)) ?_
              refine zU (i := 14) (N := some 45) #[true, true, true, true, true, true, true, true, true, true, true, true, true, true, true, false, false, false, false, false, false, false, false, false, false, false, false, false] (any_of HT_.out (by kernel_rfl)) ?_
              refine zU (i := 15) (N := some 46) #[true, true, true, true, true, true, true, true, true, true, true, true, true, true, true, true, false, false, false, false, false, false, false, false, false, false, false, false] (any_of HT_.out (by kernel_rfl)) ?_
              refine zU (i := 16) (N := some 47) #[true, true, true, true, true, true, true, true, true, true, true, true, true, true, true, true, true, false, false, false, false, false, false, false, false, false, false, false] (any_of HT_.out (by kernel_rfl)) ?_
              refine zU (i := 17) (N := some 48) #[true, true, true, true, true, true, true, true, true, true, true, true, true, true, true, true, true, true, false, false, false, false, false, false, false, false, false, false] (any_of HT_.out (by kernel_rfl)) ?_
              refine zU (i := 18) (N := some 49) #[true, true, true, true, true, true, true, true, true, true, true, true, true, true, true, true, true, true, true, false, false, false, false, false, false, false, false, false] (any_of HT_.out (by kernel_rfl)) ?_
              refine zU (i := 19) (N := some 50) #[true, true, true, true, true, true, true, true, true, true, true, true, true, true, true, true, true, true, true, true, false, false, false, false, false, false, false, false] (any_of HT_.out (by kernel_rfl)) ?_
              refine zU (i := 20) (N := some 51) #[true, true, true, true, true, true, true, true, true, true, true, true, true, true, true, true, true, true, true, true, true, false, false, false, false, false, false, false] (any_of HT_.out (by kernel_rfl)) ?_
              refine zU (i := 21) (N := some 52) #[true, true, true, true, true, true, true, true, true, true, true, true, true, true, true, true, true, true, true, true, true, true, false, false, false, false, false, false] (any_of HT_.out (by kernel_rfl)) ?_
              refine zU (i := 22) (N := some 53) #[true, true, true, true, true, true, true, true, true, true, true, true, true, true, true, true, true, true, true, true, true, true, true, false, false, false, false, false] (any_of HT_.out (by kernel_rfl)) ?_
              refine zU (i := 23) (N := some 54) #[true, true, true, true, true, true, true, true, true, true, true, true, true, true, true, true, true, true, true, true, true, true, true, true, false, false, false, false] (any_of HT_.out (by kernel_rfl)) ?_
              refine zU (i := 24) (N := some 55) #[true, true, true, true, true, true, true, true, true, true, true, true, true, true, true, true, true, true, true, true, true, true, true, true, true, false, false, false] (any_of HT_.out (by kernel_rfl)) ?_
              refine zU (i := 25) (N := some 56) #[true, true, true, true, true, true, true, true, true, true, true, true, true, true, true, true, true, true, true, true, true, true, true, true, true, true, false, false] (any_of HT_.out (by kernel_rfl)) ?_
              refine zU (i := 26) (N := some 57) #[true, true, true, true, true, true, true, true, true, true, true, true, true, true, true, true, true, true, true, true, true, true, true, true, true, true, true, false] (any_of HT_.out (by kernel_rfl)) ?_
              refine zU (i := 27) (N := some 0) #[true, true, true, true, true, true, true, true, true, true, true, true, true, true, true, true, true, true, true, true, true, true, true, true, true, true, true, true] (any_of HT_.out (by kernel_rfl)) ?_
              refine done_ (done_of HT_.out (by kernel_rfl)) ?_
              try go_wp2
              go_ret
              exact ⟨by first | rfl | (simp [errW_none, errW_some] <;> rfl) | (simp [*, errW_none, errW_some] <;> rfl), zT HB⟩
            · rw [if_neg c14] at H
              have c14b0 : (t225 == 0) = false := beq_eq_false_iff_ne.mpr c14
              have c14b1 : (t225 != 0) = true := bne_iff_ne.mpr c14
              exact absurd H (by simp)
          · rw [if_neg c13] at H
            have c13b0 : (t224.toList == ([45, 51, 47, 50] : List UInt8)) = false := beq_eq_false_iff_ne.mpr c13
            have c13b1 : (t224.toList != ([45, 51, 47, 50] : List UInt8)) = true := bne_iff_ne.mpr c13
            exact absurd H (by simp)
        · rw [if_neg c12] at H
          have c12b0 : (t223 == 0) = false := beq_eq_false_iff_ne.mpr c12
          have c12b1 : (t223 != 0) = true := bne_iff_ne.mpr c12
          exact absurd H (by simp)
      · rw [if_neg c11] at H
        have c11b0 : (t222.toList == ([45, 50] : List UInt8)) = false := beq_eq_false_iff_ne.mpr c11
        have c11b1 : (t222.toList != ([45, 50] : List UInt8)) = true := bne_iff_ne.mpr c11
        exact absurd H (by simp)
    · rw [if_neg c10] at H
      have c10b0 : (t220 == 0) = false := beq_eq_false_iff_ne.mpr c10
      have c10b1 : (t220 != 0) = true := bne_iff_ne.mpr c10
      exact absurd H (by simp)
  · rw [if_neg c9] at H
    have c9b0 : ((t217 == t234 && (t218.toList == t235.toList)) && (t219.toList == t236.toList)) = false := by simpa using c9
    clear c9
    exact absurd H (by simp)

end Go.Proofs.YtoijlbcbbblbfaaGreatDoorH.R
