import Derived.Test.YtoijlbcbbblbfaaGreatDoorYG0x0
import Derived.Test.YtoijlbcbbblbfaaGreatDoorYS6
import Derived.Test.YtoijlbcbbblbfaaGreatDoorYG3x0
-- printed by hp.py
namespace Go.Proofs.YtoijlbcbbblbfaaGreatDoorH.R
open Go.RowKit Go.Proofs.YtoijlbcbbblbfaaGreatDoorH.Z Go.Proofs.YtoijlbcbbblbfaaGreatDoorW.PrintWords Go.Proofs.YtoijlbcbbblbfaaGreatDoorW.PrintLast Go.Proofs.YtoijlbcbbblbfaaGreatDoorW.PrintMore
attribute [local go_sem] max2_int min2_int max_two min_two max_three min_three max_four min_four   -- for this text's walks alone
set_option linter.unusedVariables false
set_option linter.unusedSimpArgs false

/-! ### rat_Decimal: function 20 -/
mutual
def rat_Decimal.j0 : Nat → Int → Bool → Bool → ByteArray → ByteArray → Option (ByteArray × Int)
  | 0, _, _, _, _, _ => none
  | k + 1, x1, x18, x164000, x164001, x164002 => if x18 = true then (some ((⟨#[]⟩ : ByteArray), 1)) else (rat_Decimal.l0 k x1 x1 0 x164000 x164001 x164002 false x164001)
def rat_Decimal.l0 : Nat → Int → Int → Int → Bool → ByteArray → ByteArray → Bool → ByteArray → Option (ByteArray × Int)
  | 0, _, _, _, _, _, _, _, _ => none
  | k + 1, x1, x29, x30, x164000, x164001, x164002, x166000, x166001 => if x30 < x29 then ((whole_Of.f 10).bind fun bt166 => ((rat_do_of_whole_Mul.f x166000 x166001 bt166.1 bt166.2).bind fun bt168 => (rat_Decimal.l0 k x1 x29 (wrap64 (x30 + 1)) x164000 x164001 x164002 bt168.1 bt168.2))) else ((rat_den.f x164000 x164001 x164002).bind fun bt170 => ((rat_rounded.f k x166000 x166001 bt170.1 bt170.2).bind fun bt172 => ((whole_Print.f bt172.1 bt172.2).bind fun bt175 => ((strings_Repeat.f (⟨#[48]⟩ : ByteArray) (mx 0 (wrap64 ((wrap64 (x1 + 1)) - (bt175.1.size : Int))))).bind fun t177 => (if t177.size + bt175.1.size ≤ 9223372036854775807 then (if x1 > 0 then (if 0 ≤ (wrap64 (((t177 ++ bt175.1).size : Int) - x1)) then (if (wrap64 (((t177 ++ bt175.1).size : Int) - x1)) ≤ ((t177 ++ bt175.1).size : Int) then (if ((t177 ++ bt175.1).extract 0 ((wrap64 (((t177 ++ bt175.1).size : Int) - x1)) : Int).toNat).size + 1 ≤ 9223372036854775807 then (if (((t177 ++ bt175.1).extract 0 ((wrap64 (((t177 ++ bt175.1).size : Int) - x1)) : Int).toNat) ++ (⟨#[46]⟩ : ByteArray)).size + ((t177 ++ bt175.1).extract ((wrap64 (((t177 ++ bt175.1).size : Int) - x1)) : Int).toNat (t177 ++ bt175.1).size).size ≤ 9223372036854775807 then (rat_Decimal.j2 k ((((t177 ++ bt175.1).extract 0 ((wrap64 (((t177 ++ bt175.1).size : Int) - x1)) : Int).toNat) ++ (⟨#[46]⟩ : ByteArray)) ++ ((t177 ++ bt175.1).extract ((wrap64 (((t177 ++ bt175.1).size : Int) - x1)) : Int).toNat (t177 ++ bt175.1).size)) x164000 x164001 x164002 bt172.1 bt172.2) else (none)) else (none)) else (none)) else (none)) else (rat_Decimal.j2 k (t177 ++ bt175.1) x164000 x164001 x164002 bt172.1 bt172.2)) else (none))))))
def rat_Decimal.j2 : Nat → ByteArray → Bool → ByteArray → ByteArray → Bool → ByteArray → Option (ByteArray × Int)
  | 0, _, _, _, _, _, _ => none
  | k + 1, x9, x164000, x164001, x164002, x175000, x175001 => if x164000 = true then (rat_Decimal.j3 k x9 (x175001.toList != ([] : List UInt8))) else (rat_Decimal.j3 k x9 false)
def rat_Decimal.j3 : Nat → ByteArray → Bool → Option (ByteArray × Int)
  | 0, _, _ => none
  | k + 1, x9, x75 => if x75 = true then (if 1 + x9.size ≤ 9223372036854775807 then (some ((⟨#[45]⟩ : ByteArray) ++ x9, 0)) else (none)) else (some (x9, 0))
end
def rat_Decimal.f (k : Nat) (a0_0 : Bool) (a0_1 : ByteArray) (a0_2 : ByteArray) (a1 : Int) : Option (ByteArray × Int) := (rat_Check.f k a0_0 a0_1 a0_2).bind fun t164 => (if t164 = 0 then (if a1 < 0 then (rat_Decimal.j0 k a1 true a0_0 a0_1 a0_2) else (rat_Decimal.j0 k a1 (decide (a1 > 100)) a0_0 a0_1 a0_2)) else (some ((⟨#[]⟩ : ByteArray), t164)))
def rat_Decimal.T16 : Bool × List (List Nat × List Nat) := (true, [([], []), ([], []), ([0, 1], [0, 1]), ([2], [2]), ([], []), ([], []), ([4, 5], [4, 5]), ([3, 6], [3, 6]), ([7, 0, 1, 2, 3, 4, 5, 6, 7], [0, 4, 7])])
def rat_Decimal.B16 : List Nat := [0, 0, 3, 7, 0, 0, 48, 127, 255]
theorem rat_Decimal.tab16 : rtab .any (opsOf Tryz.f20 16) = rat_Decimal.T16 := by kernel_rfl
theorem rat_Decimal.bits16 : waitsOk rat_Decimal.T16.2 rat_Decimal.B16 = true := by kernel_rfl
set_option maxHeartbeats 8000000 in
set_option maxRecDepth 100000 in
theorem rat_Decimal.calls (k : Nat) (a0_0 : Bool) (a0_1 : ByteArray) (a0_2 : ByteArray) (a1 : Int) (r1 : ByteArray) (r2 : Int) (w : World) (h : rat_Decimal.f k a0_0 a0_1 a0_2 a1 = some (r1, r2)) :
    Calls Tryz.prog 20 #[.agg #[.bool a0_0, .string a0_1, .string a0_2], .int .i64 a1] w fun e w' => e = .returned (.tuple #[.string r1, .int .i64 r2]) ∧ Below w.heap.size w w' := by
  have hu27 := Tryz.underlying27
  have hu24 := Tryz.underlying24; have hf0 := zf240; have hf1 := zf241; have hf2 := zf270; have hf3 := zf271
  have HB := Aside0.mk (Below.refl w.heap.size w)
  have H : ((rat_Check.f k a0_0 a0_1 a0_2).bind fun t164 => (if t164 = 0 then (if a1 < 0 then (rat_Decimal.j0 k a1 true a0_0 a0_1 a0_2) else (rat_Decimal.j0 k a1 (decide (a1 > 100)) a0_0 a0_1 a0_2)) else (some ((⟨#[]⟩ : ByteArray), t164)))) = some (r1, r2) := h
  clear h
  replace H := Option.bind_eq_some_iff.mp H
  obtain ⟨t164, A30, H⟩ := H
  replace H : (if t164 = 0 then (if a1 < 0 then (rat_Decimal.j0 k a1 true a0_0 a0_1 a0_2) else (rat_Decimal.j0 k a1 (decide (a1 > 100)) a0_0 a0_1 a0_2)) else (some ((⟨#[]⟩ : ByteArray), t164))) = some (r1, r2) := H
  have A3 := Aside0.mk A30
  clear A30
  by_cases c4 : t164 = 0
  · rw [if_pos c4] at H
    have c4b0 : (t164 == 0) = true := beq_iff_eq.mpr c4
    have c4b1 : (t164 != 0) = false := bne_eq_false_iff_eq.mpr c4
    clear c4
    have HC5 := Aside0.mk H
    clear H
    go_enter Tryz.func20, Tryz.ntmps20
    go_upto_region 4 with (first | ((with_reducible refine gate_dst (N := 2) rfl ?_); refine box_event ?hg (N := 2) ?hd (cs := #[.bool a0_0, .string a0_1, .string a0_2]) (t := 27) ?hr ?_; (case hd => rfl); (case hg => rfl); (case hr => first | (go_simp; done) | (go_simp; rfl)); intro gb163 hg w6 hbox hb; have BK163 := Aside0.mk (hbox); have GW163 := zG hg HB; have GE163 := zG hg HB; replace HB := zS HB hb; clear hb hbox hg; obtain ⟨hcz7_0, hcz7_1, hcz7_2, hfz7_0, hfz7_1, hfz7_2⟩ := z3 BK163) | ((with_reducible refine gate_callee (f := 41) rfl ?_); refine zC Tryz.func41 (by kernel_rfl) #[.agg #[.bool a0_0, .string a0_1, .string a0_2]] ?_; (with_reducible refine (rat_Check.calls k a0_0 a0_1 a0_2 t164 _ A3.out).mono ?_); rintro e w8 ⟨rfl, hb⟩; refine ⟨_, rfl, ?_⟩; replace BK163 := zB BK163 hb; replace HB := zS HB hb; (try clear hb)))
    (try simp only [Act.put, List.setIfInBounds_toArray, List.set_cons_zero, List.set_cons_succ])
    go_cut [18] (fun v18 wc => ∃ (kq : Nat) (x18_4 : Bool), v18 = .bool x18_4 ∧ Aside0 (rat_Decimal.j0 kq a1 x18_4 a0_0 a0_1 a0_2 = some (r1, r2)) ∧ Aside0 (kq ≤ k) ∧ Aside0 (wc.heap[gb163]? = some (.cells #[.bool a0_0, .string a0_1, .string a0_2] 27 (0, 0))) ∧ Aside0 (Below w.heap.size w wc))
    case first =>
      have H := HC5.out
      clear HC5
      by_cases c9 : a1 < 0
      · rw [if_pos c9] at H
        have c9b0 : decide (a1 < 0) = true := decide_eq_true c9
        clear c9
        (first | rw [c9b0] | (simp only [i64_w, i32_w]; rw [c9b0]) | skip)
        have H' := Aside0.mk H
        clear H
        go_wp2
        go_meet
        case rel => exact ⟨_, (true), (by first | rfl | (simp; done) | (simp [zne]; done) | (simp [*]; done)), H', ⟨by first | omega | exact Nat.le_refl _⟩, ⟨by (with_reducible repeat (first | refine blk_drewN ?_ _ | refine blk_drew ?_ | refine blk_alloc ?_ _)); exact BK163.out⟩, ⟨zT HB⟩⟩
      · rw [if_neg c9] at H
        have c9b0 : decide (a1 < 0) = false := decide_eq_false c9
        clear c9
        (first | rw [c9b0] | (simp only [i64_w, i32_w]; rw [c9b0]) | skip)
        have H' := Aside0.mk H
        clear H
        go_wp2
        go_meet
        case rel => exact ⟨_, (decide (a1 > 100)), (by first | rfl | (simp; done) | (simp [zne]; done) | (simp [*]; done)), H', ⟨by first | omega | exact Nat.le_refl _⟩, ⟨by (with_reducible repeat (first | refine blk_drewN ?_ _ | refine blk_drew ?_ | refine blk_alloc ?_ _)); exact BK163.out⟩, ⟨zT HB⟩⟩
    case rest =>
      clear HC5
      try clear c2
      try clear p2
      try clear c4
      try clear c4b0
      try clear c4b1
      try clear c9
      try clear c9b0
      try clear hcz7_0
      try clear hcz7_1
      try clear hcz7_2
      try clear hfz7_0
      try clear hfz7_1
      try clear hfz7_2
      obtain ⟨kq, x18_4, rfl, HA, HJ4, BK163, HB⟩ := hcut
      cases kq with
      | zero => exact absurd HA.out (by simp [rat_Decimal.j0])
      | succ kj4 =>
        have H := HA.out
        clear HA
        simp only [rat_Decimal.j0] at H
        by_cases c10 : x18_4 = true
        · subst c10
          have H1 : (some ((⟨#[]⟩ : ByteArray), 1)) = some (r1, r2) := by rw [if_pos rfl] at H; exact H
          clear H
          have H := H1
          clear H1
          simp only [Option.some.injEq, Prod.mk.injEq] at H
          obtain ⟨rfl, rfl⟩ := H
          go_wp2
          go_ret2
          exact ⟨by first | rfl | (simp [errW_none, errW_some] <;> rfl) | (simp [*, errW_none, errW_some] <;> rfl), zT HB⟩
        · replace c10 := Bool.eq_false_iff.mpr c10
          subst c10
          have H1 : (rat_Decimal.l0 kj4 a1 a1 0 a0_0 a0_1 a0_2 false a0_1) = some (r1, r2) := by rw [if_neg (show ¬ (false = true) by decide)] at H; exact H
          clear H
          have H := H1
          clear H1
          have H' := Aside0.mk H
          clear H; obtain ⟨hcz11_0, hcz11_1, hcz11_2, hfz11_0, hfz11_1, hfz11_2⟩ := z3 BK163
          go_wp2_with (first | ((with_reducible refine gate_dst (N := 7) rfl ?_); refine box_event ?hg (N := 7) ?hd (cs := #[.bool false, .string (⟨#[]⟩ : ByteArray)]) (t := 24) ?hr ?_; (case hd => rfl); (case hg => rfl); (case hr => first | (go_simp; done) | (go_simp; rfl)); intro gb165 hg w12 hbox hb; have BK165 := Aside0.mk (hbox); have GW165 := zG hg HB; have GE165 := zG hg HB; have NB163_165 := zN hg BK163; have NB165_163 := zM hg BK163; replace BK163 := zB BK163 hb; replace HB := zS HB hb; clear hb hbox hg; have hnb13 := NB165_163.out; have hnc13 := NB163_165.out; obtain ⟨hcz14_0, hcz14_1, hfz14_0, hfz14_1⟩ := z2 BK165))
          go_loopg [30] kj4 (fun kq v30 w' => ∃ (x30_2 : Int) (x166000_2 : Bool) (x166001_2 : ByteArray), v30 = .int .i64 x30_2 ∧ Aside0 (rat_Decimal.l0 kq a1 a1 x30_2 a0_0 a0_1 a0_2 x166000_2 x166001_2 = some (r1, r2)) ∧ Aside0 (kq ≤ kj4) ∧ Aside0 (w'.heap[gb163]? = some (.cells #[.bool a0_0, .string a0_1, .string a0_2] 27 (0, 0))) ∧ Aside0 (w'.heap[gb165]? = some (.cells #[.bool x166000_2, .string x166001_2] 24 (0, 0))) ∧ Aside0 (Below w.heap.size w w'))
          case atStart => exact ⟨(0), (false), (a0_1), (by first | rfl | (simp; done) | (simp [zne]; done) | (simp [*]; done)), H', ⟨Nat.le_refl _⟩, ⟨by (with_reducible repeat (first | refine blk_drewN ?_ _ | refine blk_drew ?_ | refine blk_alloc ?_ _)); refine blk_far ?_ NB163_165.out _; (with_reducible repeat (first | refine blk_drewN ?_ _ | refine blk_drew ?_ | refine blk_alloc ?_ _)); refine blk_far ?_ NB163_165.out _; (with_reducible repeat (first | refine blk_drewN ?_ _ | refine blk_drew ?_ | refine blk_alloc ?_ _)); exact BK163.out⟩, ⟨by (with_reducible repeat (first | refine blk_drewN ?_ _ | refine blk_drew ?_ | refine blk_alloc ?_ _)); refine zP (cs := #[.bool false, .string (⟨#[]⟩ : ByteArray)]) ?_ 1 _; (with_reducible repeat (first | refine blk_drewN ?_ _ | refine blk_drew ?_ | refine blk_alloc ?_ _)); refine zP (cs := #[.bool false, .string (⟨#[]⟩ : ByteArray)]) ?_ 0 _; (with_reducible repeat (first | refine blk_drewN ?_ _ | refine blk_drew ?_ | refine blk_alloc ?_ _)); exact BK165.out⟩, ⟨zT HB⟩⟩
          case round =>
            clear H'
            try clear c1
            try clear c2
            try clear p2
            try clear c4
            try clear c4b0
            try clear c4b1
            try clear c9
            try clear c9b0
            try clear c10
            try clear c13
            try clear hcz11_0
            try clear hcz11_1
            try clear hcz11_2
            try clear hcz14_0
            try clear hcz14_1
            try clear hcz7_0
            try clear hcz7_1
            try clear hcz7_2
            try clear hfz11_0
            try clear hfz11_1
            try clear hfz11_2
            try clear hfz14_0
            try clear hfz14_1
            try clear hfz7_0
            try clear hfz7_1
            try clear hfz7_2
            try clear p2
            obtain ⟨x30_2, x166000_2, x166001_2, rfl, HA, HK2, BK163, BK165, HB⟩ := hrel
            cases gk with
            | zero => exact absurd HA.out (by simp [rat_Decimal.l0])
            | succ k2 =>
              have H := HA.out
              clear HA
              simp only [rat_Decimal.l0] at H
              by_cases c15 : x30_2 < a1
              · rw [if_pos c15] at H
                have c15b0 : decide (x30_2 < a1) = true := decide_eq_true c15
                clear c15
                replace H := Option.bind_eq_some_iff.mp H
                obtain ⟨⟨t166, t167⟩, A160, H⟩ := H
                replace H : ((rat_do_of_whole_Mul.f x166000_2 x166001_2 t166 t167).bind fun bt168 => (rat_Decimal.l0 k2 a1 a1 (wrap64 (x30_2 + 1)) a0_0 a0_1 a0_2 bt168.1 bt168.2)) = some (r1, r2) := H
                have A16 := Aside0.mk A160
                clear A160
                replace H := Option.bind_eq_some_iff.mp H
                obtain ⟨⟨t168, t169⟩, A170, H⟩ := H
                replace H : (rat_Decimal.l0 k2 a1 a1 (wrap64 (x30_2 + 1)) a0_0 a0_1 a0_2 t168 t169) = some (r1, r2) := H
                have A17 := Aside0.mk A170
                clear A170
                have H' := Aside0.mk H
                clear H
                try go_wp2
                replace BK163 := zD BK163; replace BK165 := zD BK165; replace HB := zF HB
                refine start_ (n := 4) (S := fun w' => w'.cell? ⟨gb165, 0, none⟩ = some (.bool x166000_2) ∧ w'.cell? ⟨gb165, 1, none⟩ = some (.string x166001_2)) (ds := [3]) #[false, false, false, false] (by kernel_rfl) rfl rfl ⟨(blk_cell BK165.out 0).trans rfl, (blk_cell BK165.out 1).trans rfl⟩ (fun hHeld => ?_)
                generalize wr.drew = w18 at BK163 BK165 HB hHeld ⊢
                refine take_ (i := 0) (N := some 32) (v := ?_) (a' := ?_) #[true, false, false, false] rfl rfl (by kernel_rfl) (fun _ _ _ h => h) (Or.inl ⟨by rfl, ?_⟩) hHeld ?_ ?_
                rotate_left
                · rintro w' ⟨s0, s1⟩
                  go_simp
                  with_reducible rfl
                rotate_left
                · simp only [Act.put, List.setIfInBounds_toArray, List.set_cons_zero, List.set_cons_succ, i64_w, i32_w]
                  rfl
                refine one_ (i := 1) (N := some 33) #[true, true, false, false] rfl rfl (by kernel_rfl) (by decide) (fun K hK => ?_)
                refine zX Tryz.func54 (by kernel_rfl) #[.int .i64 10] ?_
                with_reducible refine (whole_Of.calls 10 t166 t167 _ A16.out).mono ?_
                rintro e w19 ⟨rfl, hb⟩; refine ⟨_, rfl, ?_⟩
                replace BK163 := zB BK163 hb; replace BK165 := zB BK165 hb; replace HB := zS HB hb
                (try clear hb)
                refine hK.out _ _ ⟨(blk_cell BK165.out 0).trans rfl, (blk_cell BK165.out 1).trans rfl⟩ (fun hHeld => ?_)
                clear hK K
                refine zW (some 33) ?_
                refine one_ (i := 2) (N := some 34) #[true, true, true, false] rfl rfl (by kernel_rfl) (by decide) (fun K hK => ?_)
                refine zX Tryz.func57 (by kernel_rfl) #[.func (.func 58) #[] #[], .agg #[.bool x166000_2, .string x166001_2], .agg #[.bool t166, .string t167]] ?_
                with_reducible refine (rat_do_of_whole_Mul.calls x166000_2 x166001_2 t166 t167 t168 t169 _ A17.out).mono ?_
                rintro e w20 ⟨rfl, hb⟩; refine ⟨_, rfl, ?_⟩
                replace BK163 := zB BK163 hb; replace BK165 := zB BK165 hb; replace HB := zS HB hb
                (try clear hb)
                refine hK.out _ _ ⟨(blk_cell BK165.out 0).trans rfl, (blk_cell BK165.out 1).trans rfl⟩ (fun hHeld => ?_)
                clear hK K
                refine zW (some 34) ?_
                refine last_ (i := 3) (N := none) #[true, true, true, true] rfl rfl (by kernel_rfl) (by decide) (fun K hK => ?_)
                have hs21 : w20.cell? ⟨gb165, 0, none⟩ = some (.bool x166000_2) := (blk_cell BK165.out 0).trans rfl
                have hfs21 := blk_frozen BK165.out 0
                have hns21_0 := NB163_165.out
                have hms21_0 := NB165_163.out
                have hs22 : w20.cell? ⟨gb165, 1, none⟩ = some (.string x166001_2) := (blk_cell BK165.out 1).trans rfl
                have hfs22 := blk_frozen BK165.out 1
                have hns22_0 := NB163_165.out
                have hms22_0 := NB165_163.out
                refine skip_ (w1 := ?_) (by rfl) rfl ?_ ?_
                rotate_left
                · go_simp
                  rfl
                refine hK.out _ _ ?_
                clear hK K
                refine done_ (by kernel_rfl) ?_
                try go_wp2
                go_roundg k2
                case measure => have := HJ4.out; have := HK2.out; omega
                case rel => exact ⟨(wrap64 (x30_2 + 1)), (t168), (t169), (by first | rfl | (simp; done) | (simp [zne]; done) | (simp [*]; done)), H', ⟨by have := HJ4.out; have := HK2.out; omega⟩, ⟨by (with_reducible repeat (first | refine blk_drewN ?_ _ | refine blk_drew ?_ | refine blk_alloc ?_ _)); refine blk_far ?_ NB163_165.out _; (with_reducible repeat (first | refine blk_drewN ?_ _ | refine blk_drew ?_ | refine blk_alloc ?_ _)); refine blk_far ?_ NB163_165.out _; (with_reducible repeat (first | refine blk_drewN ?_ _ | refine blk_drew ?_ | refine blk_alloc ?_ _)); exact BK163.out⟩, ⟨by (with_reducible repeat (first | refine blk_drewN ?_ _ | refine blk_drew ?_ | refine blk_alloc ?_ _)); refine zP (cs := #[.bool t168, .string x166001_2]) ?_ 1 _; (with_reducible repeat (first | refine blk_drewN ?_ _ | refine blk_drew ?_ | refine blk_alloc ?_ _)); refine zP (cs := #[.bool x166000_2, .string x166001_2]) ?_ 0 _; (with_reducible repeat (first | refine blk_drewN ?_ _ | refine blk_drew ?_ | refine blk_alloc ?_ _)); exact BK165.out⟩, ⟨zT HB⟩⟩
              · rw [if_neg c15] at H
                have c15b0 : decide (x30_2 < a1) = false := decide_eq_false c15
                clear c15
                replace H := Option.bind_eq_some_iff.mp H
                obtain ⟨⟨t170, t171⟩, A230, H⟩ := H
                replace H : ((rat_rounded.f k2 x166000_2 x166001_2 t170 t171).bind fun bt172 => ((whole_Print.f bt172.1 bt172.2).bind fun bt175 => ((strings_Repeat.f (⟨#[48]⟩ : ByteArray) (mx 0 (wrap64 ((wrap64 (a1 + 1)) - (bt175.1.size : Int))))).bind fun t177 => (if t177.size + bt175.1.size ≤ 9223372036854775807 then (if a1 > 0 then (if 0 ≤ (wrap64 (((t177 ++ bt175.1).size : Int) - a1)) then (if (wrap64 (((t177 ++ bt175.1).size : Int) - a1)) ≤ ((t177 ++ bt175.1).size : Int) then (if ((t177 ++ bt175.1).extract 0 ((wrap64 (((t177 ++ bt175.1).size : Int) - a1)) : Int).toNat).size + 1 ≤ 9223372036854775807 then (if (((t177 ++ bt175.1).extract 0 ((wrap64 (((t177 ++ bt175.1).size : Int) - a1)) : Int).toNat) ++ (⟨#[46]⟩ : ByteArray)).size + ((t177 ++ bt175.1).extract ((wrap64 (((t177 ++ bt175.1).size : Int) - a1)) : Int).toNat (t177 ++ bt175.1).size).size ≤ 9223372036854775807 then (rat_Decimal.j2 k2 ((((t177 ++ bt175.1).extract 0 ((wrap64 (((t177 ++ bt175.1).size : Int) - a1)) : Int).toNat) ++ (⟨#[46]⟩ : ByteArray)) ++ ((t177 ++ bt175.1).extract ((wrap64 (((t177 ++ bt175.1).size : Int) - a1)) : Int).toNat (t177 ++ bt175.1).size)) a0_0 a0_1 a0_2 bt172.1 bt172.2) else (none)) else (none)) else (none)) else (none)) else (rat_Decimal.j2 k2 (t177 ++ bt175.1) a0_0 a0_1 a0_2 bt172.1 bt172.2)) else (none))))) = some (r1, r2) := H
                have A23 := Aside0.mk A230
                clear A230
                replace H := Option.bind_eq_some_iff.mp H
                obtain ⟨⟨t172, t173⟩, A240, H⟩ := H
                replace H : ((whole_Print.f t172 t173).bind fun bt175 => ((strings_Repeat.f (⟨#[48]⟩ : ByteArray) (mx 0 (wrap64 ((wrap64 (a1 + 1)) - (bt175.1.size : Int))))).bind fun t177 => (if t177.size + bt175.1.size ≤ 9223372036854775807 then (if a1 > 0 then (if 0 ≤ (wrap64 (((t177 ++ bt175.1).size : Int) - a1)) then (if (wrap64 (((t177 ++ bt175.1).size : Int) - a1)) ≤ ((t177 ++ bt175.1).size : Int) then (if ((t177 ++ bt175.1).extract 0 ((wrap64 (((t177 ++ bt175.1).size : Int) - a1)) : Int).toNat).size + 1 ≤ 9223372036854775807 then (if (((t177 ++ bt175.1).extract 0 ((wrap64 (((t177 ++ bt175.1).size : Int) - a1)) : Int).toNat) ++ (⟨#[46]⟩ : ByteArray)).size + ((t177 ++ bt175.1).extract ((wrap64 (((t177 ++ bt175.1).size : Int) - a1)) : Int).toNat (t177 ++ bt175.1).size).size ≤ 9223372036854775807 then (rat_Decimal.j2 k2 ((((t177 ++ bt175.1).extract 0 ((wrap64 (((t177 ++ bt175.1).size : Int) - a1)) : Int).toNat) ++ (⟨#[46]⟩ : ByteArray)) ++ ((t177 ++ bt175.1).extract ((wrap64 (((t177 ++ bt175.1).size : Int) - a1)) : Int).toNat (t177 ++ bt175.1).size)) a0_0 a0_1 a0_2 t172 t173) else (none)) else (none)) else (none)) else (none)) else (rat_Decimal.j2 k2 (t177 ++ bt175.1) a0_0 a0_1 a0_2 t172 t173)) else (none)))) = some (r1, r2) := H
                have A24 := Aside0.mk A240
                clear A240
                replace H := Option.bind_eq_some_iff.mp H
                obtain ⟨⟨t175, t176⟩, A250, H⟩ := H
                replace H : ((strings_Repeat.f (⟨#[48]⟩ : ByteArray) (mx 0 (wrap64 ((wrap64 (a1 + 1)) - (t175.size : Int))))).bind fun t177 => (if t177.size + t175.size ≤ 9223372036854775807 then (if a1 > 0 then (if 0 ≤ (wrap64 (((t177 ++ t175).size : Int) - a1)) then (if (wrap64 (((t177 ++ t175).size : Int) - a1)) ≤ ((t177 ++ t175).size : Int) then (if ((t177 ++ t175).extract 0 ((wrap64 (((t177 ++ t175).size : Int) - a1)) : Int).toNat).size + 1 ≤ 9223372036854775807 then (if (((t177 ++ t175).extract 0 ((wrap64 (((t177 ++ t175).size : Int) - a1)) : Int).toNat) ++ (⟨#[46]⟩ : ByteArray)).size + ((t177 ++ t175).extract ((wrap64 (((t177 ++ t175).size : Int) - a1)) : Int).toNat (t177 ++ t175).size).size ≤ 9223372036854775807 then (rat_Decimal.j2 k2 ((((t177 ++ t175).extract 0 ((wrap64 (((t177 ++ t175).size : Int) - a1)) : Int).toNat) ++ (⟨#[46]⟩ : ByteArray)) ++ ((t177 ++ t175).extract ((wrap64 (((t177 ++ t175).size : Int) - a1)) : Int).toNat (t177 ++ t175).size)) a0_0 a0_1 a0_2 t172 t173) else (none)) else (none)) else (none)) else (none)) else (rat_Decimal.j2 k2 (t177 ++ t175) a0_0 a0_1 a0_2 t172 t173)) else (none))) = some (r1, r2) := H
                have A25 := Aside0.mk A250
                clear A250
                obtain ⟨ji26, hji26⟩ : ∃ j_ : Int, (mx 0 (wrap64 ((wrap64 (a1 + 1)) - (t175.size : Int)))) = j_ := ⟨_, rfl⟩
                replace H : ((strings_Repeat.f (⟨#[48]⟩ : ByteArray) (ji26)).bind fun t177 => (if t177.size + t175.size ≤ 9223372036854775807 then (if a1 > 0 then (if 0 ≤ (wrap64 (((t177 ++ t175).size : Int) - a1)) then (if (wrap64 (((t177 ++ t175).size : Int) - a1)) ≤ ((t177 ++ t175).size : Int) then (if ((t177 ++ t175).extract 0 ((wrap64 (((t177 ++ t175).size : Int) - a1)) : Int).toNat).size + 1 ≤ 9223372036854775807 then (if (((t177 ++ t175).extract 0 ((wrap64 (((t177 ++ t175).size : Int) - a1)) : Int).toNat) ++ (⟨#[46]⟩ : ByteArray)).size + ((t177 ++ t175).extract ((wrap64 (((t177 ++ t175).size : Int) - a1)) : Int).toNat (t177 ++ t175).size).size ≤ 9223372036854775807 then (rat_Decimal.j2 k2 ((((t177 ++ t175).extract 0 ((wrap64 (((t177 ++ t175).size : Int) - a1)) : Int).toNat) ++ (⟨#[46]⟩ : ByteArray)) ++ ((t177 ++ t175).extract ((wrap64 (((t177 ++ t175).size : Int) - a1)) : Int).toNat (t177 ++ t175).size)) a0_0 a0_1 a0_2 t172 t173) else (none)) else (none)) else (none)) else (none)) else (rat_Decimal.j2 k2 (t177 ++ t175) a0_0 a0_1 a0_2 t172 t173)) else (none))) = some (r1, r2) := by first | (rw [hji26] at H; exact H) | (simp only [hji26] at H ⊢; exact H)
                (try rw [hji26] at A23)
                (try rw [hji26] at A24)
                (try rw [hji26] at A25)
                have hji26_ : (if 0 < (wrap64 ((wrap64 (a1 + 1)) - (t175.size : Int))) then (wrap64 ((wrap64 (a1 + 1)) - (t175.size : Int))) else 0) = ji26 := hji26
                replace H := Option.bind_eq_some_iff.mp H
                obtain ⟨t177, A270, H⟩ := H
                replace H : (if t177.size + t175.size ≤ 9223372036854775807 then (if a1 > 0 then (if 0 ≤ (wrap64 (((t177 ++ t175).size : Int) - a1)) then (if (wrap64 (((t177 ++ t175).size : Int) - a1)) ≤ ((t177 ++ t175).size : Int) then (if ((t177 ++ t175).extract 0 ((wrap64 (((t177 ++ t175).size : Int) - a1)) : Int).toNat).size + 1 ≤ 9223372036854775807 then (if (((t177 ++ t175).extract 0 ((wrap64 (((t177 ++ t175).size : Int) - a1)) : Int).toNat) ++ (⟨#[46]⟩ : ByteArray)).size + ((t177 ++ t175).extract ((wrap64 (((t177 ++ t175).size : Int) - a1)) : Int).toNat (t177 ++ t175).size).size ≤ 9223372036854775807 then (rat_Decimal.j2 k2 ((((t177 ++ t175).extract 0 ((wrap64 (((t177 ++ t175).size : Int) - a1)) : Int).toNat) ++ (⟨#[46]⟩ : ByteArray)) ++ ((t177 ++ t175).extract ((wrap64 (((t177 ++ t175).size : Int) - a1)) : Int).toNat (t177 ++ t175).size)) a0_0 a0_1 a0_2 t172 t173) else (none)) else (none)) else (none)) else (none)) else (rat_Decimal.j2 k2 (t177 ++ t175) a0_0 a0_1 a0_2 t172 t173)) else (none)) = some (r1, r2) := H
                have A27 := Aside0.mk A270
                clear A270
                by_cases c28 : t177.size + t175.size ≤ 9223372036854775807
                · rw [if_pos c28] at H
                  have c28b0 := eq_true c28
                  have c28b1 : decide (t177.size + t175.size ≤ 9223372036854775807) = true := decide_eq_true c28
                  try have c28b2 : (9223372036854775807 < t177.size + t175.size) = False := eq_false (Nat.not_lt.2 c28)
                  have HC29 := Aside0.mk H
                  clear H
                  try go_wp2
                  replace BK163 := zD BK163; replace BK165 := zD BK165; replace HB := zF HB
                  refine start_ (n := 6) (S := fun w' => w'.cell? ⟨gb165, 0, none⟩ = some (.bool x166000_2) ∧ w'.cell? ⟨gb165, 1, none⟩ = some (.string x166001_2) ∧ w'.cell? ⟨gb163, 0, none⟩ = some (.bool a0_0) ∧ w'.cell? ⟨gb163, 1, none⟩ = some (.string a0_1) ∧ w'.cell? ⟨gb163, 2, none⟩ = some (.string a0_2)) (ds := []) #[false, false, false, false, false, false] (by kernel_rfl) rfl rfl ⟨(blk_cell BK165.out 0).trans rfl, (blk_cell BK165.out 1).trans rfl, (blk_cell BK163.out 0).trans rfl, (blk_cell BK163.out 1).trans rfl, (blk_cell BK163.out 2).trans rfl⟩ (fun hHeld => ?_)
                  generalize wr.drew = w30 at BK163 BK165 HB hHeld ⊢
                  refine take_ (i := 0) (N := some 36) (v := ?_) (a' := ?_) #[true, false, false, false, false, false] rfl rfl (by kernel_rfl) (fun _ _ _ h => h) (Or.inl ⟨by rfl, ?_⟩) hHeld ?_ ?_
                  rotate_left
                  · rintro w' ⟨s0, s1, s2, s3, s4⟩
                    go_simp
                    with_reducible rfl
                  rotate_left
                  · simp only [Act.put, List.setIfInBounds_toArray, List.set_cons_zero, List.set_cons_succ, i64_w, i32_w]
                    rfl
                  refine take_ (i := 1) (N := some 37) (v := ?_) (a' := ?_) #[true, true, false, false, false, false] rfl rfl (by kernel_rfl) (fun _ _ _ h => h) (Or.inl ⟨by rfl, ?_⟩) hHeld ?_ ?_
                  rotate_left
                  · rintro w' ⟨s0, s1, s2, s3, s4⟩
                    go_simp
                    with_reducible rfl
                  rotate_left
                  · simp only [Act.put, List.setIfInBounds_toArray, List.set_cons_zero, List.set_cons_succ, i64_w, i32_w]
                    rfl
                  refine join_ (σ := Nat) 1 #[true, true, true, true, true, false] (fun s_ => [(38, .agg #[.bool t170, .string t171]), (39, .agg #[.bool t172, .string t173]), (8, .pointer (some ⟨s_, 0, none⟩))]) (fun s_ w' => (w'.cell? ⟨gb165, 0, none⟩ = some (.bool x166000_2) ∧ w'.cell? ⟨gb165, 1, none⟩ = some (.string x166001_2) ∧ w'.cell? ⟨gb163, 0, none⟩ = some (.bool a0_0) ∧ w'.cell? ⟨gb163, 1, none⟩ = some (.string a0_1) ∧ w'.cell? ⟨gb163, 2, none⟩ = some (.string a0_2)) ∧ (w'.heap[gb163]? = some (.cells #[.bool a0_0, .string a0_1, .string a0_2] 27 (0, 0))) ∧ (w'.heap[gb165]? = some (.cells #[.bool x166000_2, .string x166001_2] 24 (0, 0))) ∧ (w'.heap[s_]? = some (.cells #[.bool false, .string (⟨#[]⟩ : ByteArray)] 24 (0, 0))) ∧ (w.heap.size ≤ s_) ∧ (w.heap.size ≤ s_) ∧ (gb163 ≠ s_) ∧ (s_ ≠ gb163) ∧ (gb165 ≠ s_) ∧ (s_ ≠ gb165) ∧ (Below w.heap.size w w')) ?_ ?_
                  rotate_left
                  · intro hCont
                    refine two_ (i := 2) (j := 4) (Ni := some 38) (Nj := some 8) #[true, true, true, false, false, false] #[true, true, false, false, true, false] rfl rfl rfl rfl (by kernel_rfl) (by decide) (by decide) (fun K hK => ?_) (fun K hK => ?_)
                    · skip
                      refine zX Tryz.func60 (by kernel_rfl) #[.agg #[.bool a0_0, .string a0_1, .string a0_2]] ?_
                      with_reducible refine (rat_den.calls a0_0 a0_1 a0_2 t170 t171 _ A23.out).mono ?_
                      rintro e w31 ⟨rfl, hb⟩; refine ⟨_, rfl, ?_⟩
                      replace BK163 := zB BK163 hb; replace BK165 := zB BK165 hb; replace HB := zS HB hb
                      (try clear hb)
                      refine hK.out _ _ ⟨(blk_cell BK165.out 0).trans rfl, (blk_cell BK165.out 1).trans rfl, (blk_cell BK163.out 0).trans rfl, (blk_cell BK163.out 1).trans rfl, (blk_cell BK163.out 2).trans rfl⟩ (fun hHeld => ?_)
                      clear hK K
                      refine zW (some 38) ?_
                      refine two_ (i := 3) (j := 4) (Ni := some 39) (Nj := some 8) #[true, true, true, true, false, false] #[true, true, true, false, true, false] rfl rfl rfl rfl (by kernel_rfl) (by decide) (by decide) (fun K hK => ?_) (fun K hK => ?_)
                      · skip
                        refine zX Tryz.func59 (by kernel_rfl) #[.agg #[.bool x166000_2, .string x166001_2], .agg #[.bool t170, .string t171]] ?_
                        with_reducible refine (rat_rounded.calls k2 x166000_2 x166001_2 t170 t171 t172 t173 _ A24.out).mono ?_
                        rintro e w32 ⟨rfl, hb⟩; refine ⟨_, rfl, ?_⟩
                        replace BK163 := zB BK163 hb; replace BK165 := zB BK165 hb; replace HB := zS HB hb
                        (try clear hb)
                        refine hK.out _ _ ⟨(blk_cell BK165.out 0).trans rfl, (blk_cell BK165.out 1).trans rfl, (blk_cell BK163.out 0).trans rfl, (blk_cell BK163.out 1).trans rfl, (blk_cell BK163.out 2).trans rfl⟩ (fun hHeld => ?_)
                        clear hK K
                        refine zW (some 39) ?_
                        refine one_ (i := 4) (N := some 8) #[true, true, true, true, true, false] rfl rfl (by kernel_rfl) (by decide) (fun K hK => ?_)
                        refine box_step ?hg (N := 8) ?hd (cs := #[.bool false, .string (⟨#[]⟩ : ByteArray)]) (t := 24) ?hr ?_; (case hd => rfl); (case hg => rfl); (case hr => first | (go_simp; done) | (go_simp; rfl))
                        intro gb174 hg w33 hbox hb
                        have BK174 := Aside0.mk (hbox); have GW174 := zG hg HB; have GE174 := zG hg HB; have NB163_174 := zN hg BK163; have NB174_163 := zM hg BK163; have NB165_174 := zN hg BK165; have NB174_165 := zM hg BK165; replace BK163 := zB BK163 hb; replace BK165 := zB BK165 hb; replace HB := zS HB hb; clear hb hbox hg
                        refine hK.out _ _ ⟨(blk_cell BK165.out 0).trans rfl, (blk_cell BK165.out 1).trans rfl, (blk_cell BK163.out 0).trans rfl, (blk_cell BK163.out 1).trans rfl, (blk_cell BK163.out 2).trans rfl⟩ (fun hHeld => ?_)
                        clear hK K
                        refine zW (some 8) ?_
                        exact norm_ (by simp only [putAll, Act.put, List.setIfInBounds_toArray, List.set_cons_zero, List.set_cons_succ]) (hCont (gb174) _ ⟨hHeld, (by (with_reducible repeat (first | refine blk_drewN ?_ _ | refine blk_drew ?_ | refine blk_alloc ?_ _)); exact BK163.out), (by (with_reducible repeat (first | refine blk_drewN ?_ _ | refine blk_drew ?_ | refine blk_alloc ?_ _)); exact BK165.out), (by (with_reducible repeat (first | refine blk_drewN ?_ _ | refine blk_drew ?_ | refine blk_alloc ?_ _)); exact BK174.out), GW174.out, GE174.out, NB163_174.out, NB174_163.out, NB165_174.out, NB174_165.out, (zT HB)⟩)
                      · skip
                        refine box_step ?hg (N := 8) ?hd (cs := #[.bool false, .string (⟨#[]⟩ : ByteArray)]) (t := 24) ?hr ?_; (case hd => rfl); (case hg => rfl); (case hr => first | (go_simp; done) | (go_simp; rfl))
                        intro gb174 hg w32 hbox hb
                        have BK174 := Aside0.mk (hbox); have GW174 := zG hg HB; have GE174 := zG hg HB; have NB163_174 := zN hg BK163; have NB174_163 := zM hg BK163; have NB165_174 := zN hg BK165; have NB174_165 := zM hg BK165; replace BK163 := zB BK163 hb; replace BK165 := zB BK165 hb; replace HB := zS HB hb; clear hb hbox hg
                        refine hK.out _ _ ⟨(blk_cell BK165.out 0).trans rfl, (blk_cell BK165.out 1).trans rfl, (blk_cell BK163.out 0).trans rfl, (blk_cell BK163.out 1).trans rfl, (blk_cell BK163.out 2).trans rfl⟩ (fun hHeld => ?_)
                        clear hK K
                        refine zW (some 8) ?_
                        refine one_ (i := 3) (N := some 39) #[true, true, true, true, true, false] rfl rfl (by kernel_rfl) (by decide) (fun K hK => ?_)
                        refine zX Tryz.func59 (by kernel_rfl) #[.agg #[.bool x166000_2, .string x166001_2], .agg #[.bool t170, .string t171]] ?_
                        with_reducible refine (rat_rounded.calls k2 x166000_2 x166001_2 t170 t171 t172 t173 _ A24.out).mono ?_
                        rintro e w33 ⟨rfl, hb⟩; refine ⟨_, rfl, ?_⟩
                        replace BK163 := zB BK163 hb; replace BK165 := zB BK165 hb; replace BK174 := zB BK174 hb; replace HB := zS HB hb
                        (try clear hb)
                        refine hK.out _ _ ⟨(blk_cell BK165.out 0).trans rfl, (blk_cell BK165.out 1).trans rfl, (blk_cell BK163.out 0).trans rfl, (blk_cell BK163.out 1).trans rfl, (blk_cell BK163.out 2).trans rfl⟩ (fun hHeld => ?_)
                        clear hK K
                        refine zW (some 39) ?_
                        exact norm_ (by simp only [putAll, Act.put, List.setIfInBounds_toArray, List.set_cons_zero, List.set_cons_succ]) (hCont (gb174) _ ⟨hHeld, (by (with_reducible repeat (first | refine blk_drewN ?_ _ | refine blk_drew ?_ | refine blk_alloc ?_ _)); exact BK163.out), (by (with_reducible repeat (first | refine blk_drewN ?_ _ | refine blk_drew ?_ | refine blk_alloc ?_ _)); exact BK165.out), (by (with_reducible repeat (first | refine blk_drewN ?_ _ | refine blk_drew ?_ | refine blk_alloc ?_ _)); exact BK174.out), GW174.out, GE174.out, NB163_174.out, NB174_163.out, NB165_174.out, NB174_165.out, (zT HB)⟩)
                    · skip
                      refine box_step ?hg (N := 8) ?hd (cs := #[.bool false, .string (⟨#[]⟩ : ByteArray)]) (t := 24) ?hr ?_; (case hd => rfl); (case hg => rfl); (case hr => first | (go_simp; done) | (go_simp; rfl))
                      intro gb174 hg w31 hbox hb
                      have BK174 := Aside0.mk (hbox); have GW174 := zG hg HB; have GE174 := zG hg HB; have NB163_174 := zN hg BK163; have NB174_163 := zM hg BK163; have NB165_174 := zN hg BK165; have NB174_165 := zM hg BK165; replace BK163 := zB BK163 hb; replace BK165 := zB BK165 hb; replace HB := zS HB hb; clear hb hbox hg
                      refine hK.out _ _ ⟨(blk_cell BK165.out 0).trans rfl, (blk_cell BK165.out 1).trans rfl, (blk_cell BK163.out 0).trans rfl, (blk_cell BK163.out 1).trans rfl, (blk_cell BK163.out 2).trans rfl⟩ (fun hHeld => ?_)
                      clear hK K
                      refine zW (some 8) ?_
                      refine one_ (i := 2) (N := some 38) #[true, true, true, false, true, false] rfl rfl (by kernel_rfl) (by decide) (fun K hK => ?_)
                      refine zX Tryz.func60 (by kernel_rfl) #[.agg #[.bool a0_0, .string a0_1, .string a0_2]] ?_
                      with_reducible refine (rat_den.calls a0_0 a0_1 a0_2 t170 t171 _ A23.out).mono ?_
                      rintro e w32 ⟨rfl, hb⟩; refine ⟨_, rfl, ?_⟩
                      replace BK163 := zB BK163 hb; replace BK165 := zB BK165 hb; replace BK174 := zB BK174 hb; replace HB := zS HB hb
                      (try clear hb)
                      refine hK.out _ _ ⟨(blk_cell BK165.out 0).trans rfl, (blk_cell BK165.out 1).trans rfl, (blk_cell BK163.out 0).trans rfl, (blk_cell BK163.out 1).trans rfl, (blk_cell BK163.out 2).trans rfl⟩ (fun hHeld => ?_)
                      clear hK K
                      refine zW (some 38) ?_
                      refine one_ (i := 3) (N := some 39) #[true, true, true, true, true, false] rfl rfl (by kernel_rfl) (by decide) (fun K hK => ?_)
                      refine zX Tryz.func59 (by kernel_rfl) #[.agg #[.bool x166000_2, .string x166001_2], .agg #[.bool t170, .string t171]] ?_
                      with_reducible refine (rat_rounded.calls k2 x166000_2 x166001_2 t170 t171 t172 t173 _ A24.out).mono ?_
                      rintro e w33 ⟨rfl, hb⟩; refine ⟨_, rfl, ?_⟩
                      replace BK163 := zB BK163 hb; replace BK165 := zB BK165 hb; replace BK174 := zB BK174 hb; replace HB := zS HB hb
                      (try clear hb)
                      refine hK.out _ _ ⟨(blk_cell BK165.out 0).trans rfl, (blk_cell BK165.out 1).trans rfl, (blk_cell BK163.out 0).trans rfl, (blk_cell BK163.out 1).trans rfl, (blk_cell BK163.out 2).trans rfl⟩ (fun hHeld => ?_)
                      clear hK K
                      refine zW (some 39) ?_
                      exact norm_ (by simp only [putAll, Act.put, List.setIfInBounds_toArray, List.set_cons_zero, List.set_cons_succ]) (hCont (gb174) _ ⟨hHeld, (by (with_reducible repeat (first | refine blk_drewN ?_ _ | refine blk_drew ?_ | refine blk_alloc ?_ _)); exact BK163.out), (by (with_reducible repeat (first | refine blk_drewN ?_ _ | refine blk_drew ?_ | refine blk_alloc ?_ _)); exact BK165.out), (by (with_reducible repeat (first | refine blk_drewN ?_ _ | refine blk_drew ?_ | refine blk_alloc ?_ _)); exact BK174.out), GW174.out, GE174.out, NB163_174.out, NB174_163.out, NB165_174.out, NB174_165.out, (zT HB)⟩)
                  rintro gb174 w34 ⟨hS_, h0_, h1_, h2_, h3_, h4_, h5_, h6_, h7_, h8_, h9_⟩
                  have n0_ : Aside0 (w34.heap[gb163]? = some (.cells #[.bool a0_0, .string a0_1, .string a0_2] 27 (0, 0))) := ⟨h0_⟩; have n1_ : Aside0 (w34.heap[gb165]? = some (.cells #[.bool x166000_2, .string x166001_2] 24 (0, 0))) := ⟨h1_⟩; have n2_ : Aside0 (w34.heap[gb174]? = some (.cells #[.bool false, .string (⟨#[]⟩ : ByteArray)] 24 (0, 0))) := ⟨h2_⟩; have n3_ : Aside0 (w.heap.size ≤ gb174) := ⟨h3_⟩; have n4_ : Aside0 (w.heap.size ≤ gb174) := ⟨h4_⟩; have n5_ : Aside0 (gb163 ≠ gb174) := ⟨h5_⟩; have n6_ : Aside0 (gb174 ≠ gb163) := ⟨h6_⟩; have n7_ : Aside0 (gb165 ≠ gb174) := ⟨h7_⟩; have n8_ : Aside0 (gb174 ≠ gb165) := ⟨h8_⟩; have n9_ : Aside0 (Below w.heap.size w w34) := ⟨h9_⟩; clear BK163; clear BK165; clear HB; clear h0_ h1_ h2_ h3_ h4_ h5_ h6_ h7_ h8_ h9_; have BK163 := n0_; have BK165 := n1_; have BK174 := n2_; have GW174 := n3_; have GE174 := n4_; have NB163_174 := n5_; have NB174_163 := n6_; have NB165_174 := n7_; have NB174_165 := n8_; have HB := n9_; clear n0_ n1_ n2_ n3_ n4_ n5_ n6_ n7_ n8_ n9_
                  have hHeld : w34.cell? ⟨gb165, 0, none⟩ = some (.bool x166000_2) ∧ w34.cell? ⟨gb165, 1, none⟩ = some (.string x166001_2) ∧ w34.cell? ⟨gb163, 0, none⟩ = some (.bool a0_0) ∧ w34.cell? ⟨gb163, 1, none⟩ = some (.string a0_1) ∧ w34.cell? ⟨gb163, 2, none⟩ = some (.string a0_2) := hS_
                  refine norm_ (a' := ?_) ?_ ?_
                  rotate_left
                  · simp only [putAll, Act.put, List.setIfInBounds_toArray, List.set_cons_zero, List.set_cons_succ]
                    rfl
                  refine one_ (i := 5) (N := none) #[true, true, true, true, true, true] rfl rfl (by kernel_rfl) (by decide) (fun K hK => ?_)
                  have hs35 : w34.cell? ⟨gb174, 0, none⟩ = some (.bool false) := (blk_cell BK174.out 0).trans rfl
                  have hfs35 := blk_frozen BK174.out 0
                  have hns35_0 := NB163_174.out
                  have hns35_1 := NB165_174.out
                  have hms35_0 := NB174_163.out
                  have hms35_1 := NB174_165.out
                  have hs36 : w34.cell? ⟨gb174, 1, none⟩ = some (.string (⟨#[]⟩ : ByteArray)) := (blk_cell BK174.out 1).trans rfl
                  have hfs36 := blk_frozen BK174.out 1
                  have hns36_0 := NB163_174.out
                  have hns36_1 := NB165_174.out
                  have hms36_0 := NB174_163.out
                  have hms36_1 := NB174_165.out
                  refine skip_ (w1 := ?_) (by rfl) rfl ?_ ?_
                  rotate_left
                  · go_simp
                    rfl
                  refine hK.out _ _ ⟨((cell_far (p := ⟨gb174, _, none⟩) NB165_174.out _).trans (((cell_far (p := ⟨gb174, _, none⟩) NB165_174.out _).trans (hHeld.1)))), ((cell_far (p := ⟨gb174, _, none⟩) NB165_174.out _).trans (((cell_far (p := ⟨gb174, _, none⟩) NB165_174.out _).trans (hHeld.2.1)))), ((cell_far (p := ⟨gb174, _, none⟩) NB163_174.out _).trans (((cell_far (p := ⟨gb174, _, none⟩) NB163_174.out _).trans (hHeld.2.2.1)))), ((cell_far (p := ⟨gb174, _, none⟩) NB163_174.out _).trans (((cell_far (p := ⟨gb174, _, none⟩) NB163_174.out _).trans (hHeld.2.2.2.1)))), ((cell_far (p := ⟨gb174, _, none⟩) NB163_174.out _).trans (((cell_far (p := ⟨gb174, _, none⟩) NB163_174.out _).trans (hHeld.2.2.2.2))))⟩ (fun hHeld => ?_)
                  clear hK K
                  refine done_ (by kernel_rfl) ?_
                  have hnb37 := NB174_163.out; have hnc37 := NB163_174.out; have hnb38 := NB174_165.out; have hnc38 := NB165_174.out; obtain ⟨hcz39_0, hcz39_1, hfz39_0, hfz39_1⟩ := z2 BK174
                  go_upto_if 55 with (first | ((with_reducible refine gate_callee (f := 61) rfl ?_); refine zC Tryz.func61 (by kernel_rfl) #[.agg #[.bool t172, .string t173]] ?_; (with_reducible refine (whole_Print.calls t172 t173 t175 t176 _ A25.out).mono ?_); rintro e w40 ⟨rfl, hb⟩; refine ⟨_, rfl, ?_⟩; replace BK163 := Aside0.mk (blk_below (g := gb163) (o := .cells #[.bool a0_0, .string a0_1, .string a0_2] 27 (0, 0)) (by (with_reducible repeat (first | refine blk_drewN ?_ _ | refine blk_drew ?_ | refine blk_alloc ?_ _)); refine blk_far ?_ NB163_174.out _; (with_reducible repeat (first | refine blk_drewN ?_ _ | refine blk_drew ?_ | refine blk_alloc ?_ _)); refine blk_far ?_ NB163_174.out _; (with_reducible repeat (first | refine blk_drewN ?_ _ | refine blk_drew ?_ | refine blk_alloc ?_ _)); exact BK163.out) hb); replace BK165 := Aside0.mk (blk_below (g := gb165) (o := .cells #[.bool x166000_2, .string x166001_2] 24 (0, 0)) (by (with_reducible repeat (first | refine blk_drewN ?_ _ | refine blk_drew ?_ | refine blk_alloc ?_ _)); refine blk_far ?_ NB165_174.out _; (with_reducible repeat (first | refine blk_drewN ?_ _ | refine blk_drew ?_ | refine blk_alloc ?_ _)); refine blk_far ?_ NB165_174.out _; (with_reducible repeat (first | refine blk_drewN ?_ _ | refine blk_drew ?_ | refine blk_alloc ?_ _)); exact BK165.out) hb); replace BK174 := Aside0.mk (blk_below (g := gb174) (o := .cells #[.bool t172, .string t173] 24 (0, 0)) (by (with_reducible repeat (first | refine blk_drewN ?_ _ | refine blk_drew ?_ | refine blk_alloc ?_ _)); refine zP (cs := #[.bool t172, .string (⟨#[]⟩ : ByteArray)]) ?_ 1 _; (with_reducible repeat (first | refine blk_drewN ?_ _ | refine blk_drew ?_ | refine blk_alloc ?_ _)); refine zP (cs := #[.bool false, .string (⟨#[]⟩ : ByteArray)]) ?_ 0 _; (with_reducible repeat (first | refine blk_drewN ?_ _ | refine blk_drew ?_ | refine blk_alloc ?_ _)); exact BK174.out) hb); replace HB := zS HB hb; (try clear hb)) | ((with_reducible refine gate_callee (f := 62) rfl ?_); refine goesL_ (some 51) rfl rfl Tryz.func62 (by kernel_rfl) rfl #[.string (⟨#[48]⟩ : ByteArray), .int .i64 ji26] rfl (by (try simp only [List.map_toArray, List.map_cons, List.map_nil]); first | done | (simp only [hji26]; rfl) | rfl | (simp only [List.length_drop, List.length_take]; rfl)) ?_; (with_reducible refine (strings_Repeat.calls (⟨#[48]⟩ : ByteArray) ji26 t177 _ A27.out).mono ?_); rintro e w41 ⟨rfl, hb⟩; refine ⟨_, rfl, ?_⟩; replace BK163 := zB BK163 hb; replace BK165 := zB BK165 hb; replace BK174 := zB BK174 hb; replace HB := zS HB hb; (try clear hb)))
                  (try simp only [Act.put, List.setIfInBounds_toArray, List.set_cons_zero, List.set_cons_succ])
                  go_cut [9] (fun v9 wc => ∃ (kq : Nat) (x9_28 : ByteArray), v9 = .string x9_28 ∧ Aside0 (rat_Decimal.j2 kq x9_28 a0_0 a0_1 a0_2 t172 t173 = some (r1, r2)) ∧ Aside0 (kq ≤ k2) ∧ Aside0 (wc.heap[gb163]? = some (.cells #[.bool a0_0, .string a0_1, .string a0_2] 27 (0, 0))) ∧ Aside0 (wc.heap[gb165]? = some (.cells #[.bool x166000_2, .string x166001_2] 24 (0, 0))) ∧ Aside0 (wc.heap[gb174]? = some (.cells #[.bool t172, .string t173] 24 (0, 0))) ∧ Aside0 (Below w.heap.size w wc))
                  case first =>
                    have H := HC29.out
                    clear HC29
                    by_cases c42 : a1 > 0
                    · rw [if_pos c42] at H
                      have c42b0 : decide (0 < a1) = true := decide_eq_true c42
                      clear c42
                      (first | rw [c42b0] | (simp only [i64_w, i32_w]; rw [c42b0]) | skip)
                      obtain ⟨ji43, hji43⟩ : ∃ j_ : Int, (wrap64 (((t177 ++ t175).size : Int) - a1)) = j_ := ⟨_, rfl⟩
                      replace H : (if 0 ≤ (ji43) then (if (ji43) ≤ ((t177 ++ t175).size : Int) then (if ((t177 ++ t175).extract 0 ((ji43) : Int).toNat).size + 1 ≤ 9223372036854775807 then (if (((t177 ++ t175).extract 0 ((ji43) : Int).toNat) ++ (⟨#[46]⟩ : ByteArray)).size + ((t177 ++ t175).extract ((ji43) : Int).toNat (t177 ++ t175).size).size ≤ 9223372036854775807 then (rat_Decimal.j2 k2 ((((t177 ++ t175).extract 0 ((ji43) : Int).toNat) ++ (⟨#[46]⟩ : ByteArray)) ++ ((t177 ++ t175).extract ((ji43) : Int).toNat (t177 ++ t175).size)) a0_0 a0_1 a0_2 t172 t173) else (none)) else (none)) else (none)) else (none)) = some (r1, r2) := by first | (rw [hji43] at H; exact H) | (simp only [hji43] at H ⊢; exact H)
                      have hji43w : (IntKind.i64.wrap (((t177 ++ t175).size : Int) - a1)) = ji43 := (i64_w _).trans hji43
                      have hji43y : (IntKind.i64.wrap ((t177.size : Int) + (t175.size : Int) - a1)) = ji43 := by have h_ := hji43w; rw [ByteArray.size_append, Int.natCast_add] at h_; exact h_
                      have hji43z : (wrap64 ((t177.size : Int) + (t175.size : Int) - a1)) = ji43 := by have h_ := hji43; rw [ByteArray.size_append, Int.natCast_add] at h_; exact h_
                      by_cases c44 : 0 ≤ (ji43)
                      · rw [if_pos c44] at H
                        have c44b0 := eq_true c44
                        have c44b1 : decide (0 ≤ (ji43)) = true := decide_eq_true c44
                        clear c44
                        by_cases c45 : (ji43) ≤ ((t177 ++ t175).size : Int)
                        · rw [if_pos c45] at H
                          have c45b0 := eq_true c45
                          have c45b1 : decide ((ji43) ≤ ((t177 ++ t175).size : Int)) = true := decide_eq_true c45
                          by_cases c46 : ((t177 ++ t175).extract 0 ((ji43) : Int).toNat).size + 1 ≤ 9223372036854775807
                          · rw [if_pos c46] at H
                            have c46b0 := eq_true c46
                            have c46b1 : decide (((t177 ++ t175).extract 0 ((ji43) : Int).toNat).size + 1 ≤ 9223372036854775807) = true := decide_eq_true c46
                            try have c46b2 : (9223372036854775807 < ((t177 ++ t175).extract 0 ((ji43) : Int).toNat).size + 1) = False := eq_false (Nat.not_lt.2 c46)
                            have c47b0 := eq_true (of_decide_eq_true (by first | (with_reducible assumption) | assumption) : 0 ≤ (ji43))
                            have c48b0 := eq_true (of_decide_eq_true (by first | (with_reducible assumption) | assumption) : (ji43) ≤ ((t177 ++ t175).size : Int))
                            have c46y : (9223372036854775807 < ji43.toNat + 1) = False := eq_false (by have h_ := of_eq_true c46b0; have g_ := of_eq_true c48b0; rw [ByteArray.size_extract] at h_; omega)
                            have c48b0y : ((ji43) ≤ (t177.size : Int) + (t175.size : Int)) = True := eq_true (by have h_ := of_eq_true c48b0; rw [ByteArray.size_append, Int.natCast_add] at h_; exact h_)
                            by_cases c49 : (((t177 ++ t175).extract 0 ((ji43) : Int).toNat) ++ (⟨#[46]⟩ : ByteArray)).size + ((t177 ++ t175).extract ((ji43) : Int).toNat (t177 ++ t175).size).size ≤ 9223372036854775807
                            · rw [if_pos c49] at H
                              have c49b0 := eq_true c49
                              have c49b1 : decide ((((t177 ++ t175).extract 0 ((ji43) : Int).toNat) ++ (⟨#[46]⟩ : ByteArray)).size + ((t177 ++ t175).extract ((ji43) : Int).toNat (t177 ++ t175).size).size ≤ 9223372036854775807) = true := decide_eq_true c49
                              try have c49b2 : (9223372036854775807 < (((t177 ++ t175).extract 0 ((ji43) : Int).toNat) ++ (⟨#[46]⟩ : ByteArray)).size + ((t177 ++ t175).extract ((ji43) : Int).toNat (t177 ++ t175).size).size) = False := eq_false (Nat.not_lt.2 c49)
                              have c49y : (9223372036854775807 < ji43.toNat + 1 + (t177.size + t175.size - ji43.toNat)) = False := eq_false (by have h_ := of_eq_true c49b0; have g_ := of_eq_true c48b0; have e_ : (⟨#[46]⟩ : ByteArray).size = 1 := rfl; simp only [ByteArray.size_append, ByteArray.size_extract, e_, Int.natCast_add] at h_ g_; omega)
                              have H' := Aside0.mk H
                              clear H
                              try go_wp2
                              replace BK163 := zD BK163; replace BK165 := zD BK165; replace BK174 := zD BK174; replace HB := zF HB
                              refine start_ (n := 9) (S := fun w' => True) (ds := []) #[false, false, false, false, false, false, false, false, false] (by kernel_rfl) rfl rfl trivial (fun hHeld => ?_); refine with_tabW rat_Decimal.tab16 rat_Decimal.bits16 (fun HT_ HW_ => ?_)
                              generalize w41.drew = w50 at BK163 BK165 BK174 HB hHeld ⊢
                              refine zU (i := 0) (N := some 60) #[true, false, false, false, false, false, false, false, false] (any_of HT_.out (by kernel_rfl)) ?_
                              refine zU (i := 1) (N := some 61) #[true, true, false, false, false, false, false, false, false] (any_of HT_.out (by kernel_rfl)) ?_
                              refine zU (i := 2) (N := some 62) #[true, true, true, false, false, false, false, false, false] (any_of HT_.out (by kernel_rfl)) ?_
                              refine zU (i := 3) (N := some 63) #[true, true, true, true, false, false, false, false, false] (any_of HT_.out (by kernel_rfl)) ?_
                              refine zU (i := 4) (N := some 64) #[true, true, true, true, true, false, false, false, false] (any_of HT_.out (by kernel_rfl)) ?_
                              refine zU (i := 5) (N := some 65) #[true, true, true, true, true, true, false, false, false] (any_of HT_.out (by kernel_rfl)) ?_
                              refine zU (i := 6) (N := some 66) #[true, true, true, true, true, true, true, false, false] (any_of HT_.out (by kernel_rfl)) ?_
                              refine zU (i := 7) (N := some 67) #[true, true, true, true, true, true, true, true, false] (any_of HT_.out (by kernel_rfl)) ?_
                              refine zU (i := 8) (N := some 9) #[true, true, true, true, true, true, true, true, true] (any_of HT_.out (by kernel_rfl)) ?_
                              refine done_ (done_of HT_.out (by kernel_rfl)) ?_
                              try go_wp2
                              go_meet
                              case rel => exact ⟨_, ((((t177 ++ t175).extract 0 ((ji43) : Int).toNat) ++ (⟨#[46]⟩ : ByteArray)) ++ ((t177 ++ t175).extract ((ji43) : Int).toNat (t177 ++ t175).size)), (by first | rfl | (simp; done) | (simp only [← hji43] <;> (first | rfl | simp)) | (simp [*]; done)), H', ⟨by have := HJ4.out; have := HK2.out; first | omega | exact Nat.le_refl _⟩, ⟨by (with_reducible repeat (first | refine blk_drewN ?_ _ | refine blk_drew ?_ | refine blk_alloc ?_ _)); exact BK163.out⟩, ⟨by (with_reducible repeat (first | refine blk_drewN ?_ _ | refine blk_drew ?_ | refine blk_alloc ?_ _)); exact BK165.out⟩, ⟨by (with_reducible repeat (first | refine blk_drewN ?_ _ | refine blk_drew ?_ | refine blk_alloc ?_ _)); exact BK174.out⟩, ⟨zT HB⟩⟩
                            · rw [if_neg c49] at H
                              exact absurd H (by simp)
                          · rw [if_neg c46] at H
                            exact absurd H (by simp)
                        · rw [if_neg c45] at H
                          exact absurd H (by simp)
                      · rw [if_neg c44] at H
                        exact absurd H (by simp)
                    · rw [if_neg c42] at H
                      have c42b0 : decide (0 < a1) = false := decide_eq_false c42
                      clear c42
                      (first | rw [c42b0] | (simp only [i64_w, i32_w]; rw [c42b0]) | skip)
                      have H' := Aside0.mk H
                      clear H
                      go_wp2
                      go_meet
                      case rel => exact ⟨_, (t177 ++ t175), (by first | rfl | (simp; done) | (simp [zne]; done) | (simp [*]; done)), H', ⟨by have := HJ4.out; have := HK2.out; first | omega | exact Nat.le_refl _⟩, ⟨by (with_reducible repeat (first | refine blk_drewN ?_ _ | refine blk_drew ?_ | refine blk_alloc ?_ _)); exact BK163.out⟩, ⟨by (with_reducible repeat (first | refine blk_drewN ?_ _ | refine blk_drew ?_ | refine blk_alloc ?_ _)); exact BK165.out⟩, ⟨by (with_reducible repeat (first | refine blk_drewN ?_ _ | refine blk_drew ?_ | refine blk_alloc ?_ _)); exact BK174.out⟩, ⟨zT HB⟩⟩
                  case rest =>
                    clear HC29
                    try clear c1
                    try clear c2
                    try clear p2
                    try clear c3
                    try clear c4
                    try clear c5
                    try clear c6
                    try clear p6
                    try clear c9
                    try clear c15
                    try clear c15b0
                    try clear c28
                    try clear c28b0
                    try clear c28b1
                    try clear c28b2
                    try clear c37
                    try clear c38
                    try clear c42
                    try clear c42b0
                    try clear c44
                    try clear c44b0
                    try clear c44b1
                    try clear c45
                    try clear c45b0
                    try clear c45b1
                    try clear c46
                    try clear c46b0
                    try clear c46b1
                    try clear c46b2
                    try clear c47
                    try clear c47b0
                    try clear c48
                    try clear c48b0
                    try clear c49
                    try clear c49b0
                    try clear c49b1
                    try clear c49b2
                    try clear hcz39_0
                    try clear hcz39_1
                    try clear hfz39_0
                    try clear hfz39_1
                    obtain ⟨kq, x9_28, rfl, HA, HJ28, BK163, BK165, BK174, HB⟩ := hcut
                    cases kq with
                    | zero => exact absurd HA.out (by simp [rat_Decimal.j2])
                    | succ kj28 =>
                      have H := HA.out
                      clear HA
                      simp only [rat_Decimal.j2] at H
                      have HC51 := Aside0.mk H
                      clear H
                      go_upto_region 17 with (fail)
                      go_cut [75] (fun v75 wc => ∃ (kq : Nat) (x75_50 : Bool), v75 = .bool x75_50 ∧ Aside0 (rat_Decimal.j3 kq x9_28 x75_50 = some (r1, r2)) ∧ Aside0 (kq ≤ kj28) ∧ Aside0 (wc.heap[gb163]? = some (.cells #[.bool a0_0, .string a0_1, .string a0_2] 27 (0, 0))) ∧ Aside0 (wc.heap[gb165]? = some (.cells #[.bool x166000_2, .string x166001_2] 24 (0, 0))) ∧ Aside0 (wc.heap[gb174]? = some (.cells #[.bool t172, .string t173] 24 (0, 0))) ∧ Aside0 (Below w.heap.size w wc))
                      case first =>
                        have H := HC51.out
                        clear HC51
                        by_cases c52 : a0_0 = true
                        · subst c52
                          have H1 : (rat_Decimal.j3 kj28 x9_28 (t173.toList != ([] : List UInt8))) = some (r1, r2) := by rw [if_pos rfl] at H; exact H
                          clear H
                          have H := H1
                          clear H1
                          have H' := Aside0.mk H
                          clear H; have hnb53 := NB163_165.out; have hnc53 := NB165_163.out; have hnb54 := NB163_174.out; have hnc54 := NB174_163.out; obtain ⟨hcz55_0, hcz55_1, hcz55_2, hfz55_0, hfz55_1, hfz55_2⟩ := z3 BK163; have hnb56 := NB174_165.out; have hnc56 := NB165_174.out; obtain ⟨hcz57_0, hcz57_1, hfz57_0, hfz57_1⟩ := z2 BK174
                          go_wp2
                          go_meet
                          case rel => exact ⟨_, ((t173.toList != ([] : List UInt8))), (by first | rfl | (simp; done) | (simp [zne]; done) | (simp [*]; done)), H', ⟨by have := HJ4.out; have := HK2.out; have := HJ28.out; first | omega | exact Nat.le_refl _⟩, ⟨by (with_reducible repeat (first | refine blk_drewN ?_ _ | refine blk_drew ?_ | refine blk_alloc ?_ _)); exact BK163.out⟩, ⟨by (with_reducible repeat (first | refine blk_drewN ?_ _ | refine blk_drew ?_ | refine blk_alloc ?_ _)); exact BK165.out⟩, ⟨by (with_reducible repeat (first | refine blk_drewN ?_ _ | refine blk_drew ?_ | refine blk_alloc ?_ _)); exact BK174.out⟩, ⟨zT HB⟩⟩
                        · replace c52 := Bool.eq_false_iff.mpr c52
                          subst c52
                          have H1 : (rat_Decimal.j3 kj28 x9_28 false) = some (r1, r2) := by rw [if_neg (show ¬ (false = true) by decide)] at H; exact H
                          clear H
                          have H := H1
                          clear H1
                          have H' := Aside0.mk H
                          clear H; have hnb58 := NB163_165.out; have hnc58 := NB165_163.out; have hnb59 := NB163_174.out; have hnc59 := NB174_163.out; obtain ⟨hcz60_0, hcz60_1, hcz60_2, hfz60_0, hfz60_1, hfz60_2⟩ := z3 BK163
                          go_wp2
                          go_meet
                          case rel => exact ⟨_, (false), (by first | rfl | (simp; done) | (simp [zne]; done) | (simp [*]; done)), H', ⟨by have := HJ4.out; have := HK2.out; have := HJ28.out; first | omega | exact Nat.le_refl _⟩, ⟨by (with_reducible repeat (first | refine blk_drewN ?_ _ | refine blk_drew ?_ | refine blk_alloc ?_ _)); exact BK163.out⟩, ⟨by (with_reducible repeat (first | refine blk_drewN ?_ _ | refine blk_drew ?_ | refine blk_alloc ?_ _)); exact BK165.out⟩, ⟨by (with_reducible repeat (first | refine blk_drewN ?_ _ | refine blk_drew ?_ | refine blk_alloc ?_ _)); exact BK174.out⟩, ⟨zT HB⟩⟩
                      case rest =>
                        clear HC51
                        try clear c1
                        try clear c2
                        try clear p2
                        try clear c3
                        try clear c4
                        try clear c5
                        try clear c6
                        try clear p6
                        try clear c9
                        try clear c15
                        try clear c15b0
                        try clear c28
                        try clear c28b0
                        try clear c28b1
                        try clear c28b2
                        try clear c37
                        try clear c38
                        try clear c42
                        try clear c42b0
                        try clear c44
                        try clear c44b0
                        try clear c44b1
                        try clear c45
                        try clear c45b0
                        try clear c45b1
                        try clear c46
                        try clear c46b0
                        try clear c46b1
                        try clear c46b2
                        try clear c47
                        try clear c47b0
                        try clear c48
                        try clear c48b0
                        try clear c49
                        try clear c49b0
                        try clear c49b1
                        try clear c49b2
                        try clear c52
                        try clear c53
                        try clear c54
                        try clear c56
                        try clear c58
                        try clear c59
                        try clear c60
                        try clear hcz39_0
                        try clear hcz39_1
                        try clear hcz55_0
                        try clear hcz55_1
                        try clear hcz55_2
                        try clear hcz57_0
                        try clear hcz57_1
                        try clear hcz60_0
                        try clear hcz60_1
                        try clear hcz60_2
                        try clear hfz39_0
                        try clear hfz39_1
                        try clear hfz55_0
                        try clear hfz55_1
                        try clear hfz55_2
                        try clear hfz57_0
                        try clear hfz57_1
                        try clear hfz60_0
                        try clear hfz60_1
                        try clear hfz60_2
                        try clear p2
                        try clear p6
                        obtain ⟨kq, x75_50, rfl, HA, HJ50, BK163, BK165, BK174, HB⟩ := hcut
                        cases kq with
                        | zero => exact absurd HA.out (by simp [rat_Decimal.j3])
                        | succ kj50 =>
                          have H := HA.out
                          clear HA
                          simp only [rat_Decimal.j3] at H
                          by_cases c61 : x75_50 = true
                          · subst c61
                            have H1 : (if 1 + x9_28.size ≤ 9223372036854775807 then (some ((⟨#[45]⟩ : ByteArray) ++ x9_28, 0)) else (none)) = some (r1, r2) := by rw [if_pos rfl] at H; exact H
                            clear H
                            have H := H1
                            clear H1
                            by_cases c62 : 1 + x9_28.size ≤ 9223372036854775807
                            · rw [if_pos c62] at H
                              have c62b0 := eq_true c62
                              have c62b1 : decide (1 + x9_28.size ≤ 9223372036854775807) = true := decide_eq_true c62
                              try have c62b2 : (9223372036854775807 < 1 + x9_28.size) = False := eq_false (Nat.not_lt.2 c62)
                              simp only [Option.some.injEq, Prod.mk.injEq] at H
                              obtain ⟨rfl, rfl⟩ := H
                              go_wp2
                              go_ret2
                              exact ⟨by first | rfl | (simp [errW_none, errW_some] <;> rfl) | (simp only [← hji26]; first | rfl | (simp [errW_none, errW_some] <;> rfl)) | (simp [*, errW_none, errW_some] <;> rfl), zT HB⟩
                            · rw [if_neg c62] at H
                              exact absurd H (by simp)
                          · replace c61 := Bool.eq_false_iff.mpr c61
                            subst c61
                            have H1 : (some (x9_28, 0)) = some (r1, r2) := by rw [if_neg (show ¬ (false = true) by decide)] at H; exact H
                            clear H
                            have H := H1
                            clear H1
                            simp only [Option.some.injEq, Prod.mk.injEq] at H
                            obtain ⟨rfl, rfl⟩ := H
                            go_wp2
                            go_ret2
                            exact ⟨by first | rfl | (simp [errW_none, errW_some] <;> rfl) | (simp only [← hji26]; first | rfl | (simp [errW_none, errW_some] <;> rfl)) | (simp [*, errW_none, errW_some] <;> rfl), zT HB⟩
                · rw [if_neg c28] at H
                  exact absurd H (by simp)
  · rw [if_neg c4] at H
    have c4b0 : (t164 == 0) = false := beq_eq_false_iff_ne.mpr c4
    have c4b1 : (t164 != 0) = true := bne_iff_ne.mpr c4
    simp only [Option.some.injEq, Prod.mk.injEq] at H
    obtain ⟨rfl, rfl⟩ := H
    go_enter Tryz.func20, Tryz.ntmps20
    go_wp2_with (first | ((with_reducible refine gate_dst (N := 2) rfl ?_); refine box_event ?hg (N := 2) ?hd (cs := #[.bool a0_0, .string a0_1, .string a0_2]) (t := 27) ?hr ?_; (case hd => rfl); (case hg => rfl); (case hr => first | (go_simp; done) | (go_simp; rfl)); intro gb163 hg w63 hbox hb; have BK163 := Aside0.mk (hbox); have GW163 := zG hg HB; have GE163 := zG hg HB; replace HB := zS HB hb; clear hb hbox hg; obtain ⟨hcz64_0, hcz64_1, hcz64_2, hfz64_0, hfz64_1, hfz64_2⟩ := z3 BK163) | ((with_reducible refine gate_callee (f := 41) rfl ?_); refine zC Tryz.func41 (by kernel_rfl) #[.agg #[.bool a0_0, .string a0_1, .string a0_2]] ?_; (with_reducible refine (rat_Check.calls k a0_0 a0_1 a0_2 t164 _ A3.out).mono ?_); rintro e w65 ⟨rfl, hb⟩; refine ⟨_, rfl, ?_⟩; replace BK163 := zB BK163 hb; replace HB := zS HB hb; (try clear hb)))
    go_ret2
    exact ⟨by first | rfl | (simp [errW_none, errW_some] <;> rfl) | (simp [*, errW_none, errW_some] <;> rfl), zT HB⟩

end Go.Proofs.YtoijlbcbbblbfaaGreatDoorH.R

-- printed by hp.py
namespace Go.Proofs.YtoijlbcbbblbfaaGreatDoorH.R
open Go.RowKit Go.Proofs.YtoijlbcbbblbfaaGreatDoorH.Z Go.Proofs.YtoijlbcbbblbfaaGreatDoorW.PrintWords Go.Proofs.YtoijlbcbbblbfaaGreatDoorW.PrintLast Go.Proofs.YtoijlbcbbblbfaaGreatDoorW.PrintMore
attribute [local go_sem] max2_int min2_int max_two min_two max_three min_three max_four min_four   -- for this text's walks alone
set_option linter.unusedVariables false
set_option linter.unusedSimpArgs false

/-! ### gussetref02_Of: function 23 -/
open Go.Proofs.YtoijlbcbbblbfaaGreatDoor Go.Proofs.YtoijlbcbbblbfaaGreatDoor.Num in
def gussetref02_Of.f (a0 : Int) : Option (Bool × ByteArray) := if -9223372036854775808 ≤ a0 ∧ a0 ≤ 9223372036854775807 then some ((pv a0).1, (pv a0).2) else none
open Go.Proofs.YtoijlbcbbblbfaaGreatDoor Go.Proofs.YtoijlbcbbblbfaaGreatDoor.Num in
theorem gussetref02_Of.calls (a0 : Int) (r1 : Bool) (r2 : ByteArray) (w : World) (h : gussetref02_Of.f a0 = some (r1, r2)) :
    Calls Tryz.prog 23 #[.int .i64 a0] w fun e w' => e = .returned (.agg #[.bool r1, .string r2]) ∧ Below w.heap.size w w' := by
  unfold gussetref02_Of.f at h
  split at h
  · rename_i hc
    simp only [Option.some.injEq, Prod.mk.injEq] at h
    obtain ⟨rfl, rfl⟩ := h
    exact of_r a0 hc.1 hc.2 w
  · exact absurd h (by simp)


end Go.Proofs.YtoijlbcbbblbfaaGreatDoorH.R

-- printed by hp.py
namespace Go.Proofs.YtoijlbcbbblbfaaGreatDoorH.R
open Go.RowKit Go.Proofs.YtoijlbcbbblbfaaGreatDoorH.Z Go.Proofs.YtoijlbcbbblbfaaGreatDoorW.PrintWords Go.Proofs.YtoijlbcbbblbfaaGreatDoorW.PrintLast Go.Proofs.YtoijlbcbbblbfaaGreatDoorW.PrintMore
attribute [local go_sem] max2_int min2_int max_two min_two max_three min_three max_four min_four   -- for this text's walks alone
set_option linter.unusedVariables false
set_option linter.unusedSimpArgs false

/-! ### gussetref03_Lowest: function 16 -/
open Go.Proofs.YtoijlbcbbblbfaaGreatDoor Go.Proofs.YtoijlbcbbblbfaaGreatDoor.Num in
def gussetref03_Lowest.f (a0_0 : Bool) (a0_1 : ByteArray) (a1_0 : Bool) (a1_1 : ByteArray) : Option (Bool × ByteArray × ByteArray) := if a0_1.size ≤ 1000 ∧ a1_1.size ≤ 1000 ∧ chk a0_0 a0_1 = 0 ∧ chk a1_0 a1_1 = 0 ∧ ival a1_0 a1_1 ≠ 0 then some ((pq (Rat.divInt (ival a0_0 a0_1) (ival a1_0 a1_1))).1, (pq (Rat.divInt (ival a0_0 a0_1) (ival a1_0 a1_1))).2.1, (pq (Rat.divInt (ival a0_0 a0_1) (ival a1_0 a1_1))).2.2) else none
open Go.Proofs.YtoijlbcbbblbfaaGreatDoor Go.Proofs.YtoijlbcbbblbfaaGreatDoor.Num in
theorem gussetref03_Lowest.calls (a0_0 : Bool) (a0_1 : ByteArray) (a1_0 : Bool) (a1_1 : ByteArray) (r1 : Bool) (r2 : ByteArray) (r3 : ByteArray) (w : World) (h : gussetref03_Lowest.f a0_0 a0_1 a1_0 a1_1 = some (r1, r2, r3)) :
    Calls Tryz.prog 16 #[.agg #[.bool a0_0, .string a0_1], .agg #[.bool a1_0, .string a1_1]] w fun e w' => e = .returned (.agg #[.bool r1, .string r2, .string r3]) ∧ Below w.heap.size w w' := by
  unfold gussetref03_Lowest.f at h
  split at h
  · rename_i hc
    simp only [Option.some.injEq, Prod.mk.injEq] at h
    obtain ⟨rfl, rfl, rfl⟩ := h
    exact lowest_r _ _ _ _ hc.1 hc.2.1 (chk_ok.1 hc.2.2.1) (chk_ok.1 hc.2.2.2.1) hc.2.2.2.2 w
  · exact absurd h (by simp)


end Go.Proofs.YtoijlbcbbblbfaaGreatDoorH.R

-- printed by hp.py
namespace Go.Proofs.YtoijlbcbbblbfaaGreatDoorH.R
open Go.RowKit Go.Proofs.YtoijlbcbbblbfaaGreatDoorH.Z Go.Proofs.YtoijlbcbbblbfaaGreatDoorW.PrintWords Go.Proofs.YtoijlbcbbblbfaaGreatDoorW.PrintLast Go.Proofs.YtoijlbcbbblbfaaGreatDoorW.PrintMore
attribute [local go_sem] max2_int min2_int max_two min_two max_three min_three max_four min_four   -- for this text's walks alone
set_option linter.unusedVariables false
set_option linter.unusedSimpArgs false

/-! ### gussetref03_Frac: function 45 -/
def gussetref03_Frac.f (a0 : Int) (a1 : Int) : Option (Bool × ByteArray × ByteArray) := (gussetref02_Of.f a0).bind fun bt206 => ((gussetref02_Of.f a1).bind fun bt208 => ((gussetref03_Lowest.f bt206.1 bt206.2 bt208.1 bt208.2).bind fun bt210 => (some (bt210.1, bt210.2.1, bt210.2.2))))
set_option maxHeartbeats 8000000 in
set_option maxRecDepth 100000 in
theorem gussetref03_Frac.calls (a0 : Int) (a1 : Int) (r1 : Bool) (r2 : ByteArray) (r3 : ByteArray) (w : World) (h : gussetref03_Frac.f a0 a1 = some (r1, r2, r3)) :
    Calls Tryz.prog 45 #[.int .i64 a0, .int .i64 a1] w fun e w' => e = .returned (.agg #[.bool r1, .string r2, .string r3]) ∧ Below w.heap.size w w' := by
  have hu27 := Tryz.underlying27
  have HB := Aside0.mk (Below.refl w.heap.size w)
  have H : ((gussetref02_Of.f a0).bind fun bt206 => ((gussetref02_Of.f a1).bind fun bt208 => ((gussetref03_Lowest.f bt206.1 bt206.2 bt208.1 bt208.2).bind fun bt210 => (some (bt210.1, bt210.2.1, bt210.2.2))))) = some (r1, r2, r3) := h
  clear h
  replace H := Option.bind_eq_some_iff.mp H
  obtain ⟨⟨t206, t207⟩, A30, H⟩ := H
  replace H : ((gussetref02_Of.f a1).bind fun bt208 => ((gussetref03_Lowest.f t206 t207 bt208.1 bt208.2).bind fun bt210 => (some (bt210.1, bt210.2.1, bt210.2.2)))) = some (r1, r2, r3) := H
  have A3 := Aside0.mk A30
  clear A30
  replace H := Option.bind_eq_some_iff.mp H
  obtain ⟨⟨t208, t209⟩, A40, H⟩ := H
  replace H : ((gussetref03_Lowest.f t206 t207 t208 t209).bind fun bt210 => (some (bt210.1, bt210.2.1, bt210.2.2))) = some (r1, r2, r3) := H
  have A4 := Aside0.mk A40
  clear A40
  replace H := Option.bind_eq_some_iff.mp H
  obtain ⟨⟨t210, t211, t212⟩, A50, H⟩ := H
  replace H : (some (t210, t211, t212)) = some (r1, r2, r3) := H
  have A5 := Aside0.mk A50
  clear A50
  simp only [Option.some.injEq, Prod.mk.injEq] at H
  obtain ⟨rfl, rfl, rfl⟩ := H
  go_enter Tryz.func45, Tryz.ntmps45
  go_wp2_with (first | ((with_reducible refine gate_dst (N := 4) rfl ?_); refine box_event ?hg (N := 4) ?hd (cs := #[.bool false, .string (⟨#[]⟩ : ByteArray), .string (⟨#[]⟩ : ByteArray)]) (t := 27) ?hr ?_; (case hd => rfl); (case hg => rfl); (case hr => first | (go_simp; done) | (go_simp; rfl)); intro gb205 hg w6 hbox hb; have BK205 := Aside0.mk (hbox); have GW205 := zG hg HB; have GE205 := zG hg HB; replace HB := zS HB hb; clear hb hbox hg) | ((with_reducible refine gate_callee (f := 23) rfl ?_); refine zC Tryz.func23 (by kernel_rfl) #[.int .i64 a0] ?_; (with_reducible refine (gussetref02_Of.calls a0 t206 t207 _ A3.out).mono ?_); rintro e w7 ⟨rfl, hb⟩; refine ⟨_, rfl, ?_⟩; replace BK205 := zB BK205 hb; replace HB := zS HB hb; (try clear hb)) | ((with_reducible refine gate_callee (f := 23) rfl ?_); refine zC Tryz.func23 (by kernel_rfl) #[.int .i64 a1] ?_; (with_reducible refine (gussetref02_Of.calls a1 t208 t209 _ A4.out).mono ?_); rintro e w8 ⟨rfl, hb⟩; refine ⟨_, rfl, ?_⟩; replace BK205 := zB BK205 hb; replace HB := zS HB hb; (try clear hb)) | ((with_reducible refine gate_callee (f := 16) rfl ?_); refine zC Tryz.func16 (by kernel_rfl) #[.agg #[.bool t206, .string t207], .agg #[.bool t208, .string t209]] ?_; (with_reducible refine (gussetref03_Lowest.calls t206 t207 t208 t209 t210 t211 t212 _ A5.out).mono ?_); rintro e w9 ⟨rfl, hb⟩; refine ⟨_, rfl, ?_⟩; replace BK205 := zB BK205 hb; replace HB := zS HB hb; (try clear hb); obtain ⟨hcz10_0, hcz10_1, hcz10_2, hfz10_0, hfz10_1, hfz10_2⟩ := z3 BK205))
  refine bodyPost_ret (results_cell_row rfl _ _ gb205 27 #[.bool t210, .string t211, .string t212] (0, 0) _ rfl (by (with_reducible repeat (first | refine blk_drewN ?_ _ | refine blk_drew ?_ | refine blk_alloc ?_ _)); refine zP (cs := #[.bool t210, .string t211, .string (⟨#[]⟩ : ByteArray)]) ?_ 2 _; (with_reducible repeat (first | refine blk_drewN ?_ _ | refine blk_drew ?_ | refine blk_alloc ?_ _)); refine zP (cs := #[.bool t210, .string (⟨#[]⟩ : ByteArray), .string (⟨#[]⟩ : ByteArray)]) ?_ 1 _; (with_reducible repeat (first | refine blk_drewN ?_ _ | refine blk_drew ?_ | refine blk_alloc ?_ _)); refine zP (cs := #[.bool false, .string (⟨#[]⟩ : ByteArray), .string (⟨#[]⟩ : ByteArray)]) ?_ 0 _; (with_reducible repeat (first | refine blk_drewN ?_ _ | refine blk_drew ?_ | refine blk_alloc ?_ _)); exact BK205.out) Tryz.underlying27 rfl (by kernel_rfl)) rfl ?_
  exact ⟨by first | rfl | (simp [errW_none, errW_some] <;> rfl) | (simp [*, errW_none, errW_some] <;> rfl), zT HB⟩

end Go.Proofs.YtoijlbcbbblbfaaGreatDoorH.R

-- printed by hp.py
namespace Go.Proofs.YtoijlbcbbblbfaaGreatDoorH.R
open Go.RowKit Go.Proofs.YtoijlbcbbblbfaaGreatDoorH.Z Go.Proofs.YtoijlbcbbblbfaaGreatDoorW.PrintWords Go.Proofs.YtoijlbcbbblbfaaGreatDoorW.PrintLast Go.Proofs.YtoijlbcbbblbfaaGreatDoorW.PrintMore
attribute [local go_sem] max2_int min2_int max_two min_two max_three min_three max_four min_four   -- for this text's walks alone
set_option linter.unusedVariables false
set_option linter.unusedSimpArgs false

attribute [local go_sem high] eqA27
/-! ### gussetlaw03_live: function 13 -/
def gussetlaw03_live.f (k : Nat)  : Option (Bool) := (gussetref02_Of.f 6).bind fun bt213 => ((gussetref02_Of.f (-4)).bind fun bt215 => ((rat_Make.f k bt213.1 bt213.2 bt215.1 bt215.2).bind fun bt217 => ((rat_Decimal.f k bt217.1 bt217.2.1 bt217.2.2.1 0).bind fun bt222 => ((rat_Print.f k bt217.1 bt217.2.1 bt217.2.2.1).bind fun bt224 => ((rat_Of.f 0).bind fun bt226 => ((rat_Div.f k bt217.1 bt217.2.1 bt217.2.2.1 bt226.1 bt226.2.1 bt226.2.2).bind fun bt229 => ((gussetref03_Frac.f (-3) 2).bind fun bt234 => (if ((bt217.1 == bt234.1 && (bt217.2.1.toList == bt234.2.1.toList)) && (bt217.2.2.1.toList == bt234.2.2.toList)) = true then (if bt217.2.2.2 = 0 then (if bt222.1.toList = ([45, 50] : List UInt8) then (if bt222.2 = 0 then (if bt224.1.toList = ([45, 51, 47, 50] : List UInt8) then (if bt224.2 = 0 then (some (bt229.2.2.2 == 3)) else (none)) else (none)) else (none)) else (none)) else (none)) else (none)))))))))
def gussetlaw03_live.T4 : Bool × List (List Nat × List Nat) := (true, [([], []), ([], []), ([0, 1, 1], [0, 1]), ([2], [2]), ([3], [3]), ([3], [3]), ([], []), ([6, 4, 2, 0, 1, 2, 3, 4, 6], [4, 6]), ([5, 7, 0, 1, 2, 3, 4, 5, 6, 7], [5])])
def gussetlaw03_live.B4 : List Nat := [0, 0, 3, 7, 15, 15, 0, 95, 255]
theorem gussetlaw03_live.tab4 : rtab .any (opsOf Tryz.f13 4) = gussetlaw03_live.T4 := by kernel_rfl
theorem gussetlaw03_live.bits4 : waitsOk gussetlaw03_live.T4.2 gussetlaw03_live.B4 = true := by kernel_rfl
def gussetlaw03_live.T5 : Bool × List (List Nat × List Nat) := (true, [([], []), ([], []), ([0, 1], [0, 1]), ([2, 1], [2]), ([3], [3]), ([4, 3], [3, 4]), ([3, 5], [3, 5]), ([6, 3], [6]), ([7], [7]), ([8, 7], [7, 8]), ([7, 9], [7, 9]), ([10, 7], [10]), ([11], [11]), ([12, 11], [11, 12]), ([11, 13], [11, 13]), ([14, 11], [14]), ([15], [15]), ([16, 15], [15, 16]), ([15, 17], [15, 17]), ([18, 15], [18]), ([19], [19]), ([20, 19], [19, 20]), ([19, 21], [19, 21]), ([22, 19], [22]), ([23], [23]), ([24, 23], [23, 24]), ([23, 25], [23, 25]), ([26, 23, 0, 1, 2, 3, 4, 5, 6, 7, 8, 9, 10, 11, 12, 13, 14, 15, 16, 17, 18, 19, 20, 21, 22, 23, 24, 25, 26], [26])])
def gussetlaw03_live.B5 : List Nat := [0, 0, 3, 7, 15, 31, 63, 127, 255, 511, 1023, 2047, 4095, 8191, 16383, 32767, 65535, 131071, 262143, 524287, 1048575, 2097151, 4194303, 8388607, 16777215, 33554431, 67108863, 134217727]
theorem gussetlaw03_live.tab5 : rtab .any (opsOf Tryz.f13 5) = gussetlaw03_live.T5 := by kernel_rfl
theorem gussetlaw03_live.bits5 : waitsOk gussetlaw03_live.T5.2 gussetlaw03_live.B5 = true := by kernel_rfl
set_option maxHeartbeats 8000000 in
set_option maxRecDepth 100000 in
theorem gussetlaw03_live.calls (k : Nat)  (r : Bool) (w : World) (h : gussetlaw03_live.f k  = some r) :
    Calls Tryz.prog 13 #[] w fun e w' => e = .returned (.bool r) ∧ Below w.heap.size w w' := by
  have hu27 := Tryz.underlying27
  have HB := Aside0.mk (Below.refl w.heap.size w)
  have H : ((gussetref02_Of.f 6).bind fun bt213 => ((gussetref02_Of.f (-4)).bind fun bt215 => ((rat_Make.f k bt213.1 bt213.2 bt215.1 bt215.2).bind fun bt217 => ((rat_Decimal.f k bt217.1 bt217.2.1 bt217.2.2.1 0).bind fun bt222 => ((rat_Print.f k bt217.1 bt217.2.1 bt217.2.2.1).bind fun bt224 => ((rat_Of.f 0).bind fun bt226 => ((rat_Div.f k bt217.1 bt217.2.1 bt217.2.2.1 bt226.1 bt226.2.1 bt226.2.2).bind fun bt229 => ((gussetref03_Frac.f (-3) 2).bind fun bt234 => (if ((bt217.1 == bt234.1 && (bt217.2.1.toList == bt234.2.1.toList)) && (bt217.2.2.1.toList == bt234.2.2.toList)) = true then (if bt217.2.2.2 = 0 then (if bt222.1.toList = ([45, 50] : List UInt8) then (if bt222.2 = 0 then (if bt224.1.toList = ([45, 51, 47, 50] : List UInt8) then (if bt224.2 = 0 then (some (bt229.2.2.2 == 3)) else (none)) else (none)) else (none)) else (none)) else (none)) else (none)))))))))) = some r := h
  clear h
  replace H := Option.bind_eq_some_iff.mp H
  obtain ⟨⟨t213, t214⟩, A10, H⟩ := H
  replace H : ((gussetref02_Of.f (-4)).bind fun bt215 => ((rat_Make.f k t213 t214 bt215.1 bt215.2).bind fun bt217 => ((rat_Decimal.f k bt217.1 bt217.2.1 bt217.2.2.1 0).bind fun bt222 => ((rat_Print.f k bt217.1 bt217.2.1 bt217.2.2.1).bind fun bt224 => ((rat_Of.f 0).bind fun bt226 => ((rat_Div.f k bt217.1 bt217.2.1 bt217.2.2.1 bt226.1 bt226.2.1 bt226.2.2).bind fun bt229 => ((gussetref03_Frac.f (-3) 2).bind fun bt234 => (if ((bt217.1 == bt234.1 && (bt217.2.1.toList == bt234.2.1.toList)) && (bt217.2.2.1.toList == bt234.2.2.toList)) = true then (if bt217.2.2.2 = 0 then (if bt222.1.toList = ([45, 50] : List UInt8) then (if bt222.2 = 0 then (if bt224.1.toList = ([45, 51, 47, 50] : List UInt8) then (if bt224.2 = 0 then (some (bt229.2.2.2 == 3)) else (none)) else (none)) else (none)) else (none)) else (none)) else (none))))))))) = some r := H
  have A1 := Aside0.mk A10
  clear A10
  replace H := Option.bind_eq_some_iff.mp H
  obtain ⟨⟨t215, t216⟩, A20, H⟩ := H
  replace H : ((rat_Make.f k t213 t214 t215 t216).bind fun bt217 => ((rat_Decimal.f k bt217.1 bt217.2.1 bt217.2.2.1 0).bind fun bt222 => ((rat_Print.f k bt217.1 bt217.2.1 bt217.2.2.1).bind fun bt224 => ((rat_Of.f 0).bind fun bt226 => ((rat_Div.f k bt217.1 bt217.2.1 bt217.2.2.1 bt226.1 bt226.2.1 bt226.2.2).bind fun bt229 => ((gussetref03_Frac.f (-3) 2).bind fun bt234 => (if ((bt217.1 == bt234.1 && (bt217.2.1.toList == bt234.2.1.toList)) && (bt217.2.2.1.toList == bt234.2.2.toList)) = true then (if bt217.2.2.2 = 0 then (if bt222.1.toList = ([45, 50] : List UInt8) then (if bt222.2 = 0 then (if bt224.1.toList = ([45, 51, 47, 50] : List UInt8) then (if bt224.2 = 0 then (some (bt229.2.2.2 == 3)) else (none)) else (none)) else (none)) else (none)) else (none)) else (none)))))))) = some r := H
  have A2 := Aside0.mk A20
  clear A20
  replace H := Option.bind_eq_some_iff.mp H
  obtain ⟨⟨t217, t218, t219, t220⟩, A30, H⟩ := H
  replace H : ((rat_Decimal.f k t217 t218 t219 0).bind fun bt222 => ((rat_Print.f k t217 t218 t219).bind fun bt224 => ((rat_Of.f 0).bind fun bt226 => ((rat_Div.f k t217 t218 t219 bt226.1 bt226.2.1 bt226.2.2).bind fun bt229 => ((gussetref03_Frac.f (-3) 2).bind fun bt234 => (if ((t217 == bt234.1 && (t218.toList == bt234.2.1.toList)) && (t219.toList == bt234.2.2.toList)) = true then (if t220 = 0 then (if bt222.1.toList = ([45, 50] : List UInt8) then (if bt222.2 = 0 then (if bt224.1.toList = ([45, 51, 47, 50] : List UInt8) then (if bt224.2 = 0 then (some (bt229.2.2.2 == 3)) else (none)) else (none)) else (none)) else (none)) else (none)) else (none))))))) = some r := H
  have A3 := Aside0.mk A30
  clear A30
  replace H := Option.bind_eq_some_iff.mp H
  obtain ⟨⟨t222, t223⟩, A40, H⟩ := H
  replace H : ((rat_Print.f k t217 t218 t219).bind fun bt224 => ((rat_Of.f 0).bind fun bt226 => ((rat_Div.f k t217 t218 t219 bt226.1 bt226.2.1 bt226.2.2).bind fun bt229 => ((gussetref03_Frac.f (-3) 2).bind fun bt234 => (if ((t217 == bt234.1 && (t218.toList == bt234.2.1.toList)) && (t219.toList == bt234.2.2.toList)) = true then (if t220 = 0 then (if t222.toList = ([45, 50] : List UInt8) then (if t223 = 0 then (if bt224.1.toList = ([45, 51, 47, 50] : List UInt8) then (if bt224.2 = 0 then (some (bt229.2.2.2 == 3)) else (none)) else (none)) else (none)) else (none)) else (none)) else (none)))))) = some r := H
  have A4 := Aside0.mk A40
  clear A40
  replace H := Option.bind_eq_some_iff.mp H
  obtain ⟨⟨t224, t225⟩, A50, H⟩ := H
  replace H : ((rat_Of.f 0).bind fun bt226 => ((rat_Div.f k t217 t218 t219 bt226.1 bt226.2.1 bt226.2.2).bind fun bt229 => ((gussetref03_Frac.f (-3) 2).bind fun bt234 => (if ((t217 == bt234.1 && (t218.toList == bt234.2.1.toList)) && (t219.toList == bt234.2.2.toList)) = true then (if t220 = 0 then (if t222.toList = ([45, 50] : List UInt8) then (if t223 = 0 then (if t224.toList = ([45, 51, 47, 50] : List UInt8) then (if t225 = 0 then (some (bt229.2.2.2 == 3)) else (none)) else (none)) else (none)) else (none)) else (none)) else (none))))) = some r := H
  have A5 := Aside0.mk A50
  clear A50
  replace H := Option.bind_eq_some_iff.mp H
  obtain ⟨⟨t226, t227, t228⟩, A60, H⟩ := H
  replace H : ((rat_Div.f k t217 t218 t219 t226 t227 t228).bind fun bt229 => ((gussetref03_Frac.f (-3) 2).bind fun bt234 => (if ((t217 == bt234.1 && (t218.toList == bt234.2.1.toList)) && (t219.toList == bt234.2.2.toList)) = true then (if t220 = 0 then (if t222.toList = ([45, 50] : List UInt8) then (if t223 = 0 then (if t224.toList = ([45, 51, 47, 50] : List UInt8) then (if t225 = 0 then (some (bt229.2.2.2 == 3)) else (none)) else (none)) else (none)) else (none)) else (none)) else (none)))) = some r := H
  have A6 := Aside0.mk A60
  clear A60
  replace H := Option.bind_eq_some_iff.mp H
  obtain ⟨⟨t229, t230, t231, t232⟩, A70, H⟩ := H
  replace H : ((gussetref03_Frac.f (-3) 2).bind fun bt234 => (if ((t217 == bt234.1 && (t218.toList == bt234.2.1.toList)) && (t219.toList == bt234.2.2.toList)) = true then (if t220 = 0 then (if t222.toList = ([45, 50] : List UInt8) then (if t223 = 0 then (if t224.toList = ([45, 51, 47, 50] : List UInt8) then (if t225 = 0 then (some (t232 == 3)) else (none)) else (none)) else (none)) else (none)) else (none)) else (none))) = some r := H
  have A7 := Aside0.mk A70
  clear A70
  replace H := Option.bind_eq_some_iff.mp H
  obtain ⟨⟨t234, t235, t236⟩, A80, H⟩ := H
  replace H : (if ((t217 == t234 && (t218.toList == t235.toList)) && (t219.toList == t236.toList)) = true then (if t220 = 0 then (if t222.toList = ([45, 50] : List UInt8) then (if t223 = 0 then (if t224.toList = ([45, 51, 47, 50] : List UInt8) then (if t225 = 0 then (some (t232 == 3)) else (none)) else (none)) else (none)) else (none)) else (none)) else (none)) = some r := H
  have A8 := Aside0.mk A80
  clear A80
  by_cases c9 : ((t217 == t234 && (t218.toList == t235.toList)) && (t219.toList == t236.toList)) = true
  · rw [if_pos c9] at H
    have c9b0 : ((t217 == t234 && (t218.toList == t235.toList)) && (t219.toList == t236.toList)) = true := c9
    clear c9
    by_cases c10 : t220 = 0
    · rw [if_pos c10] at H
      have c10b0 : (t220 == 0) = true := beq_iff_eq.mpr c10
      have c10b1 : (t220 != 0) = false := bne_eq_false_iff_eq.mpr c10
      clear c10
      by_cases c11 : t222.toList = ([45, 50] : List UInt8)
      · rw [if_pos c11] at H
        have c11b0 : (t222.toList == ([45, 50] : List UInt8)) = true := beq_iff_eq.mpr c11
        have c11b1 : (t222.toList != ([45, 50] : List UInt8)) = false := bne_eq_false_iff_eq.mpr c11
        clear c11
        by_cases c12 : t223 = 0
        · rw [if_pos c12] at H
          have c12b0 : (t223 == 0) = true := beq_iff_eq.mpr c12
          have c12b1 : (t223 != 0) = false := bne_eq_false_iff_eq.mpr c12
          clear c12
          by_cases c13 : t224.toList = ([45, 51, 47, 50] : List UInt8)
          · rw [if_pos c13] at H
            have c13b0 : (t224.toList == ([45, 51, 47, 50] : List UInt8)) = true := beq_iff_eq.mpr c13
            have c13b1 : (t224.toList != ([45, 51, 47, 50] : List UInt8)) = false := bne_eq_false_iff_eq.mpr c13
            clear c13
            by_cases c14 : t225 = 0
            · rw [if_pos c14] at H
              have c14b0 : (t225 == 0) = true := beq_iff_eq.mpr c14
              have c14b1 : (t225 != 0) = false := bne_eq_false_iff_eq.mpr c14
              clear c14
              obtain rfl := Option.some.inj H
              go_enter Tryz.func13, Tryz.ntmps13
              try go_wp2_with (first | ((with_reducible refine gate_callee (f := 23) rfl ?_); refine zC Tryz.func23 (by kernel_rfl) #[.int .i64 6] ?_; (with_reducible refine (gussetref02_Of.calls 6 t213 t214 _ A1.out).mono ?_); rintro e w15 ⟨rfl, hb⟩; refine ⟨_, rfl, ?_⟩; replace HB := zS HB hb; (try clear hb)) | ((with_reducible refine gate_callee (f := 23) rfl ?_); refine zC Tryz.func23 (by kernel_rfl) #[.int .i64 (-4)] ?_; (with_reducible refine (gussetref02_Of.calls (-4) t215 t216 _ A2.out).mono ?_); rintro e w16 ⟨rfl, hb⟩; refine ⟨_, rfl, ?_⟩; replace HB := zS HB hb; (try clear hb)) | ((with_reducible refine gate_callee (f := 14) rfl ?_); refine zC Tryz.func14 (by kernel_rfl) #[.agg #[.bool t213, .string t214], .agg #[.bool t215, .string t216]] ?_; (with_reducible refine (rat_Make.calls k t213 t214 t215 t216 t217 t218 t219 t220 _ A3.out).mono ?_); rintro e w17 ⟨rfl, hb⟩; refine ⟨_, rfl, ?_⟩; replace HB := zS HB hb; (try clear hb)) | ((with_reducible refine gate_dst (N := 1) rfl ?_); refine box_event ?hg (N := 1) ?hd (cs := #[.bool false, .string (⟨#[]⟩ : ByteArray), .string (⟨#[]⟩ : ByteArray)]) (t := 27) ?hr ?_; (case hd => rfl); (case hg => rfl); (case hr => first | (go_simp; done) | (go_simp; rfl)); intro gb221 hg w18 hbox hb; have BK221 := Aside0.mk (hbox); have GW221 := zG hg HB; have GE221 := zG hg HB; replace HB := zS HB hb; clear hb hbox hg; obtain ⟨hcz19_0, hcz19_1, hcz19_2, hfz19_0, hfz19_1, hfz19_2⟩ := z3 BK221) | ((with_reducible refine gate_callee (f := 20) rfl ?_); refine zC Tryz.func20 (by kernel_rfl) #[.agg #[.bool t217, .string t218, .string t219], .int .i64 0] ?_; (with_reducible refine (rat_Decimal.calls k t217 t218 t219 0 t222 t223 _ A4.out).mono ?_); rintro e w20 ⟨rfl, hb⟩; refine ⟨_, rfl, ?_⟩; replace BK221 := Aside0.mk (blk_below (g := gb221) (o := .cells #[.bool t217, .string t218, .string t219] 27 (0, 0)) (by (with_reducible repeat (first | refine blk_drewN ?_ _ | refine blk_drew ?_ | refine blk_alloc ?_ _)); refine zP (cs := #[.bool t217, .string t218, .string (⟨#[]⟩ : ByteArray)]) ?_ 2 _; (with_reducible repeat (first | refine blk_drewN ?_ _ | refine blk_drew ?_ | refine blk_alloc ?_ _)); refine zP (cs := #[.bool t217, .string (⟨#[]⟩ : ByteArray), .string (⟨#[]⟩ : ByteArray)]) ?_ 1 _; (with_reducible repeat (first | refine blk_drewN ?_ _ | refine blk_drew ?_ | refine blk_alloc ?_ _)); refine zP (cs := #[.bool false, .string (⟨#[]⟩ : ByteArray), .string (⟨#[]⟩ : ByteArray)]) ?_ 0 _; (with_reducible repeat (first | refine blk_drewN ?_ _ | refine blk_drew ?_ | refine blk_alloc ?_ _)); exact BK221.out) hb); replace HB := zS HB hb; (try clear hb); obtain ⟨hcz21_0, hcz21_1, hcz21_2, hfz21_0, hfz21_1, hfz21_2⟩ := z3 BK221) | ((with_reducible refine gate_callee (f := 40) rfl ?_); refine zC Tryz.func40 (by kernel_rfl) #[.agg #[.bool t217, .string t218, .string t219]] ?_; (with_reducible refine (rat_Print.calls k t217 t218 t219 t224 t225 _ A5.out).mono ?_); rintro e w22 ⟨rfl, hb⟩; refine ⟨_, rfl, ?_⟩; replace BK221 := zB BK221 hb; replace HB := zS HB hb; (try clear hb)))
              replace BK221 := zD BK221; replace HB := zF HB
              refine start_ (n := 9) (S := fun w' => w'.cell? ⟨gb221, 0, none⟩ = some (.bool t217) ∧ w'.cell? ⟨gb221, 1, none⟩ = some (.string t218) ∧ w'.cell? ⟨gb221, 2, none⟩ = some (.string t219)) (ds := []) #[false, false, false, false, false, false, false, false, false] (by kernel_rfl) rfl rfl ⟨(blk_cell BK221.out 0).trans rfl, (blk_cell BK221.out 1).trans rfl, (blk_cell BK221.out 2).trans rfl⟩ (fun hHeld => ?_); refine with_tabW gussetlaw03_live.tab4 gussetlaw03_live.bits4 (fun HT_ HW_ => ?_)
              generalize w22.drew = w23 at BK221 HB hHeld ⊢
              refine zV (i := 0) (N := some 26) #[true, false, false, false, false, false, false, false, false] (take_ofW HT_.out HW_.out (by kernel_rfl)) hHeld ?_
              refine join_ (σ := Nat) 2 #[true, true, true, true, true, true, true, false, false] (fun s_ => [(27, .agg #[.bool t226, .string t227, .string t228]), (28, .tuple #[.agg #[.bool t229, .string t230, .string t231], .int .i64 t232]), (7, .pointer (some ⟨s_, 0, none⟩)), (25, .tuple #[.agg #[.bool t229, .string t230, .string t231], .int .i64 t232]), (29, .agg #[.bool t229, .string t230, .string t231]), (30, .int .i64 t232)]) (fun s_ w' => (w'.cell? ⟨gb221, 0, none⟩ = some (.bool t217) ∧ w'.cell? ⟨gb221, 1, none⟩ = some (.string t218) ∧ w'.cell? ⟨gb221, 2, none⟩ = some (.string t219)) ∧ (w'.heap[gb221]? = some (.cells #[.bool t217, .string t218, .string t219] 27 (0, 0))) ∧ (w'.heap[s_]? = some (.cells #[.bool false, .string (⟨#[]⟩ : ByteArray), .string (⟨#[]⟩ : ByteArray)] 27 (0, 0))) ∧ (w.heap.size ≤ s_) ∧ (w.heap.size ≤ s_) ∧ (gb221 ≠ s_) ∧ (s_ ≠ gb221) ∧ (Below w.heap.size w w')) ?_ ?_
              rotate_left
              · intro hCont
                refine two_ (i := 1) (j := 6) (Ni := some 27) (Nj := some 7) #[true, true, false, false, false, false, false, false, false] #[true, false, false, false, false, false, true, false, false] rfl rfl rfl rfl (two_of HT_.out (by kernel_rfl)) (by decide) (by decide) (fun K hK => ?_) (fun K hK => ?_)
                · skip
                  refine zX Tryz.func17 (by kernel_rfl) #[.int .i64 0] ?_
                  with_reducible refine (rat_Of.calls 0 t226 t227 t228 _ A6.out).mono ?_
                  rintro e w24 ⟨rfl, hb⟩; refine ⟨_, rfl, ?_⟩
                  replace BK221 := zB BK221 hb; replace HB := zS HB hb
                  (try clear hb)
                  refine hK.out _ _ ⟨(blk_cell BK221.out 0).trans rfl, (blk_cell BK221.out 1).trans rfl, (blk_cell BK221.out 2).trans rfl⟩ (fun hHeld => ?_)
                  clear hK K
                  refine zW (some 27) ?_
                  refine two_ (i := 2) (j := 6) (Ni := some 28) (Nj := some 7) #[true, true, true, false, false, false, false, false, false] #[true, true, false, false, false, false, true, false, false] rfl rfl rfl rfl (two_of HT_.out (by kernel_rfl)) (by decide) (by decide) (fun K hK => ?_) (fun K hK => ?_)
                  · skip
                    refine zX Tryz.func29 (by kernel_rfl) #[.agg #[.bool t217, .string t218, .string t219], .agg #[.bool t226, .string t227, .string t228]] ?_
                    with_reducible refine (rat_Div.calls k t217 t218 t219 t226 t227 t228 t229 t230 t231 t232 _ A7.out).mono ?_
                    rintro e w25 ⟨rfl, hb⟩; refine ⟨_, rfl, ?_⟩
                    replace BK221 := zB BK221 hb; replace HB := zS HB hb
                    (try clear hb)
                    refine hK.out _ _ ⟨(blk_cell BK221.out 0).trans rfl, (blk_cell BK221.out 1).trans rfl, (blk_cell BK221.out 2).trans rfl⟩ (fun hHeld => ?_)
                    clear hK K
                    refine zW (some 28) ?_
                    refine zU (i := 3) (N := some 25) #[true, true, true, true, false, false, false, false, false] (any_of HT_.out (by kernel_rfl)) ?_
                    refine zU (i := 4) (N := some 29) #[true, true, true, true, true, false, false, false, false] (any_of HT_.out (by kernel_rfl)) ?_
                    refine zU (i := 5) (N := some 30) #[true, true, true, true, true, true, false, false, false] (any_of HT_.out (by kernel_rfl)) ?_
                    refine one_ (i := 6) (N := some 7) #[true, true, true, true, true, true, true, false, false] rfl rfl (one_of HT_.out (by kernel_rfl)) (by decide) (fun K hK => ?_)
                    refine box_step ?hg (N := 7) ?hd (cs := #[.bool false, .string (⟨#[]⟩ : ByteArray), .string (⟨#[]⟩ : ByteArray)]) (t := 27) ?hr ?_; (case hd => rfl); (case hg => rfl); (case hr => first | (go_simp; done) | (go_simp; rfl))
                    intro gb233 hg w26 hbox hb
                    have BK233 := Aside0.mk (hbox); have GW233 := zG hg HB; have GE233 := zG hg HB; have NB221_233 := zN hg BK221; have NB233_221 := zM hg BK221; replace BK221 := zB BK221 hb; replace HB := zS HB hb; clear hb hbox hg
                    refine hK.out _ _ ⟨(blk_cell BK221.out 0).trans rfl, (blk_cell BK221.out 1).trans rfl, (blk_cell BK221.out 2).trans rfl⟩ (fun hHeld => ?_)
                    clear hK K
                    refine zW (some 7) ?_
                    exact norm_ (by simp only [putAll, Act.put, List.setIfInBounds_toArray, List.set_cons_zero, List.set_cons_succ]) (hCont (gb233) _ ⟨hHeld, (by (with_reducible repeat (first | refine blk_drewN ?_ _ | refine blk_drew ?_ | refine blk_alloc ?_ _)); exact BK221.out), (by (with_reducible repeat (first | refine blk_drewN ?_ _ | refine blk_drew ?_ | refine blk_alloc ?_ _)); exact BK233.out), GW233.out, GE233.out, NB221_233.out, NB233_221.out, (zT HB)⟩)
                  · skip
                    refine box_step ?hg (N := 7) ?hd (cs := #[.bool false, .string (⟨#[]⟩ : ByteArray), .string (⟨#[]⟩ : ByteArray)]) (t := 27) ?hr ?_; (case hd => rfl); (case hg => rfl); (case hr => first | (go_simp; done) | (go_simp; rfl))
                    intro gb233 hg w25 hbox hb
                    have BK233 := Aside0.mk (hbox); have GW233 := zG hg HB; have GE233 := zG hg HB; have NB221_233 := zN hg BK221; have NB233_221 := zM hg BK221; replace BK221 := zB BK221 hb; replace HB := zS HB hb; clear hb hbox hg
                    refine hK.out _ _ ⟨(blk_cell BK221.out 0).trans rfl, (blk_cell BK221.out 1).trans rfl, (blk_cell BK221.out 2).trans rfl⟩ (fun hHeld => ?_)
                    clear hK K
                    refine zW (some 7) ?_
                    refine one_ (i := 2) (N := some 28) #[true, true, true, false, false, false, true, false, false] rfl rfl (one_of HT_.out (by kernel_rfl)) (by decide) (fun K hK => ?_)
                    refine zX Tryz.func29 (by kernel_rfl) #[.agg #[.bool t217, .string t218, .string t219], .agg #[.bool t226, .string t227, .string t228]] ?_
                    with_reducible refine (rat_Div.calls k t217 t218 t219 t226 t227 t228 t229 t230 t231 t232 _ A7.out).mono ?_
                    rintro e w26 ⟨rfl, hb⟩; refine ⟨_, rfl, ?_⟩
                    replace BK221 := zB BK221 hb; replace BK233 := zB BK233 hb; replace HB := zS HB hb
                    (try clear hb)
                    refine hK.out _ _ ⟨(blk_cell BK221.out 0).trans rfl, (blk_cell BK221.out 1).trans rfl, (blk_cell BK221.out 2).trans rfl⟩ (fun hHeld => ?_)
                    clear hK K
                    refine zW (some 28) ?_
                    refine zU (i := 3) (N := some 25) #[true, true, true, true, false, false, true, false, false] (any_of HT_.out (by kernel_rfl)) ?_
                    refine zU (i := 4) (N := some 29) #[true, true, true, true, true, false, true, false, false] (any_of HT_.out (by kernel_rfl)) ?_
                    refine zU (i := 5) (N := some 30) #[true, true, true, true, true, true, true, false, false] (any_of HT_.out (by kernel_rfl)) ?_
                    exact norm_ (by simp only [putAll, Act.put, List.setIfInBounds_toArray, List.set_cons_zero, List.set_cons_succ]) (hCont (gb233) _ ⟨hHeld, (by (with_reducible repeat (first | refine blk_drewN ?_ _ | refine blk_drew ?_ | refine blk_alloc ?_ _)); exact BK221.out), (by (with_reducible repeat (first | refine blk_drewN ?_ _ | refine blk_drew ?_ | refine blk_alloc ?_ _)); exact BK233.out), GW233.out, GE233.out, NB221_233.out, NB233_221.out, (zT HB)⟩)
                · skip
                  refine box_step ?hg (N := 7) ?hd (cs := #[.bool false, .string (⟨#[]⟩ : ByteArray), .string (⟨#[]⟩ : ByteArray)]) (t := 27) ?hr ?_; (case hd => rfl); (case hg => rfl); (case hr => first | (go_simp; done) | (go_simp; rfl))
                  intro gb233 hg w24 hbox hb
                  have BK233 := Aside0.mk (hbox); have GW233 := zG hg HB; have GE233 := zG hg HB; have NB221_233 := zN hg BK221; have NB233_221 := zM hg BK221; replace BK221 := zB BK221 hb; replace HB := zS HB hb; clear hb hbox hg
                  refine hK.out _ _ ⟨(blk_cell BK221.out 0).trans rfl, (blk_cell BK221.out 1).trans rfl, (blk_cell BK221.out 2).trans rfl⟩ (fun hHeld => ?_)
                  clear hK K
                  refine zW (some 7) ?_
                  refine one_ (i := 1) (N := some 27) #[true, true, false, false, false, false, true, false, false] rfl rfl (one_of HT_.out (by kernel_rfl)) (by decide) (fun K hK => ?_)
                  refine zX Tryz.func17 (by kernel_rfl) #[.int .i64 0] ?_
                  with_reducible refine (rat_Of.calls 0 t226 t227 t228 _ A6.out).mono ?_
                  rintro e w25 ⟨rfl, hb⟩; refine ⟨_, rfl, ?_⟩
                  replace BK221 := zB BK221 hb; replace BK233 := zB BK233 hb; replace HB := zS HB hb
                  (try clear hb)
                  refine hK.out _ _ ⟨(blk_cell BK221.out 0).trans rfl, (blk_cell BK221.out 1).trans rfl, (blk_cell BK221.out 2).trans rfl⟩ (fun hHeld => ?_)
                  clear hK K
                  refine zW (some 27) ?_
                  refine one_ (i := 2) (N := some 28) #[true, true, true, false, false, false, true, false, false] rfl rfl (one_of HT_.out (by kernel_rfl)) (by decide) (fun K hK => ?_)
                  refine zX Tryz.func29 (by kernel_rfl) #[.agg #[.bool t217, .string t218, .string t219], .agg #[.bool t226, .string t227, .string t228]] ?_
                  with_reducible refine (rat_Div.calls k t217 t218 t219 t226 t227 t228 t229 t230 t231 t232 _ A7.out).mono ?_
                  rintro e w26 ⟨rfl, hb⟩; refine ⟨_, rfl, ?_⟩
                  replace BK221 := zB BK221 hb; replace BK233 := zB BK233 hb; replace HB := zS HB hb
                  (try clear hb)
                  refine hK.out _ _ ⟨(blk_cell BK221.out 0).trans rfl, (blk_cell BK221.out 1).trans rfl, (blk_cell BK221.out 2).trans rfl⟩ (fun hHeld => ?_)
                  clear hK K
                  refine zW (some 28) ?_
                  refine zU (i := 3) (N := some 25) #[true, true, true, true, false, false, true, false, false] (any_of HT_.out (by kernel_rfl)) ?_
                  refine zU (i := 4) (N := some 29) #[true, true, true, true, true, false, true, false, false] (any_of HT_.out (by kernel_rfl)) ?_
                  refine zU (i := 5) (N := some 30) #[true, true, true, true, true, true, true, false, false] (any_of HT_.out (by kernel_rfl)) ?_
                  exact norm_ (by simp only [putAll, Act.put, List.setIfInBounds_toArray, List.set_cons_zero, List.set_cons_succ]) (hCont (gb233) _ ⟨hHeld, (by (with_reducible repeat (first | refine blk_drewN ?_ _ | refine blk_drew ?_ | refine blk_alloc ?_ _)); exact BK221.out), (by (with_reducible repeat (first | refine blk_drewN ?_ _ | refine blk_drew ?_ | refine blk_alloc ?_ _)); exact BK233.out), GW233.out, GE233.out, NB221_233.out, NB233_221.out, (zT HB)⟩)
              rintro gb233 w27 ⟨hS_, h0_, h1_, h2_, h3_, h4_, h5_, h6_⟩
              have n0_ : Aside0 (w27.heap[gb221]? = some (.cells #[.bool t217, .string t218, .string t219] 27 (0, 0))) := ⟨h0_⟩; have n1_ : Aside0 (w27.heap[gb233]? = some (.cells #[.bool false, .string (⟨#[]⟩ : ByteArray), .string (⟨#[]⟩ : ByteArray)] 27 (0, 0))) := ⟨h1_⟩; have n2_ : Aside0 (w.heap.size ≤ gb233) := ⟨h2_⟩; have n3_ : Aside0 (w.heap.size ≤ gb233) := ⟨h3_⟩; have n4_ : Aside0 (gb221 ≠ gb233) := ⟨h4_⟩; have n5_ : Aside0 (gb233 ≠ gb221) := ⟨h5_⟩; have n6_ : Aside0 (Below w.heap.size w w27) := ⟨h6_⟩; clear BK221; clear HB; clear h0_ h1_ h2_ h3_ h4_ h5_ h6_; have BK221 := n0_; have BK233 := n1_; have GW233 := n2_; have GE233 := n3_; have NB221_233 := n4_; have NB233_221 := n5_; have HB := n6_; clear n0_ n1_ n2_ n3_ n4_ n5_ n6_
              have hHeld : w27.cell? ⟨gb221, 0, none⟩ = some (.bool t217) ∧ w27.cell? ⟨gb221, 1, none⟩ = some (.string t218) ∧ w27.cell? ⟨gb221, 2, none⟩ = some (.string t219) := hS_
              refine norm_ (a' := ?_) ?_ ?_
              rotate_left
              · simp only [putAll, Act.put, List.setIfInBounds_toArray, List.set_cons_zero, List.set_cons_succ]
                rfl
              refine one_ (i := 7) (N := none) #[true, true, true, true, true, true, true, true, false] rfl rfl (one_of HT_.out (by kernel_rfl)) (by decide) (fun K hK => ?_)
              have hs28 : w27.cell? ⟨gb233, 0, none⟩ = some (.bool false) := (blk_cell BK233.out 0).trans rfl
              have hfs28 := blk_frozen BK233.out 0
              have hns28_0 := NB221_233.out
              have hms28_0 := NB233_221.out
              have hs29 : w27.cell? ⟨gb233, 1, none⟩ = some (.string (⟨#[]⟩ : ByteArray)) := (blk_cell BK233.out 1).trans rfl
              have hfs29 := blk_frozen BK233.out 1
              have hns29_0 := NB221_233.out
              have hms29_0 := NB233_221.out
              have hs30 : w27.cell? ⟨gb233, 2, none⟩ = some (.string (⟨#[]⟩ : ByteArray)) := (blk_cell BK233.out 2).trans rfl
              have hfs30 := blk_frozen BK233.out 2
              have hns30_0 := NB221_233.out
              have hms30_0 := NB233_221.out
              refine skip_ (w1 := ?_) (by rfl) rfl ?_ ?_
              rotate_left
              · go_simp
                rfl
              refine hK.out _ _ ⟨((cell_far (p := ⟨gb233, _, none⟩) NB221_233.out _).trans (((cell_far (p := ⟨gb233, _, none⟩) NB221_233.out _).trans (((cell_far (p := ⟨gb233, _, none⟩) NB221_233.out _).trans (hHeld.1)))))), ((cell_far (p := ⟨gb233, _, none⟩) NB221_233.out _).trans (((cell_far (p := ⟨gb233, _, none⟩) NB221_233.out _).trans (((cell_far (p := ⟨gb233, _, none⟩) NB221_233.out _).trans (hHeld.2.1)))))), ((cell_far (p := ⟨gb233, _, none⟩) NB221_233.out _).trans (((cell_far (p := ⟨gb233, _, none⟩) NB221_233.out _).trans (((cell_far (p := ⟨gb233, _, none⟩) NB221_233.out _).trans (hHeld.2.2))))))⟩ (fun hHeld => ?_)
              clear hK K
              refine zU (i := 8) (N := some 8) #[true, true, true, true, true, true, true, true, true] (any_of HT_.out (by kernel_rfl)) ?_
              refine done_ (done_of HT_.out (by kernel_rfl)) ?_
              try go_wp2
              have n0_ : Aside0 ((((w27.setCell ⟨gb233, 0, none⟩ (.bool t229)).setCell ⟨gb233, 1, none⟩ (.string t230)).setCell ⟨gb233, 2, none⟩ (.string t231)).heap[gb221]? = some (.cells #[.bool t217, .string t218, .string t219] 27 (0, 0))) := ⟨by (with_reducible repeat (first | refine blk_drewN ?_ _ | refine blk_drew ?_ | refine blk_alloc ?_ _)); refine blk_far ?_ NB221_233.out _; (with_reducible repeat (first | refine blk_drewN ?_ _ | refine blk_drew ?_ | refine blk_alloc ?_ _)); refine blk_far ?_ NB221_233.out _; (with_reducible repeat (first | refine blk_drewN ?_ _ | refine blk_drew ?_ | refine blk_alloc ?_ _)); refine blk_far ?_ NB221_233.out _; (with_reducible repeat (first | refine blk_drewN ?_ _ | refine blk_drew ?_ | refine blk_alloc ?_ _)); exact BK221.out⟩; have n1_ : Aside0 ((((w27.setCell ⟨gb233, 0, none⟩ (.bool t229)).setCell ⟨gb233, 1, none⟩ (.string t230)).setCell ⟨gb233, 2, none⟩ (.string t231)).heap[gb233]? = some (.cells #[.bool t229, .string t230, .string t231] 27 (0, 0))) := ⟨by (with_reducible repeat (first | refine blk_drewN ?_ _ | refine blk_drew ?_ | refine blk_alloc ?_ _)); refine zP (cs := #[.bool t229, .string t230, .string (⟨#[]⟩ : ByteArray)]) ?_ 2 _; (with_reducible repeat (first | refine blk_drewN ?_ _ | refine blk_drew ?_ | refine blk_alloc ?_ _)); refine zP (cs := #[.bool t229, .string (⟨#[]⟩ : ByteArray), .string (⟨#[]⟩ : ByteArray)]) ?_ 1 _; (with_reducible repeat (first | refine blk_drewN ?_ _ | refine blk_drew ?_ | refine blk_alloc ?_ _)); refine zP (cs := #[.bool false, .string (⟨#[]⟩ : ByteArray), .string (⟨#[]⟩ : ByteArray)]) ?_ 0 _; (with_reducible repeat (first | refine blk_drewN ?_ _ | refine blk_drew ?_ | refine blk_alloc ?_ _)); exact BK233.out⟩; have n2_ : Aside0 (Below w.heap.size w (((w27.setCell ⟨gb233, 0, none⟩ (.bool t229)).setCell ⟨gb233, 1, none⟩ (.string t230)).setCell ⟨gb233, 2, none⟩ (.string t231))) := ⟨zT HB⟩
              (try clear BK221)
              (try clear BK233)
              (try clear HB)
              generalize (((w27.setCell ⟨gb233, 0, none⟩ (.bool t229)).setCell ⟨gb233, 1, none⟩ (.string t230)).setCell ⟨gb233, 2, none⟩ (.string t231)) = w31 at n0_ n1_ n2_ ⊢
              have BK221 := n0_; have BK233 := n1_
              have HB := n2_; clear n0_ n1_ n2_
              replace BK221 := zD BK221; replace BK233 := zD BK233; replace HB := zF HB
              refine start_ (n := 28) (S := fun w' => w'.cell? ⟨gb221, 0, none⟩ = some (.bool t217) ∧ w'.cell? ⟨gb221, 1, none⟩ = some (.string t218) ∧ w'.cell? ⟨gb221, 2, none⟩ = some (.string t219)) (ds := []) #[false, false, false, false, false, false, false, false, false, false, false, false, false, false, false, false, false, false, false, false, false, false, false, false, false, false, false, false] (by kernel_rfl) rfl rfl ⟨(blk_cell BK221.out 0).trans rfl, (blk_cell BK221.out 1).trans rfl, (blk_cell BK221.out 2).trans rfl⟩ (fun hHeld => ?_); refine with_tabW gussetlaw03_live.tab5 gussetlaw03_live.bits5 (fun HT_ HW_ => ?_)
              generalize w31.drew = w32 at BK221 BK233 HB hHeld ⊢
              refine zV (i := 0) (N := some 31) #[true, false, false, false, false, false, false, false, false, false, false, false, false, false, false, false, false, false, false, false, false, false, false, false, false, false, false, false] (take_ofW HT_.out HW_.out (by kernel_rfl)) hHeld ?_
              refine one_ (i := 1) (N := some 32) #[true, true, false, false, false, false, false, false, false, false, false, false, false, false, false, false, false, false, false, false, false, false, false, false, false, false, false, false] rfl rfl (one_of HT_.out (by kernel_rfl)) (by decide) (fun K hK => ?_)
              refine zX Tryz.func45 (by kernel_rfl) #[.int .i64 (-3), .int .i64 2] ?_
              with_reducible refine (gussetref03_Frac.calls (-3) 2 t234 t235 t236 _ A8.out).mono ?_
              rintro e w33 ⟨rfl, hb⟩; refine ⟨_, rfl, ?_⟩
              replace BK221 := zB BK221 hb; replace BK233 := zB BK233 hb; replace HB := zS HB hb
              (try clear hb)
              refine hK.out _ _ ⟨(blk_cell BK221.out 0).trans rfl, (blk_cell BK221.out 1).trans rfl, (blk_cell BK221.out 2).trans rfl⟩ (fun hHeld => ?_)
              clear hK K
              refine zW (some 32) ?_
              refine zU (i := 2) (N := some 33) #[true, true, true, false, false, false, false, false, false, false, false, false, false, false, false, false, false, false, false, false, false, false, false, false, false, false, false, false] (any_of HT_.out (by kernel_rfl)) ?_
              refine zU (i := 3) (N := some 34) #[true, true, true, true, false, false, false, false, false, false, false, false, false, false, false, false, false, false, false, false, false, false, false, false, false, false, false, false] (any_of HT_.out (by kernel_rfl)) ?_
              refine zU (i := 4) (N := some 35) #[true, true, true, true, true, false, false, false, false, false, false, false, false, false, false, false, false, false, false, false, false, false, false, false, false, false, false, false] (any_of HT_.out (by kernel_rfl)) ?_
              refine zU (i := 5) (N := some 36) #[true, true, true, true, true, true, false, false, false, false, false, false, false, false, false, false, false, false, false, false, false, false, false, false, false, false, false, false] (any_of HT_.out (by kernel_rfl)) ?_
              refine zU (i := 6) (N := some 37) #[true, true, true, true, true, true, true, false, false, false, false, false, false, false, false, false, false, false, false, false, false, false, false, false, false, false, false, false] (any_of HT_.out (by kernel_rfl)) ?_
              refine zU (i := 7) (N := some 38) #[true, true, true, true, true, true, true, true, false, false, false, false, false, false, false, false, false, false, false, false, false, false, false, false, false, false, false, false] (any_of HT_.out (by kernel_rfl)) ?_
              refine zU (i := 8) (N := some 39) #[true, true, true, true, true, true, true, true, true, false, false, false, false, false, false, false, false, false, false, false, false, false, false, false, false, false, false, false] (any_of HT_.out (by kernel_rfl)) ?_
              refine zU (i := 9) (N := some 40) #[true, true, true, true, true, true, true, true, true, true, false, false, false, false, false, false, false, false, false, false, false, false, false, false, false, false, false, false] (any_of HT_.out (by kernel_rfl)) ?_
              refine zU (i := 10) (N := some 41) #[true, true, true, true, true, true, true, true, true, true, true, false, false, false, false, false, false, false, false, false, false, false, false, false, false, false, false, false] (any_of HT_.out (by kernel_rfl)) ?_
              refine zU (i := 11) (N := some 42) #[true, true, true, true, true, true, true, true, true, true, true, true, false, false, false, false, false, false, false, false, false, false, false, false, false, false, false, false] (any_of HT_.out (by kernel_rfl)) ?_
              refine zU (i := 12) (N := some 43) #[true, true, true, true, true, true, true, true, true, true, true, true, true, false, false, false, false, false, false, false, false, false, false, false, false, false, false, false] (any_of HT_.out (by kernel_rfl)) ?_
              refine zU (i := 13) (N := some 44) #[true, true, true, true, true, true, true, true, true, true, true, true, true, true, false, false, false, false, false, false, false, false, false, false, false, false, false, false] (any_of HT_.out (by kernel_rfl)) ?_
              refine zU (i := 14) (N := some 45) #[true, true, true, true, true, true, true, true, true, true, true, true, true, true, true, false, false, false, false, false, false, false, false, false, false, false, false, false] (any_of HT_.out (by kernel_rfl)) ?_
              refine zU (i := 15) (N := some 46) #[true, true, true, true, true, true, true, true, true, true, true, true, true, true, true, true, false, false, false, false, false, false, false, false, false, false, false, false] (any_of HT_.out (by kernel_rfl)) ?_
              refine zU (i := 16) (N := some 47) #[true, true, true, true, true, true, true, true, true, true, true, true, true, true, true, true, true, false, false, false, false, false, false, false, false, false, false, false] (any_of HT_.out (by kernel_rfl)) ?_
              refine zU (i := 17) (N := some 48) #[true, true, true, true, true, true, true, true, true, true, true, true, true, true, true, true, true, true, false, false, false, false, false, false, false, false, false, false] (any_of HT_.out (by kernel_rfl)) ?_
              refine zU (i := 18) (N := some 49) #[true, true, true, true, true, true, true, true, true, true, true, true, true, true, true, true, true, true, true, false, false, false, false, false, false, false, false, false] (any_of HT_.out (by kernel_rfl)) ?_
              refine zU (i := 19) (N := some 50) #[true, true, true, true, true, true, true, true, true, true, true, true, true, true, true, true, true, true, true, true, false, false, false, false, false, false, false, false] (any_of HT_.out (by kernel_rfl)) ?_
              refine zU (i := 20) (N := some 51) #[true, true, true, true, true, true, true, true, true, true, true, true, true, true, true, true, true, true, true, true, true, false, false, false, false, false, false, false] (any_of HT_.out (by kernel_rfl)) ?_
              refine zU (i := 21) (N := some 52) #[true, true, true, true, true, true, true, true, true, true, true, true, true, true, true, true, true, true, true, true, true, true, false, false, false, false, false, false] (any_of HT_.out (by kernel_rfl)) ?_
              refine zU (i := 22) (N := some 53) #[true, true, true, true, true, true, true, true, true, true, true, true, true, true, true, true, true, true, true, true, true, true, true, false, false, false, false, false] (any_of HT_.out (by kernel_rfl)) ?_
              refine zU (i := 23) (N := some 54) #[true, true, true, true, true, true, true, true, true, true, true, true, true, true, true, true, true, true, true, true, true, true, true, true, false, false, false, false] (any_of HT_.out (by kernel_rfl)) ?_
              refine zU (i := 24) (N := some 55) #[true, true, true, true, true, true, true, true, true, true, true, true, true, true, true, true, true, true, true, true, true, true, true, true, true, false, false, false] (any_of HT_.out (by kernel_rfl)) ?_
              refine zU (i := 25) (N := some 56) #[true, true, true, true, true, true, true, true, true, true, true, true, true, true, true, true, true, true, true, true, true, true, true, true, true, true, false, false] (any_of HT_.out (by kernel_rfl)) ?_
              refine zU (i := 26) (N := some 57) #[true, true, true, true, true, true, true, true, true, true, true, true, true, true, true, true, true, true, true, true, true, true, true, true, true, true, true, false] (any_of HT_.out (by kernel_rfl)) ?_
              refine zU (i := 27) (N := some 0) #[true, true, true, true, true, true, true, true, true, true, true, true, true, true, true, true, true, true, true, true, true, true, true, true, true, true, true, true] (any_of HT_.out (by kernel_rfl)) ?_
              refine done_ (done_of HT_.out (by kernel_rfl)) ?_
              try go_wp2
              go_ret
              exact ⟨by first | rfl | (simp [errW_none, errW_some] <;> rfl) | (simp [*, errW_none, errW_some] <;> rfl), zT HB⟩
            · rw [if_neg c14] at H
              have c14b0 : (t225 == 0) = false := beq_eq_false_iff_ne.mpr c14
              have c14b1 : (t225 != 0) = true := bne_iff_ne.mpr c14
              exact absurd H (by simp)
          · rw [if_neg c13] at H
            have c13b0 : (t224.toList == ([45, 51, 47, 50] : List UInt8)) = false := beq_eq_false_iff_ne.mpr c13
            have c13b1 : (t224.toList != ([45, 51, 47, 50] : List UInt8)) = true := bne_iff_ne.mpr c13
            exact absurd H (by simp)
        · rw [if_neg c12] at H
          have c12b0 : (t223 == 0) = false := beq_eq_false_iff_ne.mpr c12
          have c12b1 : (t223 != 0) = true := bne_iff_ne.mpr c12
          exact absurd H (by simp)
      · rw [if_neg c11] at H
        have c11b0 : (t222.toList == ([45, 50] : List UInt8)) = false := beq_eq_false_iff_ne.mpr c11
        have c11b1 : (t222.toList != ([45, 50] : List UInt8)) = true := bne_iff_ne.mpr c11
        exact absurd H (by simp)
    · rw [if_neg c10] at H
      have c10b0 : (t220 == 0) = false := beq_eq_false_iff_ne.mpr c10
      have c10b1 : (t220 != 0) = true := bne_iff_ne.mpr c10
      exact absurd H (by simp)
  · rw [if_neg c9] at H
    have c9b0 : ((t217 == t234 && (t218.toList == t235.toList)) && (t219.toList == t236.toList)) = false := by simpa using c9
    clear c9
    exact absurd H (by simp)

end Go.Proofs.YtoijlbcbbblbfaaGreatDoorH.R

-- printed by hp.py
namespace Go.Proofs.YtoijlbcbbblbfaaGreatDoorH.R
open Go.RowKit Go.Proofs.YtoijlbcbbblbfaaGreatDoorH.Z Go.Proofs.YtoijlbcbbblbfaaGreatDoorW.PrintWords Go.Proofs.YtoijlbcbbblbfaaGreatDoorW.PrintLast Go.Proofs.YtoijlbcbbblbfaaGreatDoorW.PrintMore
attribute [local go_sem] max2_int min2_int max_two min_two max_three min_three max_four min_four   -- for this text's walks alone
set_option linter.unusedVariables false
set_option linter.unusedSimpArgs false

/-! ### rat_Mul: function 28 -/
def rat_Mul.f (k : Nat) (a0_0 : Bool) (a0_1 : ByteArray) (a0_2 : ByteArray) (a1_0 : Bool) (a1_1 : ByteArray) (a1_2 : ByteArray) : Option (Bool × ByteArray × ByteArray × Int) := (rat_both.f k a0_0 a0_1 a0_2 a1_0 a1_1 a1_2).bind fun t400 => (if t400 = 0 then ((rat_do_of_whole_Mul.f a0_0 a0_1 a1_0 a1_1).bind fun bt401 => ((rat_den.f a0_0 a0_1 a0_2).bind fun bt403 => ((rat_den.f a1_0 a1_1 a1_2).bind fun bt405 => ((rat_do_of_whole_Mul.f bt403.1 bt403.2 bt405.1 bt405.2).bind fun bt407 => ((rat_lowest.f k bt401.1 bt401.2 bt407.1 bt407.2).bind fun bt409 => (some (bt409.1, bt409.2.1, bt409.2.2, 0))))))) else (some (false, (⟨#[]⟩ : ByteArray), (⟨#[]⟩ : ByteArray), t400)))
def rat_Mul.T4 : Bool × List (List Nat × List Nat) := (true, [([], []), ([0], [0]), ([], []), ([2], [2]), ([1, 3], [1, 3]), ([], []), ([5, 4], [5]), ([], []), ([7, 6], [7]), ([6, 8, 8], [6, 8]), ([4, 9, 9], [4, 9]), ([10, 10, 0, 1, 2, 3, 4, 5, 6, 7, 8, 9, 10], [10]), ([11, 0, 1, 2, 3, 4, 5, 6, 7, 8, 9, 10, 11], [])])
def rat_Mul.B4 : List Nat := [0, 1, 0, 4, 15, 0, 63, 0, 255, 511, 1023, 2047, 4095]
theorem rat_Mul.tab4 : rtab .any (opsOf Tryz.f28 4) = rat_Mul.T4 := by kernel_rfl
theorem rat_Mul.bits4 : waitsOk rat_Mul.T4.2 rat_Mul.B4 = true := by kernel_rfl
set_option maxHeartbeats 8000000 in
set_option maxRecDepth 100000 in
theorem rat_Mul.calls (k : Nat) (a0_0 : Bool) (a0_1 : ByteArray) (a0_2 : ByteArray) (a1_0 : Bool) (a1_1 : ByteArray) (a1_2 : ByteArray) (r1 : Bool) (r2 : ByteArray) (r3 : ByteArray) (r4 : Int) (w : World) (h : rat_Mul.f k a0_0 a0_1 a0_2 a1_0 a1_1 a1_2 = some (r1, r2, r3, r4)) :
    Calls Tryz.prog 28 #[.agg #[.bool a0_0, .string a0_1, .string a0_2], .agg #[.bool a1_0, .string a1_1, .string a1_2]] w fun e w' => e = .returned (.tuple #[.agg #[.bool r1, .string r2, .string r3], .int .i64 r4]) ∧ Below w.heap.size w w' := by
  have hu27 := Tryz.underlying27
  have hu24 := Tryz.underlying24; have hf0 := zf240; have hf1 := zf241; have hf2 := zf270; have hf3 := zf271
  have HB := Aside0.mk (Below.refl w.heap.size w)
  have H : ((rat_both.f k a0_0 a0_1 a0_2 a1_0 a1_1 a1_2).bind fun t400 => (if t400 = 0 then ((rat_do_of_whole_Mul.f a0_0 a0_1 a1_0 a1_1).bind fun bt401 => ((rat_den.f a0_0 a0_1 a0_2).bind fun bt403 => ((rat_den.f a1_0 a1_1 a1_2).bind fun bt405 => ((rat_do_of_whole_Mul.f bt403.1 bt403.2 bt405.1 bt405.2).bind fun bt407 => ((rat_lowest.f k bt401.1 bt401.2 bt407.1 bt407.2).bind fun bt409 => (some (bt409.1, bt409.2.1, bt409.2.2, 0))))))) else (some (false, (⟨#[]⟩ : ByteArray), (⟨#[]⟩ : ByteArray), t400)))) = some (r1, r2, r3, r4) := h
  clear h
  replace H := Option.bind_eq_some_iff.mp H
  obtain ⟨t400, A30, H⟩ := H
  replace H : (if t400 = 0 then ((rat_do_of_whole_Mul.f a0_0 a0_1 a1_0 a1_1).bind fun bt401 => ((rat_den.f a0_0 a0_1 a0_2).bind fun bt403 => ((rat_den.f a1_0 a1_1 a1_2).bind fun bt405 => ((rat_do_of_whole_Mul.f bt403.1 bt403.2 bt405.1 bt405.2).bind fun bt407 => ((rat_lowest.f k bt401.1 bt401.2 bt407.1 bt407.2).bind fun bt409 => (some (bt409.1, bt409.2.1, bt409.2.2, 0))))))) else (some (false, (⟨#[]⟩ : ByteArray), (⟨#[]⟩ : ByteArray), t400))) = some (r1, r2, r3, r4) := H
  have A3 := Aside0.mk A30
  clear A30
  by_cases c4 : t400 = 0
  · rw [if_pos c4] at H
    have c4b0 : (t400 == 0) = true := beq_iff_eq.mpr c4
    have c4b1 : (t400 != 0) = false := bne_eq_false_iff_eq.mpr c4
    clear c4
    replace H := Option.bind_eq_some_iff.mp H
    obtain ⟨⟨t401, t402⟩, A50, H⟩ := H
    replace H : ((rat_den.f a0_0 a0_1 a0_2).bind fun bt403 => ((rat_den.f a1_0 a1_1 a1_2).bind fun bt405 => ((rat_do_of_whole_Mul.f bt403.1 bt403.2 bt405.1 bt405.2).bind fun bt407 => ((rat_lowest.f k t401 t402 bt407.1 bt407.2).bind fun bt409 => (some (bt409.1, bt409.2.1, bt409.2.2, 0)))))) = some (r1, r2, r3, r4) := H
    have A5 := Aside0.mk A50
    clear A50
    replace H := Option.bind_eq_some_iff.mp H
    obtain ⟨⟨t403, t404⟩, A60, H⟩ := H
    replace H : ((rat_den.f a1_0 a1_1 a1_2).bind fun bt405 => ((rat_do_of_whole_Mul.f t403 t404 bt405.1 bt405.2).bind fun bt407 => ((rat_lowest.f k t401 t402 bt407.1 bt407.2).bind fun bt409 => (some (bt409.1, bt409.2.1, bt409.2.2, 0))))) = some (r1, r2, r3, r4) := H
    have A6 := Aside0.mk A60
    clear A60
    replace H := Option.bind_eq_some_iff.mp H
    obtain ⟨⟨t405, t406⟩, A70, H⟩ := H
    replace H : ((rat_do_of_whole_Mul.f t403 t404 t405 t406).bind fun bt407 => ((rat_lowest.f k t401 t402 bt407.1 bt407.2).bind fun bt409 => (some (bt409.1, bt409.2.1, bt409.2.2, 0)))) = some (r1, r2, r3, r4) := H
    have A7 := Aside0.mk A70
    clear A70
    replace H := Option.bind_eq_some_iff.mp H
    obtain ⟨⟨t407, t408⟩, A80, H⟩ := H
    replace H : ((rat_lowest.f k t401 t402 t407 t408).bind fun bt409 => (some (bt409.1, bt409.2.1, bt409.2.2, 0))) = some (r1, r2, r3, r4) := H
    have A8 := Aside0.mk A80
    clear A80
    replace H := Option.bind_eq_some_iff.mp H
    obtain ⟨⟨t409, t410, t411⟩, A90, H⟩ := H
    replace H : (some (t409, t410, t411, 0)) = some (r1, r2, r3, r4) := H
    have A9 := Aside0.mk A90
    clear A90
    simp only [Option.some.injEq, Prod.mk.injEq] at H
    obtain ⟨rfl, rfl, rfl, rfl⟩ := H
    go_enter Tryz.func28, Tryz.ntmps28
    try go_wp2_with (first | ((with_reducible refine gate_dst (N := 2) rfl ?_); refine box_event ?hg (N := 2) ?hd (cs := #[.bool a0_0, .string a0_1, .string a0_2]) (t := 27) ?hr ?_; (case hd => rfl); (case hg => rfl); (case hr => first | (go_simp; done) | (go_simp; rfl)); intro gb397 hg w10 hbox hb; have BK397 := Aside0.mk (hbox); have GW397 := zG hg HB; have GE397 := zG hg HB; replace HB := zS HB hb; clear hb hbox hg) | ((with_reducible refine gate_dst (N := 3) rfl ?_); refine box_event ?hg (N := 3) ?hd (cs := #[.bool a1_0, .string a1_1, .string a1_2]) (t := 27) ?hr ?_; (case hd => rfl); (case hg => rfl); (case hr => first | (go_simp; done) | (go_simp; rfl)); intro gb398 hg w11 hbox hb; have BK398 := Aside0.mk (hbox); have GW398 := zG hg HB; have GE398 := zG hg HB; have NB397_398 := zN hg BK397; have NB398_397 := zM hg BK397; replace BK397 := zB BK397 hb; replace HB := zS HB hb; clear hb hbox hg) | ((with_reducible refine gate_dst (N := 4) rfl ?_); refine box_event ?hg (N := 4) ?hd (cs := #[.bool false, .string (⟨#[]⟩ : ByteArray), .string (⟨#[]⟩ : ByteArray)]) (t := 27) ?hr ?_; (case hd => rfl); (case hg => rfl); (case hr => first | (go_simp; done) | (go_simp; rfl)); intro gb399 hg w12 hbox hb; have BK399 := Aside0.mk (hbox); have GW399 := zG hg HB; have GE399 := zG hg HB; have NB397_399 := zN hg BK397; have NB399_397 := zM hg BK397; have NB398_399 := zN hg BK398; have NB399_398 := zM hg BK398; replace BK397 := zB BK397 hb; replace BK398 := zB BK398 hb; replace HB := zS HB hb; clear hb hbox hg; have hnb13 := NB397_398.out; have hnc13 := NB398_397.out; have hnb14 := NB397_399.out; have hnc14 := NB399_397.out; obtain ⟨hcz15_0, hcz15_1, hcz15_2, hfz15_0, hfz15_1, hfz15_2⟩ := z3 BK397; have hnb16 := NB398_399.out; have hnc16 := NB399_398.out; obtain ⟨hcz17_0, hcz17_1, hcz17_2, hfz17_0, hfz17_1, hfz17_2⟩ := z3 BK398) | ((with_reducible refine gate_callee (f := 72) rfl ?_); refine zC Tryz.func72 (by kernel_rfl) #[.agg #[.bool a0_0, .string a0_1, .string a0_2], .agg #[.bool a1_0, .string a1_1, .string a1_2]] ?_; (with_reducible refine (rat_both.calls k a0_0 a0_1 a0_2 a1_0 a1_1 a1_2 t400 _ A3.out).mono ?_); rintro e w18 ⟨rfl, hb⟩; refine ⟨_, rfl, ?_⟩; replace BK397 := zB BK397 hb; replace BK398 := zB BK398 hb; replace BK399 := zB BK399 hb; replace HB := zS HB hb; (try clear hb)))
    replace BK397 := zD BK397; replace BK398 := zD BK398; replace BK399 := zD BK399; replace HB := zF HB
    refine start_ (n := 13) (S := fun w' => w'.cell? ⟨gb397, 0, none⟩ = some (.bool a0_0) ∧ w'.cell? ⟨gb397, 1, none⟩ = some (.string a0_1) ∧ w'.cell? ⟨gb397, 2, none⟩ = some (.string a0_2) ∧ w'.cell? ⟨gb398, 0, none⟩ = some (.bool a1_0) ∧ w'.cell? ⟨gb398, 1, none⟩ = some (.string a1_1) ∧ w'.cell? ⟨gb398, 2, none⟩ = some (.string a1_2)) (ds := []) #[false, false, false, false, false, false, false, false, false, false, false, false, false] (by kernel_rfl) rfl rfl ⟨(blk_cell BK397.out 0).trans rfl, (blk_cell BK397.out 1).trans rfl, (blk_cell BK397.out 2).trans rfl, (blk_cell BK398.out 0).trans rfl, (blk_cell BK398.out 1).trans rfl, (blk_cell BK398.out 2).trans rfl⟩ (fun hHeld => ?_); refine with_tabW rat_Mul.tab4 rat_Mul.bits4 (fun HT_ HW_ => ?_)
    generalize w18.drew = w19 at BK397 BK398 BK399 HB hHeld ⊢
    refine zU (i := 0) (N := some 14) #[true, false, false, false, false, false, false, false, false, false, false, false, false] (any_of HT_.out (by kernel_rfl)) ?_
    refine zU (i := 2) (N := some 16) #[true, false, true, false, false, false, false, false, false, false, false, false, false] (any_of HT_.out (by kernel_rfl)) ?_
    refine zV (i := 1) (N := some 15) #[true, true, true, false, false, false, false, false, false, false, false, false, false] (take_ofW HT_.out HW_.out (by kernel_rfl)) hHeld ?_
    refine zV (i := 3) (N := some 17) #[true, true, true, true, false, false, false, false, false, false, false, false, false] (take_ofW HT_.out HW_.out (by kernel_rfl)) hHeld ?_
    refine zV (i := 5) (N := some 19) #[true, true, true, true, false, true, false, false, false, false, false, false, false] (take_ofW HT_.out HW_.out (by kernel_rfl)) hHeld ?_
    refine zV (i := 7) (N := some 21) #[true, true, true, true, false, true, false, true, false, false, false, false, false] (take_ofW HT_.out HW_.out (by kernel_rfl)) hHeld ?_
    refine one_ (i := 4) (N := some 18) #[true, true, true, true, true, true, false, true, false, false, false, false, false] rfl rfl (one_of HT_.out (by kernel_rfl)) (by decide) (fun K hK => ?_)
    refine zX Tryz.func57 (by kernel_rfl) #[.func (.func 58) #[] #[], .agg #[.bool a0_0, .string a0_1], .agg #[.bool a1_0, .string a1_1]] ?_
    with_reducible refine (rat_do_of_whole_Mul.calls a0_0 a0_1 a1_0 a1_1 t401 t402 _ A5.out).mono ?_
    rintro e w20 ⟨rfl, hb⟩; refine ⟨_, rfl, ?_⟩
    replace BK397 := zB BK397 hb; replace BK398 := zB BK398 hb; replace BK399 := zB BK399 hb; replace HB := zS HB hb
    (try clear hb)
    refine hK.out _ _ ⟨(blk_cell BK397.out 0).trans rfl, (blk_cell BK397.out 1).trans rfl, (blk_cell BK397.out 2).trans rfl, (blk_cell BK398.out 0).trans rfl, (blk_cell BK398.out 1).trans rfl, (blk_cell BK398.out 2).trans rfl⟩ (fun hHeld => ?_)
    clear hK K
    refine zW (some 18) ?_
    refine one_ (i := 6) (N := some 20) #[true, true, true, true, true, true, true, true, false, false, false, false, false] rfl rfl (one_of HT_.out (by kernel_rfl)) (by decide) (fun K hK => ?_)
    refine zX Tryz.func60 (by kernel_rfl) #[.agg #[.bool a0_0, .string a0_1, .string a0_2]] ?_
    with_reducible refine (rat_den.calls a0_0 a0_1 a0_2 t403 t404 _ A6.out).mono ?_
    rintro e w21 ⟨rfl, hb⟩; refine ⟨_, rfl, ?_⟩
    replace BK397 := zB BK397 hb; replace BK398 := zB BK398 hb; replace BK399 := zB BK399 hb; replace HB := zS HB hb
    (try clear hb)
    refine hK.out _ _ ⟨(blk_cell BK397.out 0).trans rfl, (blk_cell BK397.out 1).trans rfl, (blk_cell BK397.out 2).trans rfl, (blk_cell BK398.out 0).trans rfl, (blk_cell BK398.out 1).trans rfl, (blk_cell BK398.out 2).trans rfl⟩ (fun hHeld => ?_)
    clear hK K
    refine zW (some 20) ?_
    refine one_ (i := 8) (N := some 22) #[true, true, true, true, true, true, true, true, true, false, false, false, false] rfl rfl (one_of HT_.out (by kernel_rfl)) (by decide) (fun K hK => ?_)
    refine zX Tryz.func60 (by kernel_rfl) #[.agg #[.bool a1_0, .string a1_1, .string a1_2]] ?_
    with_reducible refine (rat_den.calls a1_0 a1_1 a1_2 t405 t406 _ A7.out).mono ?_
    rintro e w22 ⟨rfl, hb⟩; refine ⟨_, rfl, ?_⟩
    replace BK397 := zB BK397 hb; replace BK398 := zB BK398 hb; replace BK399 := zB BK399 hb; replace HB := zS HB hb
    (try clear hb)
    refine hK.out _ _ ⟨(blk_cell BK397.out 0).trans rfl, (blk_cell BK397.out 1).trans rfl, (blk_cell BK397.out 2).trans rfl, (blk_cell BK398.out 0).trans rfl, (blk_cell BK398.out 1).trans rfl, (blk_cell BK398.out 2).trans rfl⟩ (fun hHeld => ?_)
    clear hK K
    refine zW (some 22) ?_
    refine one_ (i := 9) (N := some 23) #[true, true, true, true, true, true, true, true, true, true, false, false, false] rfl rfl (one_of HT_.out (by kernel_rfl)) (by decide) (fun K hK => ?_)
    refine zX Tryz.func57 (by kernel_rfl) #[.func (.func 58) #[] #[], .agg #[.bool t403, .string t404], .agg #[.bool t405, .string t406]] ?_
    with_reducible refine (rat_do_of_whole_Mul.calls t403 t404 t405 t406 t407 t408 _ A8.out).mono ?_
    rintro e w23 ⟨rfl, hb⟩; refine ⟨_, rfl, ?_⟩
    replace BK397 := zB BK397 hb; replace BK398 := zB BK398 hb; replace BK399 := zB BK399 hb; replace HB := zS HB hb
    (try clear hb)
    refine hK.out _ _ ⟨(blk_cell BK397.out 0).trans rfl, (blk_cell BK397.out 1).trans rfl, (blk_cell BK397.out 2).trans rfl, (blk_cell BK398.out 0).trans rfl, (blk_cell BK398.out 1).trans rfl, (blk_cell BK398.out 2).trans rfl⟩ (fun hHeld => ?_)
    clear hK K
    refine zW (some 23) ?_
    refine one_ (i := 10) (N := some 24) #[true, true, true, true, true, true, true, true, true, true, true, false, false] rfl rfl (one_of HT_.out (by kernel_rfl)) (by decide) (fun K hK => ?_)
    refine zX Tryz.func47 (by kernel_rfl) #[.agg #[.bool t401, .string t402], .agg #[.bool t407, .string t408]] ?_
    with_reducible refine (rat_lowest.calls k t401 t402 t407 t408 t409 t410 t411 _ A9.out).mono ?_
    rintro e w24 ⟨rfl, hb⟩; refine ⟨_, rfl, ?_⟩
    replace BK397 := zB BK397 hb; replace BK398 := zB BK398 hb; replace BK399 := zB BK399 hb; replace HB := zS HB hb
    (try clear hb)
    refine hK.out _ _ ⟨(blk_cell BK397.out 0).trans rfl, (blk_cell BK397.out 1).trans rfl, (blk_cell BK397.out 2).trans rfl, (blk_cell BK398.out 0).trans rfl, (blk_cell BK398.out 1).trans rfl, (blk_cell BK398.out 2).trans rfl⟩ (fun hHeld => ?_)
    clear hK K
    refine zW (some 24) ?_
    refine one_ (i := 11) (N := none) #[true, true, true, true, true, true, true, true, true, true, true, true, false] rfl rfl (one_of HT_.out (by kernel_rfl)) (by decide) (fun K hK => ?_)
    have hs25 : w24.cell? ⟨gb399, 0, none⟩ = some (.bool false) := (blk_cell BK399.out 0).trans rfl
    have hfs25 := blk_frozen BK399.out 0
    have hns25_0 := NB397_399.out
    have hns25_1 := NB398_399.out
    have hms25_0 := NB399_397.out
    have hms25_1 := NB399_398.out
    have hs26 : w24.cell? ⟨gb399, 1, none⟩ = some (.string (⟨#[]⟩ : ByteArray)) := (blk_cell BK399.out 1).trans rfl
    have hfs26 := blk_frozen BK399.out 1
    have hns26_0 := NB397_399.out
    have hns26_1 := NB398_399.out
    have hms26_0 := NB399_397.out
    have hms26_1 := NB399_398.out
    have hs27 : w24.cell? ⟨gb399, 2, none⟩ = some (.string (⟨#[]⟩ : ByteArray)) := (blk_cell BK399.out 2).trans rfl
    have hfs27 := blk_frozen BK399.out 2
    have hns27_0 := NB397_399.out
    have hns27_1 := NB398_399.out
    have hms27_0 := NB399_397.out
    have hms27_1 := NB399_398.out
    refine skip_ (w1 := ?_) (by rfl) rfl ?_ ?_
    rotate_left
    · go_simp
      rfl
    refine hK.out _ _ ⟨((cell_far (p := ⟨gb399, _, none⟩) NB397_399.out _).trans (((cell_far (p := ⟨gb399, _, none⟩) NB397_399.out _).trans (((cell_far (p := ⟨gb399, _, none⟩) NB397_399.out _).trans (hHeld.1)))))), ((cell_far (p := ⟨gb399, _, none⟩) NB397_399.out _).trans (((cell_far (p := ⟨gb399, _, none⟩) NB397_399.out _).trans (((cell_far (p := ⟨gb399, _, none⟩) NB397_399.out _).trans (hHeld.2.1)))))), ((cell_far (p := ⟨gb399, _, none⟩) NB397_399.out _).trans (((cell_far (p := ⟨gb399, _, none⟩) NB397_399.out _).trans (((cell_far (p := ⟨gb399, _, none⟩) NB397_399.out _).trans (hHeld.2.2.1)))))), ((cell_far (p := ⟨gb399, _, none⟩) NB398_399.out _).trans (((cell_far (p := ⟨gb399, _, none⟩) NB398_399.out _).trans (((cell_far (p := ⟨gb399, _, none⟩) NB398_399.out _).trans (hHeld.2.2.2.1)))))), ((cell_far (p := ⟨gb399, _, none⟩) NB398_399.out _).trans (((cell_far (p := ⟨gb399, _, none⟩) NB398_399.out _).trans (((cell_far (p := ⟨gb399, _, none⟩) NB398_399.out _).trans (hHeld.2.2.2.2.1)))))), ((cell_far (p := ⟨gb399, _, none⟩) NB398_399.out _).trans (((cell_far (p := ⟨gb399, _, none⟩) NB398_399.out _).trans (((cell_far (p := ⟨gb399, _, none⟩) NB398_399.out _).trans (hHeld.2.2.2.2.2))))))⟩ (fun hHeld => ?_)
    clear hK K
    refine zU (i := 12) (N := some 5) #[true, true, true, true, true, true, true, true, true, true, true, true, true] (any_of HT_.out (by kernel_rfl)) ?_
    refine done_ (done_of HT_.out (by kernel_rfl)) ?_
    try go_wp2
    refine bodyPost_ret (results_ct rfl _ _ gb399 27 #[.bool t409, .string t410, .string t411] (0, 0) _ rfl (by (with_reducible repeat (first | refine blk_drewN ?_ _ | refine blk_drew ?_ | refine blk_alloc ?_ _)); refine zP (cs := #[.bool t409, .string t410, .string (⟨#[]⟩ : ByteArray)]) ?_ 2 _; (with_reducible repeat (first | refine blk_drewN ?_ _ | refine blk_drew ?_ | refine blk_alloc ?_ _)); refine zP (cs := #[.bool t409, .string (⟨#[]⟩ : ByteArray), .string (⟨#[]⟩ : ByteArray)]) ?_ 1 _; (with_reducible repeat (first | refine blk_drewN ?_ _ | refine blk_drew ?_ | refine blk_alloc ?_ _)); refine zP (cs := #[.bool false, .string (⟨#[]⟩ : ByteArray), .string (⟨#[]⟩ : ByteArray)]) ?_ 0 _; (with_reducible repeat (first | refine blk_drewN ?_ _ | refine blk_drew ?_ | refine blk_alloc ?_ _)); exact BK399.out) Tryz.underlying27 rfl (by kernel_rfl)) rfl ?_
    exact ⟨by first | rfl | (simp [errW_none, errW_some] <;> rfl) | (simp [*, errW_none, errW_some] <;> rfl), zT HB⟩
  · rw [if_neg c4] at H
    have c4b0 : (t400 == 0) = false := beq_eq_false_iff_ne.mpr c4
    have c4b1 : (t400 != 0) = true := bne_iff_ne.mpr c4
    simp only [Option.some.injEq, Prod.mk.injEq] at H
    obtain ⟨rfl, rfl, rfl, rfl⟩ := H
    go_enter Tryz.func28, Tryz.ntmps28
    go_wp2_with (first | ((with_reducible refine gate_dst (N := 2) rfl ?_); refine box_event ?hg (N := 2) ?hd (cs := #[.bool a0_0, .string a0_1, .string a0_2]) (t := 27) ?hr ?_; (case hd => rfl); (case hg => rfl); (case hr => first | (go_simp; done) | (go_simp; rfl)); intro gb397 hg w28 hbox hb; have BK397 := Aside0.mk (hbox); have GW397 := zG hg HB; have GE397 := zG hg HB; replace HB := zS HB hb; clear hb hbox hg) | ((with_reducible refine gate_dst (N := 3) rfl ?_); refine box_event ?hg (N := 3) ?hd (cs := #[.bool a1_0, .string a1_1, .string a1_2]) (t := 27) ?hr ?_; (case hd => rfl); (case hg => rfl); (case hr => first | (go_simp; done) | (go_simp; rfl)); intro gb398 hg w29 hbox hb; have BK398 := Aside0.mk (hbox); have GW398 := zG hg HB; have GE398 := zG hg HB; have NB397_398 := zN hg BK397; have NB398_397 := zM hg BK397; replace BK397 := zB BK397 hb; replace HB := zS HB hb; clear hb hbox hg) | ((with_reducible refine gate_dst (N := 4) rfl ?_); refine box_event ?hg (N := 4) ?hd (cs := #[.bool false, .string (⟨#[]⟩ : ByteArray), .string (⟨#[]⟩ : ByteArray)]) (t := 27) ?hr ?_; (case hd => rfl); (case hg => rfl); (case hr => first | (go_simp; done) | (go_simp; rfl)); intro gb399 hg w30 hbox hb; have BK399 := Aside0.mk (hbox); have GW399 := zG hg HB; have GE399 := zG hg HB; have NB397_399 := zN hg BK397; have NB399_397 := zM hg BK397; have NB398_399 := zN hg BK398; have NB399_398 := zM hg BK398; replace BK397 := zB BK397 hb; replace BK398 := zB BK398 hb; replace HB := zS HB hb; clear hb hbox hg; have hnb31 := NB397_398.out; have hnc31 := NB398_397.out; have hnb32 := NB397_399.out; have hnc32 := NB399_397.out; obtain ⟨hcz33_0, hcz33_1, hcz33_2, hfz33_0, hfz33_1, hfz33_2⟩ := z3 BK397; have hnb34 := NB398_399.out; have hnc34 := NB399_398.out; obtain ⟨hcz35_0, hcz35_1, hcz35_2, hfz35_0, hfz35_1, hfz35_2⟩ := z3 BK398) | ((with_reducible refine gate_callee (f := 72) rfl ?_); refine zC Tryz.func72 (by kernel_rfl) #[.agg #[.bool a0_0, .string a0_1, .string a0_2], .agg #[.bool a1_0, .string a1_1, .string a1_2]] ?_; (with_reducible refine (rat_both.calls k a0_0 a0_1 a0_2 a1_0 a1_1 a1_2 t400 _ A3.out).mono ?_); rintro e w36 ⟨rfl, hb⟩; refine ⟨_, rfl, ?_⟩; replace BK397 := zB BK397 hb; replace BK398 := zB BK398 hb; replace BK399 := zB BK399 hb; replace HB := zS HB hb; (try clear hb); obtain ⟨hcz37_0, hcz37_1, hcz37_2, hfz37_0, hfz37_1, hfz37_2⟩ := z3 BK399))
    refine bodyPost_ret (results_ct rfl _ _ gb399 27 #[.bool false, .string (⟨#[]⟩ : ByteArray), .string (⟨#[]⟩ : ByteArray)] (0, 0) _ rfl (by (with_reducible repeat (first | refine blk_drewN ?_ _ | refine blk_drew ?_ | refine blk_alloc ?_ _)); refine zP (cs := #[.bool false, .string (⟨#[]⟩ : ByteArray), .string (⟨#[]⟩ : ByteArray)]) ?_ 2 _; (with_reducible repeat (first | refine blk_drewN ?_ _ | refine blk_drew ?_ | refine blk_alloc ?_ _)); refine zP (cs := #[.bool false, .string (⟨#[]⟩ : ByteArray), .string (⟨#[]⟩ : ByteArray)]) ?_ 1 _; (with_reducible repeat (first | refine blk_drewN ?_ _ | refine blk_drew ?_ | refine blk_alloc ?_ _)); refine zP (cs := #[.bool false, .string (⟨#[]⟩ : ByteArray), .string (⟨#[]⟩ : ByteArray)]) ?_ 0 _; (with_reducible repeat (first | refine blk_drewN ?_ _ | refine blk_drew ?_ | refine blk_alloc ?_ _)); exact BK399.out) Tryz.underlying27 rfl (by kernel_rfl)) rfl ?_
    exact ⟨by first | rfl | (simp [errW_none, errW_some] <;> rfl) | (simp [*, errW_none, errW_some] <;> rfl), zT HB⟩

end Go.Proofs.YtoijlbcbbblbfaaGreatDoorH.R

-- printed by hp.py
namespace Go.Proofs.YtoijlbcbbblbfaaGreatDoorH.R
open Go.RowKit Go.Proofs.YtoijlbcbbblbfaaGreatDoorH.Z Go.Proofs.YtoijlbcbbblbfaaGreatDoorW.PrintWords Go.Proofs.YtoijlbcbbblbfaaGreatDoorW.PrintLast Go.Proofs.YtoijlbcbbblbfaaGreatDoorW.PrintMore
attribute [local go_sem] max2_int min2_int max_two min_two max_three min_three max_four min_four   -- for this text's walks alone
set_option linter.unusedVariables false
set_option linter.unusedSimpArgs false

/-! ### gussetlaw03_small: function 33 -/
def gussetlaw03_small.f (a0_0 : Bool) (a0_1 : ByteArray) (a0_2 : ByteArray) : Option (Bool) := if (a0_1.size : Int) ≤ 120 then (some (decide ((a0_2.size : Int) ≤ 120))) else (some false)
set_option maxHeartbeats 8000000 in
set_option maxRecDepth 100000 in
theorem gussetlaw03_small.calls (a0_0 : Bool) (a0_1 : ByteArray) (a0_2 : ByteArray) (r : Bool) (w : World) (h : gussetlaw03_small.f a0_0 a0_1 a0_2 = some r) :
    Calls Tryz.prog 33 #[.agg #[.bool a0_0, .string a0_1, .string a0_2]] w fun e w' => e = .returned (.bool r) ∧ Below w.heap.size w w' := by
  have hu27 := Tryz.underlying27
  have HB := Aside0.mk (Below.refl w.heap.size w)
  have H : (if (a0_1.size : Int) ≤ 120 then (some (decide ((a0_2.size : Int) ≤ 120))) else (some false)) = some r := h
  clear h
  by_cases c2 : (a0_1.size : Int) ≤ 120
  · rw [if_pos c2] at H
    have c2b0 : decide ((a0_1.size : Int) ≤ 120) = true := decide_eq_true c2
    have c2b1 : decide (a0_1.size ≤ 120) = true := decide_eq_true (by omega)
    clear c2
    obtain rfl := Option.some.inj H
    go_enter Tryz.func33, Tryz.ntmps33
    go_wp2_with (first | ((with_reducible refine gate_dst (N := 1) rfl ?_); (try (refine gate_guard (by rfl) ?_; dsimp only)); refine box_event ?hg (N := 1) ?hd (cs := #[.bool a0_0, .string a0_1, .string a0_2]) (t := 27) ?hr ?_; (case hd => rfl); (case hg => rfl); (case hr => first | (go_simp; done) | (go_simp; rfl)); intro gb387 hg w3 hbox hb; have BK387 := Aside0.mk (hbox); have GW387 := zG hg HB; have GE387 := zG hg HB; replace HB := zS HB hb; clear hb hbox hg; obtain ⟨hcz4_0, hcz4_1, hcz4_2, hfz4_0, hfz4_1, hfz4_2⟩ := z3 BK387))
    go_ret
    exact ⟨by first | rfl | (simp [errW_none, errW_some] <;> rfl) | (simp [*, errW_none, errW_some] <;> rfl), zT HB⟩
  · rw [if_neg c2] at H
    have c2b0 : decide ((a0_1.size : Int) ≤ 120) = false := decide_eq_false c2
    have c2b1 : decide (a0_1.size ≤ 120) = false := decide_eq_false (by omega)
    clear c2
    obtain rfl := Option.some.inj H
    go_enter Tryz.func33, Tryz.ntmps33
    go_wp2_with (first | ((with_reducible refine gate_dst (N := 1) rfl ?_); (try (refine gate_guard (by rfl) ?_; dsimp only)); refine box_event ?hg (N := 1) ?hd (cs := #[.bool a0_0, .string a0_1, .string a0_2]) (t := 27) ?hr ?_; (case hd => rfl); (case hg => rfl); (case hr => first | (go_simp; done) | (go_simp; rfl)); intro gb387 hg w5 hbox hb; have BK387 := Aside0.mk (hbox); have GW387 := zG hg HB; have GE387 := zG hg HB; replace HB := zS HB hb; clear hb hbox hg; obtain ⟨hcz6_0, hcz6_1, hcz6_2, hfz6_0, hfz6_1, hfz6_2⟩ := z3 BK387))
    go_ret
    exact ⟨by first | rfl | (simp [errW_none, errW_some] <;> rfl) | (simp [*, errW_none, errW_some] <;> rfl), zT HB⟩

end Go.Proofs.YtoijlbcbbblbfaaGreatDoorH.R

-- printed by hp.py
namespace Go.Proofs.YtoijlbcbbblbfaaGreatDoorH.R
open Go.RowKit Go.Proofs.YtoijlbcbbblbfaaGreatDoorH.Z Go.Proofs.YtoijlbcbbblbfaaGreatDoorW.PrintWords Go.Proofs.YtoijlbcbbblbfaaGreatDoorW.PrintLast Go.Proofs.YtoijlbcbbblbfaaGreatDoorW.PrintMore
attribute [local go_sem] max2_int min2_int max_two min_two max_three min_three max_four min_four   -- for this text's walks alone
set_option linter.unusedVariables false
set_option linter.unusedSimpArgs false

/-! ### gussetref02_Check: function 48 -/
open Go.Proofs.YtoijlbcbbblbfaaGreatDoor Go.Proofs.YtoijlbcbbblbfaaGreatDoor.Num in
def gussetref02_Check.f (a0_0 : Bool) (a0_1 : ByteArray) : Option (Int) := some (chk a0_0 a0_1)
open Go.Proofs.YtoijlbcbbblbfaaGreatDoor Go.Proofs.YtoijlbcbbblbfaaGreatDoor.Num in
theorem gussetref02_Check.calls (a0_0 : Bool) (a0_1 : ByteArray) (r : Int) (w : World) (h : gussetref02_Check.f a0_0 a0_1 = some r) :
    Calls Tryz.prog 48 #[.agg #[.bool a0_0, .string a0_1]] w fun e w' => e = .returned (.int .i64 r) ∧ Below w.heap.size w w' := by
  unfold gussetref02_Check.f at h
  obtain rfl := Option.some.inj h
  exact check_r _ _ w


end Go.Proofs.YtoijlbcbbblbfaaGreatDoorH.R

-- printed by hp.py
namespace Go.Proofs.YtoijlbcbbblbfaaGreatDoorH.R
open Go.RowKit Go.Proofs.YtoijlbcbbblbfaaGreatDoorH.Z Go.Proofs.YtoijlbcbbblbfaaGreatDoorW.PrintWords Go.Proofs.YtoijlbcbbblbfaaGreatDoorW.PrintLast Go.Proofs.YtoijlbcbbblbfaaGreatDoorW.PrintMore
attribute [local go_sem] max2_int min2_int max_two min_two max_three min_three max_four min_four   -- for this text's walks alone
set_option linter.unusedVariables false
set_option linter.unusedSimpArgs false

/-! ### gussetref02_Common: function 49 -/
open Go.Proofs.YtoijlbcbbblbfaaGreatDoor Go.Proofs.YtoijlbcbbblbfaaGreatDoor.Num in
def gussetref02_Common.f (a0_0 : Bool) (a0_1 : ByteArray) (a1_0 : Bool) (a1_1 : ByteArray) : Option (Bool × ByteArray) := if a0_1.size ≤ 4000 ∧ a1_1.size ≤ 4000 then some ((pv ((Nat.gcd (nv a0_1).toNat (nv a1_1).toNat : Nat) : Int)).1, (pv ((Nat.gcd (nv a0_1).toNat (nv a1_1).toNat : Nat) : Int)).2) else none
open Go.Proofs.YtoijlbcbbblbfaaGreatDoor Go.Proofs.YtoijlbcbbblbfaaGreatDoor.Num in
theorem gussetref02_Common.calls (a0_0 : Bool) (a0_1 : ByteArray) (a1_0 : Bool) (a1_1 : ByteArray) (r1 : Bool) (r2 : ByteArray) (w : World) (h : gussetref02_Common.f a0_0 a0_1 a1_0 a1_1 = some (r1, r2)) :
    Calls Tryz.prog 49 #[.agg #[.bool a0_0, .string a0_1], .agg #[.bool a1_0, .string a1_1]] w fun e w' => e = .returned (.agg #[.bool r1, .string r2]) ∧ Below w.heap.size w w' := by
  unfold gussetref02_Common.f at h
  split at h
  · rename_i hc
    simp only [Option.some.injEq, Prod.mk.injEq] at h
    obtain ⟨rfl, rfl⟩ := h
    exact common_r _ _ _ _ hc.1 hc.2 w
  · exact absurd h (by simp)


end Go.Proofs.YtoijlbcbbblbfaaGreatDoorH.R

-- printed by hp.py
namespace Go.Proofs.YtoijlbcbbblbfaaGreatDoorH.R
open Go.RowKit Go.Proofs.YtoijlbcbbblbfaaGreatDoorH.Z Go.Proofs.YtoijlbcbbblbfaaGreatDoorW.PrintWords Go.Proofs.YtoijlbcbbblbfaaGreatDoorW.PrintLast Go.Proofs.YtoijlbcbbblbfaaGreatDoorW.PrintMore
attribute [local go_sem] max2_int min2_int max_two min_two max_three min_three max_four min_four   -- for this text's walks alone
set_option linter.unusedVariables false
set_option linter.unusedSimpArgs false

/-! ### gussetref01_IsNat: function 55 -/
open Go.Proofs.YtoijlbcbbblbfaaGreatDoor Go.Proofs.YtoijlbcbbblbfaaGreatDoor.Num in
def gussetref01_IsNat.f (a0 : ByteArray) : Option (Bool) := some (natB a0)
open Go.Proofs.YtoijlbcbbblbfaaGreatDoor Go.Proofs.YtoijlbcbbblbfaaGreatDoor.Num in
theorem gussetref01_IsNat.calls (a0 : ByteArray) (r : Bool) (w : World) (h : gussetref01_IsNat.f a0 = some r) :
    Calls Tryz.prog 55 #[.string a0] w fun e w' => e = .returned (.bool r) ∧ Below w.heap.size w w' := by
  unfold gussetref01_IsNat.f at h
  obtain rfl := Option.some.inj h
  exact isnat_r a0 w

end Go.Proofs.YtoijlbcbbblbfaaGreatDoorH.R

-- printed by hp.py
namespace Go.Proofs.YtoijlbcbbblbfaaGreatDoorH.R
open Go.RowKit Go.Proofs.YtoijlbcbbblbfaaGreatDoorH.Z Go.Proofs.YtoijlbcbbblbfaaGreatDoorW.PrintWords Go.Proofs.YtoijlbcbbblbfaaGreatDoorW.PrintLast Go.Proofs.YtoijlbcbbblbfaaGreatDoorW.PrintMore
attribute [local go_sem] max2_int min2_int max_two min_two max_three min_three max_four min_four   -- for this text's walks alone
set_option linter.unusedVariables false
set_option linter.unusedSimpArgs false

/-! ### gussetref03_den: function 56 -/
def gussetref03_den.f (a0_0 : Bool) (a0_1 : ByteArray) (a0_2 : ByteArray) : Option (Bool × ByteArray) := some (false, a0_2)
set_option maxHeartbeats 8000000 in
set_option maxRecDepth 100000 in
theorem gussetref03_den.calls (a0_0 : Bool) (a0_1 : ByteArray) (a0_2 : ByteArray) (r1 : Bool) (r2 : ByteArray) (w : World) (h : gussetref03_den.f a0_0 a0_1 a0_2 = some (r1, r2)) :
    Calls Tryz.prog 56 #[.agg #[.bool a0_0, .string a0_1, .string a0_2]] w fun e w' => e = .returned (.agg #[.bool r1, .string r2]) ∧ Below w.heap.size w w' := by
  have hu27 := Tryz.underlying27
  have hu24 := Tryz.underlying24; have hf0 := zf240; have hf1 := zf241; have hf2 := zf270; have hf3 := zf271
  have HB := Aside0.mk (Below.refl w.heap.size w)
  have H : (some (false, a0_2)) = some (r1, r2) := h
  clear h
  simp only [Option.some.injEq, Prod.mk.injEq] at H
  obtain ⟨rfl, rfl⟩ := H
  go_enter Tryz.func56, Tryz.ntmps56
  go_wp2_with (first | ((with_reducible refine gate_dst (N := 1) rfl ?_); refine box_event ?hg (N := 1) ?hd (cs := #[.bool a0_0, .string a0_1, .string a0_2]) (t := 27) ?hr ?_; (case hd => rfl); (case hg => rfl); (case hr => first | (go_simp; done) | (go_simp; rfl)); intro gb260 hg w2 hbox hb; have BK260 := Aside0.mk (hbox); have GW260 := zG hg HB; have GE260 := zG hg HB; replace HB := zS HB hb; clear hb hbox hg) | ((with_reducible refine gate_dst (N := 2) rfl ?_); refine box_event ?hg (N := 2) ?hd (cs := #[.bool false, .string (⟨#[]⟩ : ByteArray)]) (t := 24) ?hr ?_; (case hd => rfl); (case hg => rfl); (case hr => first | (go_simp; done) | (go_simp; rfl)); intro gb261 hg w3 hbox hb; have BK261 := Aside0.mk (hbox); have GW261 := zG hg HB; have GE261 := zG hg HB; have NB260_261 := zN hg BK260; have NB261_260 := zM hg BK260; replace BK260 := zB BK260 hb; replace HB := zS HB hb; clear hb hbox hg; have hnb4 := NB260_261.out; have hnc4 := NB261_260.out; obtain ⟨hcz5_0, hcz5_1, hcz5_2, hfz5_0, hfz5_1, hfz5_2⟩ := z3 BK260; obtain ⟨hcz6_0, hcz6_1, hfz6_0, hfz6_1⟩ := z2 BK261))
  refine bodyPost_ret (results_cell_row rfl _ _ gb261 24 #[.bool false, .string a0_2] (0, 0) _ rfl (by (with_reducible repeat (first | refine blk_drewN ?_ _ | refine blk_drew ?_ | refine blk_alloc ?_ _)); refine zP (cs := #[.bool false, .string (⟨#[]⟩ : ByteArray)]) ?_ 1 _; (with_reducible repeat (first | refine blk_drewN ?_ _ | refine blk_drew ?_ | refine blk_alloc ?_ _)); refine zP (cs := #[.bool false, .string (⟨#[]⟩ : ByteArray)]) ?_ 0 _; (with_reducible repeat (first | refine blk_drewN ?_ _ | refine blk_drew ?_ | refine blk_alloc ?_ _)); exact BK261.out) Tryz.underlying24 rfl (by kernel_rfl)) rfl ?_
  exact ⟨by first | rfl | (simp [errW_none, errW_some] <;> rfl) | (simp [*, errW_none, errW_some] <;> rfl), zT HB⟩

end Go.Proofs.YtoijlbcbbblbfaaGreatDoorH.R

-- printed by hp.py
namespace Go.Proofs.YtoijlbcbbblbfaaGreatDoorH.R
open Go.RowKit Go.Proofs.YtoijlbcbbblbfaaGreatDoorH.Z Go.Proofs.YtoijlbcbbblbfaaGreatDoorW.PrintWords Go.Proofs.YtoijlbcbbblbfaaGreatDoorW.PrintLast Go.Proofs.YtoijlbcbbblbfaaGreatDoorW.PrintMore
attribute [local go_sem] max2_int min2_int max_two min_two max_three min_three max_four min_four   -- for this text's walks alone
set_option linter.unusedVariables false
set_option linter.unusedSimpArgs false

/-! ### gussetref03_Check: function 19 -/
mutual
def gussetref03_Check.j0 : Nat → Bool → Bool → ByteArray → ByteArray → Option (Int)
  | 0, _, _, _, _ => none
  | k + 1, x13, x263000, x263001, x263002 => if x13 = true then (some 5) else ((gussetref02_Check.f x263000 x263001).bind fun t263 => (if t263 = 0 then ((gussetref01_IsNat.f x263002).bind fun t264 => (if t264 = true then (if x263002.toList = ([] : List UInt8) then (gussetref03_Check.j1 k true) else ((gussetref03_den.f x263000 x263001 x263002).bind fun bt265 => ((gussetref02_Common.f x263000 x263001 bt265.1 bt265.2).bind fun bt267 => (gussetref03_Check.j1 k (bt267.2.toList != ([1] : List UInt8)))))) else (gussetref03_Check.j1 k true))) else (gussetref03_Check.j1 k true)))
def gussetref03_Check.j1 : Nat → Bool → Option (Int)
  | 0, _ => none
  | k + 1, x37 => if x37 = true then (some 1) else (some 0)
end
def gussetref03_Check.f (k : Nat) (a0_0 : Bool) (a0_1 : ByteArray) (a0_2 : ByteArray) : Option (Int) := if (a0_1.size : Int) > 8000 then (gussetref03_Check.j0 k true a0_0 a0_1 a0_2) else (gussetref03_Check.j0 k (decide ((a0_2.size : Int) > 8000)) a0_0 a0_1 a0_2)
def gussetref03_Check.T3 : Bool × List (List Nat × List Nat) := (true, [([], []), ([0], [0]), ([1], [1]), ([2], [2]), ([3, 2], [3]), ([4], [4]), ([5, 4], [4, 5]), ([6, 4, 4], [4, 6]), ([7, 4], [4, 7]), ([4, 8], [4, 8]), ([9, 7], [9]), ([10], [10]), ([11, 10], [10, 11]), ([12, 10], [10, 12]), ([10, 13], [10, 13]), ([14, 10], [14]), ([15], [15]), ([16, 15], [15, 16]), ([15], [15]), ([18, 15, 15], [15, 18]), ([17, 19, 19, 15], [15, 17, 19]), ([20, 15], [15, 20]), ([21, 15], [15, 21]), ([15, 22], [15, 22])])
def gussetref03_Check.B3 : List Nat := [0, 1, 3, 7, 15, 31, 63, 127, 255, 511, 1023, 2047, 4095, 8191, 16383, 32767, 65535, 131071, 65535, 327679, 1048575, 2097151, 4194303, 8388607]
theorem gussetref03_Check.tab3 : rtab .any (opsOf Tryz.f19 3) = gussetref03_Check.T3 := by kernel_rfl
theorem gussetref03_Check.bits3 : waitsOk gussetref03_Check.T3.2 gussetref03_Check.B3 = true := by kernel_rfl
set_option maxHeartbeats 8000000 in
set_option maxRecDepth 100000 in
theorem gussetref03_Check.calls (k : Nat) (a0_0 : Bool) (a0_1 : ByteArray) (a0_2 : ByteArray) (r : Int) (w : World) (h : gussetref03_Check.f k a0_0 a0_1 a0_2 = some r) :
    Calls Tryz.prog 19 #[.agg #[.bool a0_0, .string a0_1, .string a0_2]] w fun e w' => e = .returned (.int .i64 r) ∧ Below w.heap.size w w' := by
  have hu27 := Tryz.underlying27
  have hu24 := Tryz.underlying24; have hf0 := zf240; have hf1 := zf241; have hf2 := zf270; have hf3 := zf271
  have HB := Aside0.mk (Below.refl w.heap.size w)
  have H : (if (a0_1.size : Int) > 8000 then (gussetref03_Check.j0 k true a0_0 a0_1 a0_2) else (gussetref03_Check.j0 k (decide ((a0_2.size : Int) > 8000)) a0_0 a0_1 a0_2)) = some r := h
  clear h
  have HC2 := Aside0.mk H
  clear H
  go_enter Tryz.func19, Tryz.ntmps19
  go_upto_region 1 with (first | ((with_reducible refine gate_dst (N := 1) rfl ?_); (try (refine gate_guard (by rfl) ?_; dsimp only)); refine box_event ?hg (N := 1) ?hd (cs := #[.bool a0_0, .string a0_1, .string a0_2]) (t := 27) ?hr ?_; (case hd => rfl); (case hg => rfl); (case hr => first | (go_simp; done) | (go_simp; rfl)); intro gb262 hg w3 hbox hb; have BK262 := Aside0.mk (hbox); have GW262 := zG hg HB; have GE262 := zG hg HB; replace HB := zS HB hb; clear hb hbox hg))
  (try simp only [Act.put, List.setIfInBounds_toArray, List.set_cons_zero, List.set_cons_succ])
  go_cut [13] (fun v13 wc => ∃ (kq : Nat) (x13_1 : Bool), v13 = .bool x13_1 ∧ Aside0 (gussetref03_Check.j0 kq x13_1 a0_0 a0_1 a0_2 = some r) ∧ Aside0 (kq ≤ k) ∧ Aside0 (wc.heap[gb262]? = some (.cells #[.bool a0_0, .string a0_1, .string a0_2] 27 (0, 0))) ∧ Aside0 (Below w.heap.size w wc))
  case first =>
    have H := HC2.out
    clear HC2
    by_cases c4 : (a0_1.size : Int) > 8000
    · rw [if_pos c4] at H
      have c4b0 : decide (8000 < (a0_1.size : Int)) = true := decide_eq_true c4
      have c4b1 : decide (8000 < a0_1.size) = true := decide_eq_true (by omega)
      clear c4
      (first | rw [c4b0] | (simp only [i64_w, i32_w]; rw [c4b0]) | skip)
      have H' := Aside0.mk H
      clear H; obtain ⟨hcz5_0, hcz5_1, hcz5_2, hfz5_0, hfz5_1, hfz5_2⟩ := z3 BK262
      go_wp2
      go_meet
      case rel => exact ⟨_, (true), (by first | rfl | (simp; done) | (simp [zne]; done) | (simp [*]; done)), H', ⟨by first | omega | exact Nat.le_refl _⟩, ⟨by (with_reducible repeat (first | refine blk_drewN ?_ _ | refine blk_drew ?_ | refine blk_alloc ?_ _)); exact BK262.out⟩, ⟨zT HB⟩⟩
    · rw [if_neg c4] at H
      have c4b0 : decide (8000 < (a0_1.size : Int)) = false := decide_eq_false c4
      have c4b1 : decide (8000 < a0_1.size) = false := decide_eq_false (by omega)
      clear c4
      (first | rw [c4b0] | (simp only [i64_w, i32_w]; rw [c4b0]) | skip)
      have H' := Aside0.mk H
      clear H; obtain ⟨hcz6_0, hcz6_1, hcz6_2, hfz6_0, hfz6_1, hfz6_2⟩ := z3 BK262
      go_wp2
      go_meet
      case rel => exact ⟨_, (decide ((a0_2.size : Int) > 8000)), (by first | rfl | (simp; done) | (simp [zne]; done) | (simp [*]; done)), H', ⟨by first | omega | exact Nat.le_refl _⟩, ⟨by (with_reducible repeat (first | refine blk_drewN ?_ _ | refine blk_drew ?_ | refine blk_alloc ?_ _)); exact BK262.out⟩, ⟨zT HB⟩⟩
  case rest =>
    clear HC2
    try clear c1
    try clear p2
    try clear c4
    try clear c4b0
    try clear c4b1
    try clear hcz5_0
    try clear hcz5_1
    try clear hcz5_2
    try clear hcz6_0
    try clear hcz6_1
    try clear hcz6_2
    try clear hfz5_0
    try clear hfz5_1
    try clear hfz5_2
    try clear hfz6_0
    try clear hfz6_1
    try clear hfz6_2
    obtain ⟨kq, x13_1, rfl, HA, HJ1, BK262, HB⟩ := hcut
    cases kq with
    | zero => exact absurd HA.out (by simp [gussetref03_Check.j0])
    | succ kj1 =>
      have H := HA.out
      clear HA
      simp only [gussetref03_Check.j0] at H
      by_cases c7 : x13_1 = true
      · subst c7
        have H1 : (some 5) = some r := by rw [if_pos rfl] at H; exact H
        clear H
        have H := H1
        clear H1
        obtain rfl := Option.some.inj H
        go_wp2
        go_ret
        exact ⟨by first | rfl | (simp [errW_none, errW_some] <;> rfl) | (simp [*, errW_none, errW_some] <;> rfl), zT HB⟩
      · replace c7 := Bool.eq_false_iff.mpr c7
        subst c7
        have H1 : ((gussetref02_Check.f a0_0 a0_1).bind fun t263 => (if t263 = 0 then ((gussetref01_IsNat.f a0_2).bind fun t264 => (if t264 = true then (if a0_2.toList = ([] : List UInt8) then (gussetref03_Check.j1 kj1 true) else ((gussetref03_den.f a0_0 a0_1 a0_2).bind fun bt265 => ((gussetref02_Common.f a0_0 a0_1 bt265.1 bt265.2).bind fun bt267 => (gussetref03_Check.j1 kj1 (bt267.2.toList != ([1] : List UInt8)))))) else (gussetref03_Check.j1 kj1 true))) else (gussetref03_Check.j1 kj1 true))) = some r := by rw [if_neg (show ¬ (false = true) by decide)] at H; exact H
        clear H
        have H := H1
        clear H1
        have HC8 := Aside0.mk H
        clear H
        go_upto_region 3 with (fail)
        go_cut [37] (fun v37 wc => ∃ (kq : Nat) (x37_7 : Bool), v37 = .bool x37_7 ∧ Aside0 (gussetref03_Check.j1 kq x37_7 = some r) ∧ Aside0 (kq ≤ kj1) ∧ Aside0 (wc.heap[gb262]? = some (.cells #[.bool a0_0, .string a0_1, .string a0_2] 27 (0, 0))) ∧ Aside0 (Below w.heap.size w wc))
        case first =>
          have H := HC8.out
          clear HC8
          replace H := Option.bind_eq_some_iff.mp H
          obtain ⟨t263, A90, H⟩ := H
          replace H : (if t263 = 0 then ((gussetref01_IsNat.f a0_2).bind fun t264 => (if t264 = true then (if a0_2.toList = ([] : List UInt8) then (gussetref03_Check.j1 kj1 true) else ((gussetref03_den.f a0_0 a0_1 a0_2).bind fun bt265 => ((gussetref02_Common.f a0_0 a0_1 bt265.1 bt265.2).bind fun bt267 => (gussetref03_Check.j1 kj1 (bt267.2.toList != ([1] : List UInt8)))))) else (gussetref03_Check.j1 kj1 true))) else (gussetref03_Check.j1 kj1 true)) = some r := H
          have A9 := Aside0.mk A90
          clear A90
          by_cases c10 : t263 = 0
          · rw [if_pos c10] at H
            have c10b0 : (t263 == 0) = true := beq_iff_eq.mpr c10
            have c10b1 : (t263 != 0) = false := bne_eq_false_iff_eq.mpr c10
            clear c10
            (first | rw [c10b0] | (simp only [i64_w, i32_w]; rw [c10b0]) | skip)
            replace H := Option.bind_eq_some_iff.mp H
            obtain ⟨t264, A110, H⟩ := H
            replace H : (if t264 = true then (if a0_2.toList = ([] : List UInt8) then (gussetref03_Check.j1 kj1 true) else ((gussetref03_den.f a0_0 a0_1 a0_2).bind fun bt265 => ((gussetref02_Common.f a0_0 a0_1 bt265.1 bt265.2).bind fun bt267 => (gussetref03_Check.j1 kj1 (bt267.2.toList != ([1] : List UInt8)))))) else (gussetref03_Check.j1 kj1 true)) = some r := H
            have A11 := Aside0.mk A110
            clear A110
            by_cases c12 : t264 = true
            · subst c12
              have H1 : (if a0_2.toList = ([] : List UInt8) then (gussetref03_Check.j1 kj1 true) else ((gussetref03_den.f a0_0 a0_1 a0_2).bind fun bt265 => ((gussetref02_Common.f a0_0 a0_1 bt265.1 bt265.2).bind fun bt267 => (gussetref03_Check.j1 kj1 (bt267.2.toList != ([1] : List UInt8)))))) = some r := by rw [if_pos rfl] at H; exact H
              clear H
              have H := H1
              clear H1
              by_cases c13 : a0_2.toList = ([] : List UInt8)
              · rw [if_pos c13] at H
                have c13b0 : (a0_2.toList == ([] : List UInt8)) = true := beq_iff_eq.mpr c13
                have c13b1 : (a0_2.toList != ([] : List UInt8)) = false := bne_eq_false_iff_eq.mpr c13
                clear c13
                have H' := Aside0.mk H
                clear H
                try go_wp2
                replace BK262 := zD BK262; replace HB := zF HB
                refine start_ (n := 24) (S := fun w' => w'.cell? ⟨gb262, 0, none⟩ = some (.bool a0_0) ∧ w'.cell? ⟨gb262, 1, none⟩ = some (.string a0_1) ∧ w'.cell? ⟨gb262, 2, none⟩ = some (.string a0_2)) (ds := []) #[false, false, false, false, false, false, false, false, false, false, false, false, false, false, false, false, false, false, false, false, false, false, false, false] (by kernel_rfl) rfl rfl ⟨(blk_cell BK262.out 0).trans rfl, (blk_cell BK262.out 1).trans rfl, (blk_cell BK262.out 2).trans rfl⟩ (fun hHeld => ?_); refine with_tabW gussetref03_Check.tab3 gussetref03_Check.bits3 (fun HT_ HW_ => ?_)
                generalize wc.drew = w14 at BK262 HB hHeld ⊢
                refine zU (i := 0) (N := some 14) #[true, false, false, false, false, false, false, false, false, false, false, false, false, false, false, false, false, false, false, false, false, false, false, false] (any_of HT_.out (by kernel_rfl)) ?_
                refine zV (i := 1) (N := some 15) #[true, true, false, false, false, false, false, false, false, false, false, false, false, false, false, false, false, false, false, false, false, false, false, false] (take_ofW HT_.out HW_.out (by kernel_rfl)) hHeld ?_
                refine one_ (i := 2) (N := some 16) #[true, true, true, false, false, false, false, false, false, false, false, false, false, false, false, false, false, false, false, false, false, false, false, false] rfl rfl (one_of HT_.out (by kernel_rfl)) (by decide) (fun K hK => ?_)
                refine zX Tryz.func48 (by kernel_rfl) #[.agg #[.bool a0_0, .string a0_1]] ?_
                with_reducible refine (gussetref02_Check.calls a0_0 a0_1 t263 _ A9.out).mono ?_
                rintro e w15 ⟨rfl, hb⟩; refine ⟨_, rfl, ?_⟩
                replace BK262 := zB BK262 hb; replace HB := zS HB hb
                (try clear hb)
                refine hK.out _ _ ⟨(blk_cell BK262.out 0).trans rfl, (blk_cell BK262.out 1).trans rfl, (blk_cell BK262.out 2).trans rfl⟩ (fun hHeld => ?_)
                clear hK K
                refine zW (some 16) ?_
                refine zU (i := 3) (N := some 17) #[true, true, true, true, false, false, false, false, false, false, false, false, false, false, false, false, false, false, false, false, false, false, false, false] (any_of HT_.out (by kernel_rfl)) ?_
                refine zU (i := 4) (N := some 18) #[true, true, true, true, true, false, false, false, false, false, false, false, false, false, false, false, false, false, false, false, false, false, false, false] (any_of HT_.out (by kernel_rfl)) ?_
                refine zU (i := 5) (N := some 19) #[true, true, true, true, true, true, false, false, false, false, false, false, false, false, false, false, false, false, false, false, false, false, false, false] (any_of HT_.out (by kernel_rfl)) ?_
                refine zV (i := 6) (N := some 20) #[true, true, true, true, true, true, true, false, false, false, false, false, false, false, false, false, false, false, false, false, false, false, false, false] (take_ofW HT_.out HW_.out (by kernel_rfl)) hHeld ?_
                refine one_ (i := 7) (N := some 21) #[true, true, true, true, true, true, true, true, false, false, false, false, false, false, false, false, false, false, false, false, false, false, false, false] rfl rfl (one_of HT_.out (by kernel_rfl)) (by decide) (fun K hK => ?_)
                refine zX Tryz.func55 (by kernel_rfl) #[.string a0_2] ?_
                with_reducible refine (gussetref01_IsNat.calls a0_2 true _ A11.out).mono ?_
                rintro e w16 ⟨rfl, hb⟩; refine ⟨_, rfl, ?_⟩
                replace BK262 := zB BK262 hb; replace HB := zS HB hb
                (try clear hb)
                refine hK.out _ _ ⟨(blk_cell BK262.out 0).trans rfl, (blk_cell BK262.out 1).trans rfl, (blk_cell BK262.out 2).trans rfl⟩ (fun hHeld => ?_)
                clear hK K
                refine zW (some 21) ?_
                refine zU (i := 8) (N := some 22) #[true, true, true, true, true, true, true, true, true, false, false, false, false, false, false, false, false, false, false, false, false, false, false, false] (any_of HT_.out (by kernel_rfl)) ?_
                refine zU (i := 9) (N := some 23) #[true, true, true, true, true, true, true, true, true, true, false, false, false, false, false, false, false, false, false, false, false, false, false, false] (any_of HT_.out (by kernel_rfl)) ?_
                refine zU (i := 10) (N := some 24) #[true, true, true, true, true, true, true, true, true, true, true, false, false, false, false, false, false, false, false, false, false, false, false, false] (any_of HT_.out (by kernel_rfl)) ?_
                refine zU (i := 11) (N := some 25) #[true, true, true, true, true, true, true, true, true, true, true, true, false, false, false, false, false, false, false, false, false, false, false, false] (any_of HT_.out (by kernel_rfl)) ?_
                refine zV (i := 12) (N := some 26) #[true, true, true, true, true, true, true, true, true, true, true, true, true, false, false, false, false, false, false, false, false, false, false, false] (take_ofW HT_.out HW_.out (by kernel_rfl)) hHeld ?_
                refine zU (i := 13) (N := some 27) #[true, true, true, true, true, true, true, true, true, true, true, true, true, true, false, false, false, false, false, false, false, false, false, false] (any_of HT_.out (by kernel_rfl)) ?_
                refine zU (i := 14) (N := some 28) #[true, true, true, true, true, true, true, true, true, true, true, true, true, true, true, false, false, false, false, false, false, false, false, false] (any_of HT_.out (by kernel_rfl)) ?_
                refine zU (i := 15) (N := some 29) #[true, true, true, true, true, true, true, true, true, true, true, true, true, true, true, true, false, false, false, false, false, false, false, false] (any_of HT_.out (by kernel_rfl)) ?_
                refine pure_ (i := 16) (N := some 30) (v := undef) (a' := ?_) #[true, true, true, true, true, true, true, true, true, true, true, true, true, true, true, true, true, false, false, false, false, false, false, false] rfl rfl (any_of HT_.out (by kernel_rfl)) (fun _ _ _ h => h) (Or.inr ⟨by rfl, rfl⟩) ?_ ?_
                rotate_left
                · simp only [Act.put, List.setIfInBounds_toArray, List.set_cons_zero, List.set_cons_succ, i64_w, i32_w]
                  rfl
                refine pure_ (i := 17) (N := some 31) (v := undef) (a' := ?_) #[true, true, true, true, true, true, true, true, true, true, true, true, true, true, true, true, true, true, false, false, false, false, false, false] rfl rfl (any_of HT_.out (by kernel_rfl)) (fun _ _ _ h => h) (Or.inr ⟨by rfl, rfl⟩) ?_ ?_
                rotate_left
                · simp only [Act.put, List.setIfInBounds_toArray, List.set_cons_zero, List.set_cons_succ, i64_w, i32_w]
                  rfl
                refine pure_ (i := 18) (N := some 32) (v := undef) (a' := ?_) #[true, true, true, true, true, true, true, true, true, true, true, true, true, true, true, true, true, true, true, false, false, false, false, false] rfl rfl (any_of HT_.out (by kernel_rfl)) (fun _ _ _ h => h) (Or.inr ⟨by rfl, rfl⟩) ?_ ?_
                rotate_left
                · simp only [Act.put, List.setIfInBounds_toArray, List.set_cons_zero, List.set_cons_succ, i64_w, i32_w]
                  rfl
                refine pure_ (i := 19) (N := some 33) (v := undef) (a' := ?_) #[true, true, true, true, true, true, true, true, true, true, true, true, true, true, true, true, true, true, true, true, false, false, false, false] rfl rfl (any_of HT_.out (by kernel_rfl)) (fun _ _ _ h => h) (Or.inr ⟨by rfl, rfl⟩) ?_ ?_
                rotate_left
                · simp only [Act.put, List.setIfInBounds_toArray, List.set_cons_zero, List.set_cons_succ, i64_w, i32_w]
                  rfl
                refine pure_ (i := 20) (N := some 34) (v := undef) (a' := ?_) #[true, true, true, true, true, true, true, true, true, true, true, true, true, true, true, true, true, true, true, true, true, false, false, false] rfl rfl (any_of HT_.out (by kernel_rfl)) (fun _ _ _ h => h) (Or.inr ⟨by rfl, rfl⟩) ?_ ?_
                rotate_left
                · simp only [Act.put, List.setIfInBounds_toArray, List.set_cons_zero, List.set_cons_succ, i64_w, i32_w]
                  rfl
                refine pure_ (i := 21) (N := some 35) (v := undef) (a' := ?_) #[true, true, true, true, true, true, true, true, true, true, true, true, true, true, true, true, true, true, true, true, true, true, false, false] rfl rfl (any_of HT_.out (by kernel_rfl)) (fun _ _ _ h => h) (Or.inr ⟨by rfl, rfl⟩) ?_ ?_
                rotate_left
                · simp only [Act.put, List.setIfInBounds_toArray, List.set_cons_zero, List.set_cons_succ, i64_w, i32_w]
                  rfl
                refine pure_ (i := 22) (N := some 36) (v := undef) (a' := ?_) #[true, true, true, true, true, true, true, true, true, true, true, true, true, true, true, true, true, true, true, true, true, true, true, false] rfl rfl (any_of HT_.out (by kernel_rfl)) (fun _ _ _ h => h) (Or.inr ⟨by rfl, rfl⟩) ?_ ?_
                rotate_left
                · simp only [Act.put, List.setIfInBounds_toArray, List.set_cons_zero, List.set_cons_succ, i64_w, i32_w]
                  rfl
                refine zU (i := 23) (N := some 37) #[true, true, true, true, true, true, true, true, true, true, true, true, true, true, true, true, true, true, true, true, true, true, true, true] (any_of HT_.out (by kernel_rfl)) ?_
                refine done_ (done_of HT_.out (by kernel_rfl)) ?_
                try go_wp2
                go_meet
                case rel => exact ⟨_, (true), (by first | rfl | (simp; done) | (simp [zne]; done) | (simp [*]; done)), H', ⟨by have := HJ1.out; first | omega | exact Nat.le_refl _⟩, ⟨by (with_reducible repeat (first | refine blk_drewN ?_ _ | refine blk_drew ?_ | refine blk_alloc ?_ _)); exact BK262.out⟩, ⟨zT HB⟩⟩
              · rw [if_neg c13] at H
                have c13b0 : (a0_2.toList == ([] : List UInt8)) = false := beq_eq_false_iff_ne.mpr c13
                have c13b1 : (a0_2.toList != ([] : List UInt8)) = true := bne_iff_ne.mpr c13
                replace H := Option.bind_eq_some_iff.mp H
                obtain ⟨⟨t265, t266⟩, A170, H⟩ := H
                replace H : ((gussetref02_Common.f a0_0 a0_1 t265 t266).bind fun bt267 => (gussetref03_Check.j1 kj1 (bt267.2.toList != ([1] : List UInt8)))) = some r := H
                have A17 := Aside0.mk A170
                clear A170
                replace H := Option.bind_eq_some_iff.mp H
                obtain ⟨⟨t267, t268⟩, A180, H⟩ := H
                replace H : (gussetref03_Check.j1 kj1 (t268.toList != ([1] : List UInt8))) = some r := H
                have A18 := Aside0.mk A180
                clear A180
                have H' := Aside0.mk H
                clear H
                try go_wp2
                replace BK262 := zD BK262; replace HB := zF HB
                refine start_ (n := 24) (S := fun w' => w'.cell? ⟨gb262, 0, none⟩ = some (.bool a0_0) ∧ w'.cell? ⟨gb262, 1, none⟩ = some (.string a0_1) ∧ w'.cell? ⟨gb262, 2, none⟩ = some (.string a0_2)) (ds := []) #[false, false, false, false, false, false, false, false, false, false, false, false, false, false, false, false, false, false, false, false, false, false, false, false] (by kernel_rfl) rfl rfl ⟨(blk_cell BK262.out 0).trans rfl, (blk_cell BK262.out 1).trans rfl, (blk_cell BK262.out 2).trans rfl⟩ (fun hHeld => ?_); refine with_tabW gussetref03_Check.tab3 gussetref03_Check.bits3 (fun HT_ HW_ => ?_)
                generalize wc.drew = w19 at BK262 HB hHeld ⊢
                refine zU (i := 0) (N := some 14) #[true, false, false, false, false, false, false, false, false, false, false, false, false, false, false, false, false, false, false, false, false, false, false, false] (any_of HT_.out (by kernel_rfl)) ?_
                refine zV (i := 1) (N := some 15) #[true, true, false, false, false, false, false, false, false, false, false, false, false, false, false, false, false, false, false, false, false, false, false, false] (take_ofW HT_.out HW_.out (by kernel_rfl)) hHeld ?_
                refine one_ (i := 2) (N := some 16) #[true, true, true, false, false, false, false, false, false, false, false, false, false, false, false, false, false, false, false, false, false, false, false, false] rfl rfl (one_of HT_.out (by kernel_rfl)) (by decide) (fun K hK => ?_)
                refine zX Tryz.func48 (by kernel_rfl) #[.agg #[.bool a0_0, .string a0_1]] ?_
                with_reducible refine (gussetref02_Check.calls a0_0 a0_1 t263 _ A9.out).mono ?_
                rintro e w20 ⟨rfl, hb⟩; refine ⟨_, rfl, ?_⟩
                replace BK262 := zB BK262 hb; replace HB := zS HB hb
                (try clear hb)
                refine hK.out _ _ ⟨(blk_cell BK262.out 0).trans rfl, (blk_cell BK262.out 1).trans rfl, (blk_cell BK262.out 2).trans rfl⟩ (fun hHeld => ?_)
                clear hK K
                refine zW (some 16) ?_
                refine zU (i := 3) (N := some 17) #[true, true, true, true, false, false, false, false, false, false, false, false, false, false, false, false, false, false, false, false, false, false, false, false] (any_of HT_.out (by kernel_rfl)) ?_
                refine zU (i := 4) (N := some 18) #[true, true, true, true, true, false, false, false, false, false, false, false, false, false, false, false, false, false, false, false, false, false, false, false] (any_of HT_.out (by kernel_rfl)) ?_
                refine zU (i := 5) (N := some 19) #[true, true, true, true, true, true, false, false, false, false, false, false, false, false, false, false, false, false, false, false, false, false, false, false] (any_of HT_.out (by kernel_rfl)) ?_
                refine zV (i := 6) (N := some 20) #[true, true, true, true, true, true, true, false, false, false, false, false, false, false, false, false, false, false, false, false, false, false, false, false] (take_ofW HT_.out HW_.out (by kernel_rfl)) hHeld ?_
                refine one_ (i := 7) (N := some 21) #[true, true, true, true, true, true, true, true, false, false, false, false, false, false, false, false, false, false, false, false, false, false, false, false] rfl rfl (one_of HT_.out (by kernel_rfl)) (by decide) (fun K hK => ?_)
                refine zX Tryz.func55 (by kernel_rfl) #[.string a0_2] ?_
                with_reducible refine (gussetref01_IsNat.calls a0_2 true _ A11.out).mono ?_
                rintro e w21 ⟨rfl, hb⟩; refine ⟨_, rfl, ?_⟩
                replace BK262 := zB BK262 hb; replace HB := zS HB hb
                (try clear hb)
                refine hK.out _ _ ⟨(blk_cell BK262.out 0).trans rfl, (blk_cell BK262.out 1).trans rfl, (blk_cell BK262.out 2).trans rfl⟩ (fun hHeld => ?_)
                clear hK K
                refine zW (some 21) ?_
                refine zU (i := 8) (N := some 22) #[true, true, true, true, true, true, true, true, true, false, false, false, false, false, false, false, false, false, false, false, false, false, false, false] (any_of HT_.out (by kernel_rfl)) ?_
                refine zU (i := 9) (N := some 23) #[true, true, true, true, true, true, true, true, true, true, false, false, false, false, false, false, false, false, false, false, false, false, false, false] (any_of HT_.out (by kernel_rfl)) ?_
                refine zU (i := 10) (N := some 24) #[true, true, true, true, true, true, true, true, true, true, true, false, false, false, false, false, false, false, false, false, false, false, false, false] (any_of HT_.out (by kernel_rfl)) ?_
                refine zU (i := 11) (N := some 25) #[true, true, true, true, true, true, true, true, true, true, true, true, false, false, false, false, false, false, false, false, false, false, false, false] (any_of HT_.out (by kernel_rfl)) ?_
                refine zV (i := 12) (N := some 26) #[true, true, true, true, true, true, true, true, true, true, true, true, true, false, false, false, false, false, false, false, false, false, false, false] (take_ofW HT_.out HW_.out (by kernel_rfl)) hHeld ?_
                refine zU (i := 13) (N := some 27) #[true, true, true, true, true, true, true, true, true, true, true, true, true, true, false, false, false, false, false, false, false, false, false, false] (any_of HT_.out (by kernel_rfl)) ?_
                refine zU (i := 14) (N := some 28) #[true, true, true, true, true, true, true, true, true, true, true, true, true, true, true, false, false, false, false, false, false, false, false, false] (any_of HT_.out (by kernel_rfl)) ?_
                refine zU (i := 15) (N := some 29) #[true, true, true, true, true, true, true, true, true, true, true, true, true, true, true, true, false, false, false, false, false, false, false, false] (any_of HT_.out (by kernel_rfl)) ?_
                refine zU (i := 16) (N := some 30) #[true, true, true, true, true, true, true, true, true, true, true, true, true, true, true, true, true, false, false, false, false, false, false, false] (any_of HT_.out (by kernel_rfl)) ?_
                refine zV (i := 17) (N := some 31) #[true, true, true, true, true, true, true, true, true, true, true, true, true, true, true, true, true, true, false, false, false, false, false, false] (take_ofW HT_.out HW_.out (by kernel_rfl)) hHeld ?_
                refine zV (i := 18) (N := some 32) #[true, true, true, true, true, true, true, true, true, true, true, true, true, true, true, true, true, true, true, false, false, false, false, false] (take_ofW HT_.out HW_.out (by kernel_rfl)) hHeld ?_
                refine one_ (i := 19) (N := some 33) #[true, true, true, true, true, true, true, true, true, true, true, true, true, true, true, true, true, true, true, true, false, false, false, false] rfl rfl (one_of HT_.out (by kernel_rfl)) (by decide) (fun K hK => ?_)
                refine zX Tryz.func56 (by kernel_rfl) #[.agg #[.bool a0_0, .string a0_1, .string a0_2]] ?_
                with_reducible refine (gussetref03_den.calls a0_0 a0_1 a0_2 t265 t266 _ A17.out).mono ?_
                rintro e w22 ⟨rfl, hb⟩; refine ⟨_, rfl, ?_⟩
                replace BK262 := zB BK262 hb; replace HB := zS HB hb
                (try clear hb)
                refine hK.out _ _ ⟨(blk_cell BK262.out 0).trans rfl, (blk_cell BK262.out 1).trans rfl, (blk_cell BK262.out 2).trans rfl⟩ (fun hHeld => ?_)
                clear hK K
                refine zW (some 33) ?_
                refine one_ (i := 20) (N := some 34) #[true, true, true, true, true, true, true, true, true, true, true, true, true, true, true, true, true, true, true, true, true, false, false, false] rfl rfl (one_of HT_.out (by kernel_rfl)) (by decide) (fun K hK => ?_)
                refine zX Tryz.func49 (by kernel_rfl) #[.agg #[.bool a0_0, .string a0_1], .agg #[.bool t265, .string t266]] ?_
                with_reducible refine (gussetref02_Common.calls a0_0 a0_1 t265 t266 t267 t268 _ A18.out).mono ?_
                rintro e w23 ⟨rfl, hb⟩; refine ⟨_, rfl, ?_⟩
                replace BK262 := zB BK262 hb; replace HB := zS HB hb
                (try clear hb)
                refine hK.out _ _ ⟨(blk_cell BK262.out 0).trans rfl, (blk_cell BK262.out 1).trans rfl, (blk_cell BK262.out 2).trans rfl⟩ (fun hHeld => ?_)
                clear hK K
                refine zW (some 34) ?_
                refine zU (i := 21) (N := some 35) #[true, true, true, true, true, true, true, true, true, true, true, true, true, true, true, true, true, true, true, true, true, true, false, false] (any_of HT_.out (by kernel_rfl)) ?_
                refine zU (i := 22) (N := some 36) #[true, true, true, true, true, true, true, true, true, true, true, true, true, true, true, true, true, true, true, true, true, true, true, false] (any_of HT_.out (by kernel_rfl)) ?_
                refine zU (i := 23) (N := some 37) #[true, true, true, true, true, true, true, true, true, true, true, true, true, true, true, true, true, true, true, true, true, true, true, true] (any_of HT_.out (by kernel_rfl)) ?_
                refine done_ (done_of HT_.out (by kernel_rfl)) ?_
                try go_wp2
                go_meet
                case rel => exact ⟨_, ((t268.toList != ([1] : List UInt8))), (by first | rfl | (simp; done) | (simp [zne]; done) | (simp [*]; done)), H', ⟨by have := HJ1.out; first | omega | exact Nat.le_refl _⟩, ⟨by (with_reducible repeat (first | refine blk_drewN ?_ _ | refine blk_drew ?_ | refine blk_alloc ?_ _)); exact BK262.out⟩, ⟨zT HB⟩⟩
            · replace c12 := Bool.eq_false_iff.mpr c12
              subst c12
              have H1 : (gussetref03_Check.j1 kj1 true) = some r := by rw [if_neg (show ¬ (false = true) by decide)] at H; exact H
              clear H
              have H := H1
              clear H1
              have H' := Aside0.mk H
              clear H
              try go_wp2
              replace BK262 := zD BK262; replace HB := zF HB
              refine start_ (n := 24) (S := fun w' => w'.cell? ⟨gb262, 0, none⟩ = some (.bool a0_0) ∧ w'.cell? ⟨gb262, 1, none⟩ = some (.string a0_1) ∧ w'.cell? ⟨gb262, 2, none⟩ = some (.string a0_2)) (ds := []) #[false, false, false, false, false, false, false, false, false, false, false, false, false, false, false, false, false, false, false, false, false, false, false, false] (by kernel_rfl) rfl rfl ⟨(blk_cell BK262.out 0).trans rfl, (blk_cell BK262.out 1).trans rfl, (blk_cell BK262.out 2).trans rfl⟩ (fun hHeld => ?_); refine with_tabW gussetref03_Check.tab3 gussetref03_Check.bits3 (fun HT_ HW_ => ?_)
              generalize wc.drew = w24 at BK262 HB hHeld ⊢
              refine zU (i := 0) (N := some 14) #[true, false, false, false, false, false, false, false, false, false, false, false, false, false, false, false, false, false, false, false, false, false, false, false] (any_of HT_.out (by kernel_rfl)) ?_
              refine zV (i := 1) (N := some 15) #[true, true, false, false, false, false, false, false, false, false, false, false, false, false, false, false, false, false, false, false, false, false, false, false] (take_ofW HT_.out HW_.out (by kernel_rfl)) hHeld ?_
              refine one_ (i := 2) (N := some 16) #[true, true, true, false, false, false, false, false, false, false, false, false, false, false, false, false, false, false, false, false, false, false, false, false] rfl rfl (one_of HT_.out (by kernel_rfl)) (by decide) (fun K hK => ?_)
              refine zX Tryz.func48 (by kernel_rfl) #[.agg #[.bool a0_0, .string a0_1]] ?_
              with_reducible refine (gussetref02_Check.calls a0_0 a0_1 t263 _ A9.out).mono ?_
              rintro e w25 ⟨rfl, hb⟩; refine ⟨_, rfl, ?_⟩
              replace BK262 := zB BK262 hb; replace HB := zS HB hb
              (try clear hb)
              refine hK.out _ _ ⟨(blk_cell BK262.out 0).trans rfl, (blk_cell BK262.out 1).trans rfl, (blk_cell BK262.out 2).trans rfl⟩ (fun hHeld => ?_)
              clear hK K
              refine zW (some 16) ?_
              refine zU (i := 3) (N := some 17) #[true, true, true, true, false, false, false, false, false, false, false, false, false, false, false, false, false, false, false, false, false, false, false, false] (any_of HT_.out (by kernel_rfl)) ?_
              refine zU (i := 4) (N := some 18) #[true, true, true, true, true, false, false, false, false, false, false, false, false, false, false, false, false, false, false, false, false, false, false, false] (any_of HT_.out (by kernel_rfl)) ?_
              refine zU (i := 5) (N := some 19) #[true, true, true, true, true, true, false, false, false, false, false, false, false, false, false, false, false, false, false, false, false, false, false, false] (any_of HT_.out (by kernel_rfl)) ?_
              refine zV (i := 6) (N := some 20) #[true, true, true, true, true, true, true, false, false, false, false, false, false, false, false, false, false, false, false, false, false, false, false, false] (take_ofW HT_.out HW_.out (by kernel_rfl)) hHeld ?_
              refine one_ (i := 7) (N := some 21) #[true, true, true, true, true, true, true, true, false, false, false, false, false, false, false, false, false, false, false, false, false, false, false, false] rfl rfl (one_of HT_.out (by kernel_rfl)) (by decide) (fun K hK => ?_)
              refine zX Tryz.func55 (by kernel_rfl) #[.string a0_2] ?_
              with_reducible refine (gussetref01_IsNat.calls a0_2 false _ A11.out).mono ?_
              rintro e w26 ⟨rfl, hb⟩; refine ⟨_, rfl, ?_⟩
              replace BK262 := zB BK262 hb; replace HB := zS HB hb
              (try clear hb)
              refine hK.out _ _ ⟨(blk_cell BK262.out 0).trans rfl, (blk_cell BK262.out 1).trans rfl, (blk_cell BK262.out 2).trans rfl⟩ (fun hHeld => ?_)
              clear hK K
              refine zW (some 21) ?_
              refine zU (i := 8) (N := some 22) #[true, true, true, true, true, true, true, true, true, false, false, false, false, false, false, false, false, false, false, false, false, false, false, false] (any_of HT_.out (by kernel_rfl)) ?_
              refine zU (i := 9) (N := some 23) #[true, true, true, true, true, true, true, true, true, true, false, false, false, false, false, false, false, false, false, false, false, false, false, false] (any_of HT_.out (by kernel_rfl)) ?_
              refine zU (i := 10) (N := some 24) #[true, true, true, true, true, true, true, true, true, true, true, false, false, false, false, false, false, false, false, false, false, false, false, false] (any_of HT_.out (by kernel_rfl)) ?_
              refine pure_ (i := 11) (N := some 25) (v := undef) (a' := ?_) #[true, true, true, true, true, true, true, true, true, true, true, true, false, false, false, false, false, false, false, false, false, false, false, false] rfl rfl (any_of HT_.out (by kernel_rfl)) (fun _ _ _ h => h) (Or.inr ⟨by rfl, rfl⟩) ?_ ?_
              rotate_left
              · simp only [Act.put, List.setIfInBounds_toArray, List.set_cons_zero, List.set_cons_succ, i64_w, i32_w]
                rfl
              refine pure_ (i := 12) (N := some 26) (v := undef) (a' := ?_) #[true, true, true, true, true, true, true, true, true, true, true, true, true, false, false, false, false, false, false, false, false, false, false, false] rfl rfl (any_of HT_.out (by kernel_rfl)) (fun _ _ _ h => h) (Or.inr ⟨by rfl, rfl⟩) ?_ ?_
              rotate_left
              · simp only [Act.put, List.setIfInBounds_toArray, List.set_cons_zero, List.set_cons_succ, i64_w, i32_w]
                rfl
              refine pure_ (i := 13) (N := some 27) (v := undef) (a' := ?_) #[true, true, true, true, true, true, true, true, true, true, true, true, true, true, false, false, false, false, false, false, false, false, false, false] rfl rfl (any_of HT_.out (by kernel_rfl)) (fun _ _ _ h => h) (Or.inr ⟨by rfl, rfl⟩) ?_ ?_
              rotate_left
              · simp only [Act.put, List.setIfInBounds_toArray, List.set_cons_zero, List.set_cons_succ, i64_w, i32_w]
                rfl
              refine zU (i := 14) (N := some 28) #[true, true, true, true, true, true, true, true, true, true, true, true, true, true, true, false, false, false, false, false, false, false, false, false] (any_of HT_.out (by kernel_rfl)) ?_
              refine zU (i := 15) (N := some 29) #[true, true, true, true, true, true, true, true, true, true, true, true, true, true, true, true, false, false, false, false, false, false, false, false] (any_of HT_.out (by kernel_rfl)) ?_
              refine pure_ (i := 16) (N := some 30) (v := undef) (a' := ?_) #[true, true, true, true, true, true, true, true, true, true, true, true, true, true, true, true, true, false, false, false, false, false, false, false] rfl rfl (any_of HT_.out (by kernel_rfl)) (fun _ _ _ h => h) (Or.inr ⟨by rfl, rfl⟩) ?_ ?_
              rotate_left
              · simp only [Act.put, List.setIfInBounds_toArray, List.set_cons_zero, List.set_cons_succ, i64_w, i32_w]
                rfl
              refine pure_ (i := 17) (N := some 31) (v := undef) (a' := ?_) #[true, true, true, true, true, true, true, true, true, true, true, true, true, true, true, true, true, true, false, false, false, false, false, false] rfl rfl (any_of HT_.out (by kernel_rfl)) (fun _ _ _ h => h) (Or.inr ⟨by rfl, rfl⟩) ?_ ?_
              rotate_left
              · simp only [Act.put, List.setIfInBounds_toArray, List.set_cons_zero, List.set_cons_succ, i64_w, i32_w]
                rfl
              refine pure_ (i := 18) (N := some 32) (v := undef) (a' := ?_) #[true, true, true, true, true, true, true, true, true, true, true, true, true, true, true, true, true, true, true, false, false, false, false, false] rfl rfl (any_of HT_.out (by kernel_rfl)) (fun _ _ _ h => h) (Or.inr ⟨by rfl, rfl⟩) ?_ ?_
              rotate_left
              · simp only [Act.put, List.setIfInBounds_toArray, List.set_cons_zero, List.set_cons_succ, i64_w, i32_w]
                rfl
              refine pure_ (i := 19) (N := some 33) (v := undef) (a' := ?_) #[true, true, true, true, true, true, true, true, true, true, true, true, true, true, true, true, true, true, true, true, false, false, false, false] rfl rfl (any_of HT_.out (by kernel_rfl)) (fun _ _ _ h => h) (Or.inr ⟨by rfl, rfl⟩) ?_ ?_
              rotate_left
              · simp only [Act.put, List.setIfInBounds_toArray, List.set_cons_zero, List.set_cons_succ, i64_w, i32_w]
                rfl
              refine pure_ (i := 20) (N := some 34) (v := undef) (a' := ?_) #[true, true, true, true, true, true, true, true, true, true, true, true, true, true, true, true, true, true, true, true, true, false, false, false] rfl rfl (any_of HT_.out (by kernel_rfl)) (fun _ _ _ h => h) (Or.inr ⟨by rfl, rfl⟩) ?_ ?_
              rotate_left
              · simp only [Act.put, List.setIfInBounds_toArray, List.set_cons_zero, List.set_cons_succ, i64_w, i32_w]
                rfl
              refine pure_ (i := 21) (N := some 35) (v := undef) (a' := ?_) #[true, true, true, true, true, true, true, true, true, true, true, true, true, true, true, true, true, true, true, true, true, true, false, false] rfl rfl (any_of HT_.out (by kernel_rfl)) (fun _ _ _ h => h) (Or.inr ⟨by rfl, rfl⟩) ?_ ?_
              rotate_left
              · simp only [Act.put, List.setIfInBounds_toArray, List.set_cons_zero, List.set_cons_succ, i64_w, i32_w]
                rfl
              refine pure_ (i := 22) (N := some 36) (v := undef) (a' := ?_) #[true, true, true, true, true, true, true, true, true, true, true, true, true, true, true, true, true, true, true, true, true, true, true, false] rfl rfl (any_of HT_.out (by kernel_rfl)) (fun _ _ _ h => h) (Or.inr ⟨by rfl, rfl⟩) ?_ ?_
              rotate_left
              · simp only [Act.put, List.setIfInBounds_toArray, List.set_cons_zero, List.set_cons_succ, i64_w, i32_w]
                rfl
              refine zU (i := 23) (N := some 37) #[true, true, true, true, true, true, true, true, true, true, true, true, true, true, true, true, true, true, true, true, true, true, true, true] (any_of HT_.out (by kernel_rfl)) ?_
              refine done_ (done_of HT_.out (by kernel_rfl)) ?_
              try go_wp2
              go_meet
              case rel => exact ⟨_, (true), (by first | rfl | (simp; done) | (simp [zne]; done) | (simp [*]; done)), H', ⟨by have := HJ1.out; first | omega | exact Nat.le_refl _⟩, ⟨by (with_reducible repeat (first | refine blk_drewN ?_ _ | refine blk_drew ?_ | refine blk_alloc ?_ _)); exact BK262.out⟩, ⟨zT HB⟩⟩
          · rw [if_neg c10] at H
            have c10b0 : (t263 == 0) = false := beq_eq_false_iff_ne.mpr c10
            have c10b1 : (t263 != 0) = true := bne_iff_ne.mpr c10
            (first | rw [c10b0] | (simp only [i64_w, i32_w]; rw [c10b0]) | skip)
            have H' := Aside0.mk H
            clear H
            try go_wp2
            replace BK262 := zD BK262; replace HB := zF HB
            refine start_ (n := 24) (S := fun w' => w'.cell? ⟨gb262, 0, none⟩ = some (.bool a0_0) ∧ w'.cell? ⟨gb262, 1, none⟩ = some (.string a0_1) ∧ w'.cell? ⟨gb262, 2, none⟩ = some (.string a0_2)) (ds := []) #[false, false, false, false, false, false, false, false, false, false, false, false, false, false, false, false, false, false, false, false, false, false, false, false] (by kernel_rfl) rfl rfl ⟨(blk_cell BK262.out 0).trans rfl, (blk_cell BK262.out 1).trans rfl, (blk_cell BK262.out 2).trans rfl⟩ (fun hHeld => ?_); refine with_tabW gussetref03_Check.tab3 gussetref03_Check.bits3 (fun HT_ HW_ => ?_)
            generalize wc.drew = w27 at BK262 HB hHeld ⊢
            refine zU (i := 0) (N := some 14) #[true, false, false, false, false, false, false, false, false, false, false, false, false, false, false, false, false, false, false, false, false, false, false, false] (any_of HT_.out (by kernel_rfl)) ?_
            refine zV (i := 1) (N := some 15) #[true, true, false, false, false, false, false, false, false, false, false, false, false, false, false, false, false, false, false, false, false, false, false, false] (take_ofW HT_.out HW_.out (by kernel_rfl)) hHeld ?_
            refine one_ (i := 2) (N := some 16) #[true, true, true, false, false, false, false, false, false, false, false, false, false, false, false, false, false, false, false, false, false, false, false, false] rfl rfl (one_of HT_.out (by kernel_rfl)) (by decide) (fun K hK => ?_)
            refine zX Tryz.func48 (by kernel_rfl) #[.agg #[.bool a0_0, .string a0_1]] ?_
            with_reducible refine (gussetref02_Check.calls a0_0 a0_1 t263 _ A9.out).mono ?_
            rintro e w28 ⟨rfl, hb⟩; refine ⟨_, rfl, ?_⟩
            replace BK262 := zB BK262 hb; replace HB := zS HB hb
            (try clear hb)
            refine hK.out _ _ ⟨(blk_cell BK262.out 0).trans rfl, (blk_cell BK262.out 1).trans rfl, (blk_cell BK262.out 2).trans rfl⟩ (fun hHeld => ?_)
            clear hK K
            refine zW (some 16) ?_
            refine zU (i := 3) (N := some 17) #[true, true, true, true, false, false, false, false, false, false, false, false, false, false, false, false, false, false, false, false, false, false, false, false] (any_of HT_.out (by kernel_rfl)) ?_
            refine zU (i := 4) (N := some 18) #[true, true, true, true, true, false, false, false, false, false, false, false, false, false, false, false, false, false, false, false, false, false, false, false] (any_of HT_.out (by kernel_rfl)) ?_
            refine pure_ (i := 5) (N := some 19) (v := undef) (a' := ?_) #[true, true, true, true, true, true, false, false, false, false, false, false, false, false, false, false, false, false, false, false, false, false, false, false] rfl rfl (any_of HT_.out (by kernel_rfl)) (fun _ _ _ h => h) (Or.inr ⟨by rfl, rfl⟩) ?_ ?_
            rotate_left
            · simp only [Act.put, List.setIfInBounds_toArray, List.set_cons_zero, List.set_cons_succ, i64_w, i32_w]
              rfl
            refine pure_ (i := 6) (N := some 20) (v := undef) (a' := ?_) #[true, true, true, true, true, true, true, false, false, false, false, false, false, false, false, false, false, false, false, false, false, false, false, false] rfl rfl (any_of HT_.out (by kernel_rfl)) (fun _ _ _ h => h) (Or.inr ⟨by rfl, rfl⟩) ?_ ?_
            rotate_left
            · simp only [Act.put, List.setIfInBounds_toArray, List.set_cons_zero, List.set_cons_succ, i64_w, i32_w]
              rfl
            refine pure_ (i := 7) (N := some 21) (v := undef) (a' := ?_) #[true, true, true, true, true, true, true, true, false, false, false, false, false, false, false, false, false, false, false, false, false, false, false, false] rfl rfl (any_of HT_.out (by kernel_rfl)) (fun _ _ _ h => h) (Or.inr ⟨by rfl, rfl⟩) ?_ ?_
            rotate_left
            · simp only [Act.put, List.setIfInBounds_toArray, List.set_cons_zero, List.set_cons_succ, i64_w, i32_w]
              rfl
            refine pure_ (i := 8) (N := some 22) (v := undef) (a' := ?_) #[true, true, true, true, true, true, true, true, true, false, false, false, false, false, false, false, false, false, false, false, false, false, false, false] rfl rfl (any_of HT_.out (by kernel_rfl)) (fun _ _ _ h => h) (Or.inr ⟨by rfl, rfl⟩) ?_ ?_
            rotate_left
            · simp only [Act.put, List.setIfInBounds_toArray, List.set_cons_zero, List.set_cons_succ, i64_w, i32_w]
              rfl
            refine zU (i := 9) (N := some 23) #[true, true, true, true, true, true, true, true, true, true, false, false, false, false, false, false, false, false, false, false, false, false, false, false] (any_of HT_.out (by kernel_rfl)) ?_
            refine zU (i := 10) (N := some 24) #[true, true, true, true, true, true, true, true, true, true, true, false, false, false, false, false, false, false, false, false, false, false, false, false] (any_of HT_.out (by kernel_rfl)) ?_
            refine pure_ (i := 11) (N := some 25) (v := undef) (a' := ?_) #[true, true, true, true, true, true, true, true, true, true, true, true, false, false, false, false, false, false, false, false, false, false, false, false] rfl rfl (any_of HT_.out (by kernel_rfl)) (fun _ _ _ h => h) (Or.inr ⟨by rfl, rfl⟩) ?_ ?_
            rotate_left
            · simp only [Act.put, List.setIfInBounds_toArray, List.set_cons_zero, List.set_cons_succ, i64_w, i32_w]
              rfl
            refine pure_ (i := 12) (N := some 26) (v := undef) (a' := ?_) #[true, true, true, true, true, true, true, true, true, true, true, true, true, false, false, false, false, false, false, false, false, false, false, false] rfl rfl (any_of HT_.out (by kernel_rfl)) (fun _ _ _ h => h) (Or.inr ⟨by rfl, rfl⟩) ?_ ?_
            rotate_left
            · simp only [Act.put, List.setIfInBounds_toArray, List.set_cons_zero, List.set_cons_succ, i64_w, i32_w]
              rfl
            refine pure_ (i := 13) (N := some 27) (v := undef) (a' := ?_) #[true, true, true, true, true, true, true, true, true, true, true, true, true, true, false, false, false, false, false, false, false, false, false, false] rfl rfl (any_of HT_.out (by kernel_rfl)) (fun _ _ _ h => h) (Or.inr ⟨by rfl, rfl⟩) ?_ ?_
            rotate_left
            · simp only [Act.put, List.setIfInBounds_toArray, List.set_cons_zero, List.set_cons_succ, i64_w, i32_w]
              rfl
            refine zU (i := 14) (N := some 28) #[true, true, true, true, true, true, true, true, true, true, true, true, true, true, true, false, false, false, false, false, false, false, false, false] (any_of HT_.out (by kernel_rfl)) ?_
            refine zU (i := 15) (N := some 29) #[true, true, true, true, true, true, true, true, true, true, true, true, true, true, true, true, false, false, false, false, false, false, false, false] (any_of HT_.out (by kernel_rfl)) ?_
            refine pure_ (i := 16) (N := some 30) (v := undef) (a' := ?_) #[true, true, true, true, true, true, true, true, true, true, true, true, true, true, true, true, true, false, false, false, false, false, false, false] rfl rfl (any_of HT_.out (by kernel_rfl)) (fun _ _ _ h => h) (Or.inr ⟨by rfl, rfl⟩) ?_ ?_
            rotate_left
            · simp only [Act.put, List.setIfInBounds_toArray, List.set_cons_zero, List.set_cons_succ, i64_w, i32_w]
              rfl
            refine pure_ (i := 17) (N := some 31) (v := undef) (a' := ?_) #[true, true, true, true, true, true, true, true, true, true, true, true, true, true, true, true, true, true, false, false, false, false, false, false] rfl rfl (any_of HT_.out (by kernel_rfl)) (fun _ _ _ h => h) (Or.inr ⟨by rfl, rfl⟩) ?_ ?_
            rotate_left
            · simp only [Act.put, List.setIfInBounds_toArray, List.set_cons_zero, List.set_cons_succ, i64_w, i32_w]
              rfl
            refine pure_ (i := 18) (N := some 32) (v := undef) (a' := ?_) #[true, true, true, true, true, true, true, true, true, true, true, true, true, true, true, true, true, true, true, false, false, false, false, false] rfl rfl (any_of HT_.out (by kernel_rfl)) (fun _ _ _ h => h) (Or.inr ⟨by rfl, rfl⟩) ?_ ?_
            rotate_left
            · simp only [Act.put, List.setIfInBounds_toArray, List.set_cons_zero, List.set_cons_succ, i64_w, i32_w]
              rfl
            refine pure_ (i := 19) (N := some 33) (v := undef) (a' := ?_) #[true, true, true, true, true, true, true, true, true, true, true, true, true, true, true, true, true, true, true, true, false, false, false, false] rfl rfl (any_of HT_.out (by kernel_rfl)) (fun _ _ _ h => h) (Or.inr ⟨by rfl, rfl⟩) ?_ ?_
            rotate_left
            · simp only [Act.put, List.setIfInBounds_toArray, List.set_cons_zero, List.set_cons_succ, i64_w, i32_w]
              rfl
            refine pure_ (i := 20) (N := some 34) (v := undef) (a' := ?_) #[true, true, true, true, true, true, true, true, true, true, true, true, true, true, true, true, true, true, true, true, true, false, false, false] rfl rfl (any_of HT_.out (by kernel_rfl)) (fun _ _ _ h => h) (Or.inr ⟨by rfl, rfl⟩) ?_ ?_
            rotate_left
            · simp only [Act.put, List.setIfInBounds_toArray, List.set_cons_zero, List.set_cons_succ, i64_w, i32_w]
              rfl
            refine pure_ (i := 21) (N := some 35) (v := undef) (a' := ?_) #[true, true, true, true, true, true, true, true, true, true, true, true, true, true, true, true, true, true, true, true, true, true, false, false] rfl rfl (any_of HT_.out (by kernel_rfl)) (fun _ _ _ h => h) (Or.inr ⟨by rfl, rfl⟩) ?_ ?_
            rotate_left
            · simp only [Act.put, List.setIfInBounds_toArray, List.set_cons_zero, List.set_cons_succ, i64_w, i32_w]
              rfl
            refine pure_ (i := 22) (N := some 36) (v := undef) (a' := ?_) #[true, true, true, true, true, true, true, true, true, true, true, true, true, true, true, true, true, true, true, true, true, true, true, false] rfl rfl (any_of HT_.out (by kernel_rfl)) (fun _ _ _ h => h) (Or.inr ⟨by rfl, rfl⟩) ?_ ?_
            rotate_left
            · simp only [Act.put, List.setIfInBounds_toArray, List.set_cons_zero, List.set_cons_succ, i64_w, i32_w]
              rfl
            refine zU (i := 23) (N := some 37) #[true, true, true, true, true, true, true, true, true, true, true, true, true, true, true, true, true, true, true, true, true, true, true, true] (any_of HT_.out (by kernel_rfl)) ?_
            refine done_ (done_of HT_.out (by kernel_rfl)) ?_
            try go_wp2
            go_meet
            case rel => exact ⟨_, (true), (by first | rfl | (simp; done) | (simp [zne]; done) | (simp [*]; done)), H', ⟨by have := HJ1.out; first | omega | exact Nat.le_refl _⟩, ⟨by (with_reducible repeat (first | refine blk_drewN ?_ _ | refine blk_drew ?_ | refine blk_alloc ?_ _)); exact BK262.out⟩, ⟨zT HB⟩⟩
        case rest =>
          clear HC8
          try clear c1
          try clear p2
          try clear c4
          try clear c5
          try clear c10
          try clear c10b0
          try clear c10b1
          try clear c12
          obtain ⟨kq, x37_7, rfl, HA, HJ7, BK262, HB⟩ := hcut
          cases kq with
          | zero => exact absurd HA.out (by simp [gussetref03_Check.j1])
          | succ kj7 =>
            have H := HA.out
            clear HA
            simp only [gussetref03_Check.j1] at H
            by_cases c29 : x37_7 = true
            · subst c29
              have H1 : (some 1) = some r := by rw [if_pos rfl] at H; exact H
              clear H
              have H := H1
              clear H1
              obtain rfl := Option.some.inj H
              go_wp2
              go_ret
              exact ⟨by first | rfl | (simp [errW_none, errW_some] <;> rfl) | (simp [*, errW_none, errW_some] <;> rfl), zT HB⟩
            · replace c29 := Bool.eq_false_iff.mpr c29
              subst c29
              have H1 : (some 0) = some r := by rw [if_neg (show ¬ (false = true) by decide)] at H; exact H
              clear H
              have H := H1
              clear H1
              obtain rfl := Option.some.inj H
              go_wp2
              go_ret
              exact ⟨by first | rfl | (simp [errW_none, errW_some] <;> rfl) | (simp [*, errW_none, errW_some] <;> rfl), zT HB⟩

end Go.Proofs.YtoijlbcbbblbfaaGreatDoorH.R

-- printed by hp.py
namespace Go.Proofs.YtoijlbcbbblbfaaGreatDoorH.R
open Go.RowKit Go.Proofs.YtoijlbcbbblbfaaGreatDoorH.Z Go.Proofs.YtoijlbcbbblbfaaGreatDoorW.PrintWords Go.Proofs.YtoijlbcbbblbfaaGreatDoorW.PrintLast Go.Proofs.YtoijlbcbbblbfaaGreatDoorW.PrintMore
attribute [local go_sem] max2_int min2_int max_two min_two max_three min_three max_four min_four   -- for this text's walks alone
set_option linter.unusedVariables false
set_option linter.unusedSimpArgs false

/-! ### gussetref03_Both: function 39 -/
def gussetref03_Both.f (k : Nat) (a0_0 : Bool) (a0_1 : ByteArray) (a0_2 : ByteArray) (a1_0 : Bool) (a1_1 : ByteArray) (a1_2 : ByteArray) : Option (Int) := (gussetref03_Check.f k a0_0 a0_1 a0_2).bind fun t390 => (if t390 = 0 then ((gussetref03_Check.f k a1_0 a1_1 a1_2).bind fun t391 => (some t391)) else (some t390))
set_option maxHeartbeats 8000000 in
set_option maxRecDepth 100000 in
theorem gussetref03_Both.calls (k : Nat) (a0_0 : Bool) (a0_1 : ByteArray) (a0_2 : ByteArray) (a1_0 : Bool) (a1_1 : ByteArray) (a1_2 : ByteArray) (r : Int) (w : World) (h : gussetref03_Both.f k a0_0 a0_1 a0_2 a1_0 a1_1 a1_2 = some r) :
    Calls Tryz.prog 39 #[.agg #[.bool a0_0, .string a0_1, .string a0_2], .agg #[.bool a1_0, .string a1_1, .string a1_2]] w fun e w' => e = .returned (.int .i64 r) ∧ Below w.heap.size w w' := by
  have hu27 := Tryz.underlying27
  have HB := Aside0.mk (Below.refl w.heap.size w)
  have H : ((gussetref03_Check.f k a0_0 a0_1 a0_2).bind fun t390 => (if t390 = 0 then ((gussetref03_Check.f k a1_0 a1_1 a1_2).bind fun t391 => (some t391)) else (some t390))) = some r := h
  clear h
  replace H := Option.bind_eq_some_iff.mp H
  obtain ⟨t390, A30, H⟩ := H
  replace H : (if t390 = 0 then ((gussetref03_Check.f k a1_0 a1_1 a1_2).bind fun t391 => (some t391)) else (some t390)) = some r := H
  have A3 := Aside0.mk A30
  clear A30
  by_cases c4 : t390 = 0
  · rw [if_pos c4] at H
    have c4b0 : (t390 == 0) = true := beq_iff_eq.mpr c4
    have c4b1 : (t390 != 0) = false := bne_eq_false_iff_eq.mpr c4
    clear c4
    replace H := Option.bind_eq_some_iff.mp H
    obtain ⟨t391, A50, H⟩ := H
    replace H : (some t391) = some r := H
    have A5 := Aside0.mk A50
    clear A50
    obtain rfl := Option.some.inj H
    go_enter Tryz.func39, Tryz.ntmps39
    go_wp2_with (first | ((with_reducible refine gate_dst (N := 2) rfl ?_); refine box_event ?hg (N := 2) ?hd (cs := #[.bool a0_0, .string a0_1, .string a0_2]) (t := 27) ?hr ?_; (case hd => rfl); (case hg => rfl); (case hr => first | (go_simp; done) | (go_simp; rfl)); intro gb388 hg w6 hbox hb; have BK388 := Aside0.mk (hbox); have GW388 := zG hg HB; have GE388 := zG hg HB; replace HB := zS HB hb; clear hb hbox hg) | ((with_reducible refine gate_dst (N := 3) rfl ?_); refine box_event ?hg (N := 3) ?hd (cs := #[.bool a1_0, .string a1_1, .string a1_2]) (t := 27) ?hr ?_; (case hd => rfl); (case hg => rfl); (case hr => first | (go_simp; done) | (go_simp; rfl)); intro gb389 hg w7 hbox hb; have BK389 := Aside0.mk (hbox); have GW389 := zG hg HB; have GE389 := zG hg HB; have NB388_389 := zN hg BK388; have NB389_388 := zM hg BK388; replace BK388 := zB BK388 hb; replace HB := zS HB hb; clear hb hbox hg; have hnb8 := NB388_389.out; have hnc8 := NB389_388.out; obtain ⟨hcz9_0, hcz9_1, hcz9_2, hfz9_0, hfz9_1, hfz9_2⟩ := z3 BK388) | ((with_reducible refine gate_callee (f := 19) rfl ?_); refine zC Tryz.func19 (by kernel_rfl) #[.agg #[.bool a0_0, .string a0_1, .string a0_2]] ?_; (with_reducible refine (gussetref03_Check.calls k a0_0 a0_1 a0_2 t390 _ A3.out).mono ?_); rintro e w10 ⟨rfl, hb⟩; refine ⟨_, rfl, ?_⟩; replace BK388 := zB BK388 hb; replace BK389 := zB BK389 hb; replace HB := zS HB hb; (try clear hb); obtain ⟨hcz11_0, hcz11_1, hcz11_2, hfz11_0, hfz11_1, hfz11_2⟩ := z3 BK389) | ((with_reducible refine gate_callee (f := 19) rfl ?_); refine zC Tryz.func19 (by kernel_rfl) #[.agg #[.bool a1_0, .string a1_1, .string a1_2]] ?_; (with_reducible refine (gussetref03_Check.calls k a1_0 a1_1 a1_2 t391 _ A5.out).mono ?_); rintro e w12 ⟨rfl, hb⟩; refine ⟨_, rfl, ?_⟩; replace BK388 := zB BK388 hb; replace BK389 := zB BK389 hb; replace HB := zS HB hb; (try clear hb)))
    go_ret
    exact ⟨by first | rfl | (simp [errW_none, errW_some] <;> rfl) | (simp [*, errW_none, errW_some] <;> rfl), zT HB⟩
  · rw [if_neg c4] at H
    have c4b0 : (t390 == 0) = false := beq_eq_false_iff_ne.mpr c4
    have c4b1 : (t390 != 0) = true := bne_iff_ne.mpr c4
    obtain rfl := Option.some.inj H
    go_enter Tryz.func39, Tryz.ntmps39
    go_wp2_with (first | ((with_reducible refine gate_dst (N := 2) rfl ?_); refine box_event ?hg (N := 2) ?hd (cs := #[.bool a0_0, .string a0_1, .string a0_2]) (t := 27) ?hr ?_; (case hd => rfl); (case hg => rfl); (case hr => first | (go_simp; done) | (go_simp; rfl)); intro gb388 hg w13 hbox hb; have BK388 := Aside0.mk (hbox); have GW388 := zG hg HB; have GE388 := zG hg HB; replace HB := zS HB hb; clear hb hbox hg) | ((with_reducible refine gate_dst (N := 3) rfl ?_); refine box_event ?hg (N := 3) ?hd (cs := #[.bool a1_0, .string a1_1, .string a1_2]) (t := 27) ?hr ?_; (case hd => rfl); (case hg => rfl); (case hr => first | (go_simp; done) | (go_simp; rfl)); intro gb389 hg w14 hbox hb; have BK389 := Aside0.mk (hbox); have GW389 := zG hg HB; have GE389 := zG hg HB; have NB388_389 := zN hg BK388; have NB389_388 := zM hg BK388; replace BK388 := zB BK388 hb; replace HB := zS HB hb; clear hb hbox hg; have hnb15 := NB388_389.out; have hnc15 := NB389_388.out; obtain ⟨hcz16_0, hcz16_1, hcz16_2, hfz16_0, hfz16_1, hfz16_2⟩ := z3 BK388) | ((with_reducible refine gate_callee (f := 19) rfl ?_); refine zC Tryz.func19 (by kernel_rfl) #[.agg #[.bool a0_0, .string a0_1, .string a0_2]] ?_; (with_reducible refine (gussetref03_Check.calls k a0_0 a0_1 a0_2 t390 _ A3.out).mono ?_); rintro e w17 ⟨rfl, hb⟩; refine ⟨_, rfl, ?_⟩; replace BK388 := zB BK388 hb; replace BK389 := zB BK389 hb; replace HB := zS HB hb; (try clear hb)))
    go_ret
    exact ⟨by first | rfl | (simp [errW_none, errW_some] <;> rfl) | (simp [*, errW_none, errW_some] <;> rfl), zT HB⟩

end Go.Proofs.YtoijlbcbbblbfaaGreatDoorH.R

-- printed by hp.py
namespace Go.Proofs.YtoijlbcbbblbfaaGreatDoorH.R
open Go.RowKit Go.Proofs.YtoijlbcbbblbfaaGreatDoorH.Z Go.Proofs.YtoijlbcbbblbfaaGreatDoorW.PrintWords Go.Proofs.YtoijlbcbbblbfaaGreatDoorW.PrintLast Go.Proofs.YtoijlbcbbblbfaaGreatDoorW.PrintMore
attribute [local go_sem] max2_int min2_int max_two min_two max_three min_three max_four min_four   -- for this text's walks alone
set_option linter.unusedVariables false
set_option linter.unusedSimpArgs false

/-! ### gussetlaw03_fine: function 27 -/
def gussetlaw03_fine.f (k : Nat) (a0_0 : Bool) (a0_1 : ByteArray) (a0_2 : ByteArray) (a1_0 : Bool) (a1_1 : ByteArray) (a1_2 : ByteArray) : Option (Bool) := (gussetlaw03_small.f a0_0 a0_1 a0_2).bind fun t394 => (if t394 = true then ((gussetlaw03_small.f a1_0 a1_1 a1_2).bind fun t395 => (if t395 = true then ((gussetref03_Both.f k a0_0 a0_1 a0_2 a1_0 a1_1 a1_2).bind fun t396 => (some (t396 == 0))) else (some false))) else (some false))
set_option maxHeartbeats 8000000 in
set_option maxRecDepth 100000 in
theorem gussetlaw03_fine.calls (k : Nat) (a0_0 : Bool) (a0_1 : ByteArray) (a0_2 : ByteArray) (a1_0 : Bool) (a1_1 : ByteArray) (a1_2 : ByteArray) (r : Bool) (w : World) (h : gussetlaw03_fine.f k a0_0 a0_1 a0_2 a1_0 a1_1 a1_2 = some r) :
    Calls Tryz.prog 27 #[.agg #[.bool a0_0, .string a0_1, .string a0_2], .agg #[.bool a1_0, .string a1_1, .string a1_2]] w fun e w' => e = .returned (.bool r) ∧ Below w.heap.size w w' := by
  have hu27 := Tryz.underlying27
  have HB := Aside0.mk (Below.refl w.heap.size w)
  have H : ((gussetlaw03_small.f a0_0 a0_1 a0_2).bind fun t394 => (if t394 = true then ((gussetlaw03_small.f a1_0 a1_1 a1_2).bind fun t395 => (if t395 = true then ((gussetref03_Both.f k a0_0 a0_1 a0_2 a1_0 a1_1 a1_2).bind fun t396 => (some (t396 == 0))) else (some false))) else (some false))) = some r := h
  clear h
  replace H := Option.bind_eq_some_iff.mp H
  obtain ⟨t394, A30, H⟩ := H
  replace H : (if t394 = true then ((gussetlaw03_small.f a1_0 a1_1 a1_2).bind fun t395 => (if t395 = true then ((gussetref03_Both.f k a0_0 a0_1 a0_2 a1_0 a1_1 a1_2).bind fun t396 => (some (t396 == 0))) else (some false))) else (some false)) = some r := H
  have A3 := Aside0.mk A30
  clear A30
  by_cases c4 : t394 = true
  · subst c4
    have H1 : ((gussetlaw03_small.f a1_0 a1_1 a1_2).bind fun t395 => (if t395 = true then ((gussetref03_Both.f k a0_0 a0_1 a0_2 a1_0 a1_1 a1_2).bind fun t396 => (some (t396 == 0))) else (some false))) = some r := by rw [if_pos rfl] at H; exact H
    clear H
    have H := H1
    clear H1
    replace H := Option.bind_eq_some_iff.mp H
    obtain ⟨t395, A50, H⟩ := H
    replace H : (if t395 = true then ((gussetref03_Both.f k a0_0 a0_1 a0_2 a1_0 a1_1 a1_2).bind fun t396 => (some (t396 == 0))) else (some false)) = some r := H
    have A5 := Aside0.mk A50
    clear A50
    by_cases c6 : t395 = true
    · subst c6
      have H1 : ((gussetref03_Both.f k a0_0 a0_1 a0_2 a1_0 a1_1 a1_2).bind fun t396 => (some (t396 == 0))) = some r := by rw [if_pos rfl] at H; exact H
      clear H
      have H := H1
      clear H1
      replace H := Option.bind_eq_some_iff.mp H
      obtain ⟨t396, A70, H⟩ := H
      replace H : (some (t396 == 0)) = some r := H
      have A7 := Aside0.mk A70
      clear A70
      obtain rfl := Option.some.inj H
      go_enter Tryz.func27, Tryz.ntmps27
      go_wp2_with (first | ((with_reducible refine gate_dst (N := 2) rfl ?_); refine box_event ?hg (N := 2) ?hd (cs := #[.bool a0_0, .string a0_1, .string a0_2]) (t := 27) ?hr ?_; (case hd => rfl); (case hg => rfl); (case hr => first | (go_simp; done) | (go_simp; rfl)); intro gb392 hg w8 hbox hb; have BK392 := Aside0.mk (hbox); have GW392 := zG hg HB; have GE392 := zG hg HB; replace HB := zS HB hb; clear hb hbox hg) | ((with_reducible refine gate_dst (N := 3) rfl ?_); refine box_event ?hg (N := 3) ?hd (cs := #[.bool a1_0, .string a1_1, .string a1_2]) (t := 27) ?hr ?_; (case hd => rfl); (case hg => rfl); (case hr => first | (go_simp; done) | (go_simp; rfl)); intro gb393 hg w9 hbox hb; have BK393 := Aside0.mk (hbox); have GW393 := zG hg HB; have GE393 := zG hg HB; have NB392_393 := zN hg BK392; have NB393_392 := zM hg BK392; replace BK392 := zB BK392 hb; replace HB := zS HB hb; clear hb hbox hg; have hnb10 := NB392_393.out; have hnc10 := NB393_392.out; obtain ⟨hcz11_0, hcz11_1, hcz11_2, hfz11_0, hfz11_1, hfz11_2⟩ := z3 BK392) | ((with_reducible refine gate_callee (f := 33) rfl ?_); refine zC Tryz.func33 (by kernel_rfl) #[.agg #[.bool a0_0, .string a0_1, .string a0_2]] ?_; (with_reducible refine (gussetlaw03_small.calls a0_0 a0_1 a0_2 true _ A3.out).mono ?_); rintro e w12 ⟨rfl, hb⟩; refine ⟨_, rfl, ?_⟩; replace BK392 := zB BK392 hb; replace BK393 := zB BK393 hb; replace HB := zS HB hb; (try clear hb); obtain ⟨hcz13_0, hcz13_1, hcz13_2, hfz13_0, hfz13_1, hfz13_2⟩ := z3 BK393) | (go_at_call 33; (with_reducible refine (gussetlaw03_small.calls a1_0 a1_1 a1_2 true _ A5.out).mono ?_); rintro e w14 ⟨rfl, hb⟩; replace BK392 := zB BK392 hb; replace BK393 := zB BK393 hb; replace HB := zS HB hb; (try clear hb); obtain ⟨hcz15_0, hcz15_1, hcz15_2, hfz15_0, hfz15_1, hfz15_2⟩ := z3 BK392; obtain ⟨hcz16_0, hcz16_1, hcz16_2, hfz16_0, hfz16_1, hfz16_2⟩ := z3 BK393) | (go_at_call 39; (with_reducible refine (gussetref03_Both.calls k a0_0 a0_1 a0_2 a1_0 a1_1 a1_2 t396 _ A7.out).mono ?_); rintro e w17 ⟨rfl, hb⟩; replace BK392 := zB BK392 hb; replace BK393 := zB BK393 hb; replace HB := zS HB hb; (try clear hb)))
      go_ret
      exact ⟨by first | rfl | (simp [errW_none, errW_some] <;> rfl) | (simp [*, errW_none, errW_some] <;> rfl), zT HB⟩
    · replace c6 := Bool.eq_false_iff.mpr c6
      subst c6
      have H1 : (some false) = some r := by rw [if_neg (show ¬ (false = true) by decide)] at H; exact H
      clear H
      have H := H1
      clear H1
      obtain rfl := Option.some.inj H
      go_enter Tryz.func27, Tryz.ntmps27
      go_wp2_with (first | ((with_reducible refine gate_dst (N := 2) rfl ?_); refine box_event ?hg (N := 2) ?hd (cs := #[.bool a0_0, .string a0_1, .string a0_2]) (t := 27) ?hr ?_; (case hd => rfl); (case hg => rfl); (case hr => first | (go_simp; done) | (go_simp; rfl)); intro gb392 hg w18 hbox hb; have BK392 := Aside0.mk (hbox); have GW392 := zG hg HB; have GE392 := zG hg HB; replace HB := zS HB hb; clear hb hbox hg) | ((with_reducible refine gate_dst (N := 3) rfl ?_); refine box_event ?hg (N := 3) ?hd (cs := #[.bool a1_0, .string a1_1, .string a1_2]) (t := 27) ?hr ?_; (case hd => rfl); (case hg => rfl); (case hr => first | (go_simp; done) | (go_simp; rfl)); intro gb393 hg w19 hbox hb; have BK393 := Aside0.mk (hbox); have GW393 := zG hg HB; have GE393 := zG hg HB; have NB392_393 := zN hg BK392; have NB393_392 := zM hg BK392; replace BK392 := zB BK392 hb; replace HB := zS HB hb; clear hb hbox hg; have hnb20 := NB392_393.out; have hnc20 := NB393_392.out; obtain ⟨hcz21_0, hcz21_1, hcz21_2, hfz21_0, hfz21_1, hfz21_2⟩ := z3 BK392) | ((with_reducible refine gate_callee (f := 33) rfl ?_); refine zC Tryz.func33 (by kernel_rfl) #[.agg #[.bool a0_0, .string a0_1, .string a0_2]] ?_; (with_reducible refine (gussetlaw03_small.calls a0_0 a0_1 a0_2 true _ A3.out).mono ?_); rintro e w22 ⟨rfl, hb⟩; refine ⟨_, rfl, ?_⟩; replace BK392 := zB BK392 hb; replace BK393 := zB BK393 hb; replace HB := zS HB hb; (try clear hb); obtain ⟨hcz23_0, hcz23_1, hcz23_2, hfz23_0, hfz23_1, hfz23_2⟩ := z3 BK393) | (go_at_call 33; (with_reducible refine (gussetlaw03_small.calls a1_0 a1_1 a1_2 false _ A5.out).mono ?_); rintro e w24 ⟨rfl, hb⟩; replace BK392 := zB BK392 hb; replace BK393 := zB BK393 hb; replace HB := zS HB hb; (try clear hb)))
      go_ret
      exact ⟨by first | rfl | (simp [errW_none, errW_some] <;> rfl) | (simp [*, errW_none, errW_some] <;> rfl), zT HB⟩
  · replace c4 := Bool.eq_false_iff.mpr c4
    subst c4
    have H1 : (some false) = some r := by rw [if_neg (show ¬ (false = true) by decide)] at H; exact H
    clear H
    have H := H1
    clear H1
    obtain rfl := Option.some.inj H
    go_enter Tryz.func27, Tryz.ntmps27
    go_wp2_with (first | ((with_reducible refine gate_dst (N := 2) rfl ?_); refine box_event ?hg (N := 2) ?hd (cs := #[.bool a0_0, .string a0_1, .string a0_2]) (t := 27) ?hr ?_; (case hd => rfl); (case hg => rfl); (case hr => first | (go_simp; done) | (go_simp; rfl)); intro gb392 hg w25 hbox hb; have BK392 := Aside0.mk (hbox); have GW392 := zG hg HB; have GE392 := zG hg HB; replace HB := zS HB hb; clear hb hbox hg) | ((with_reducible refine gate_dst (N := 3) rfl ?_); refine box_event ?hg (N := 3) ?hd (cs := #[.bool a1_0, .string a1_1, .string a1_2]) (t := 27) ?hr ?_; (case hd => rfl); (case hg => rfl); (case hr => first | (go_simp; done) | (go_simp; rfl)); intro gb393 hg w26 hbox hb; have BK393 := Aside0.mk (hbox); have GW393 := zG hg HB; have GE393 := zG hg HB; have NB392_393 := zN hg BK392; have NB393_392 := zM hg BK392; replace BK392 := zB BK392 hb; replace HB := zS HB hb; clear hb hbox hg; have hnb27 := NB392_393.out; have hnc27 := NB393_392.out; obtain ⟨hcz28_0, hcz28_1, hcz28_2, hfz28_0, hfz28_1, hfz28_2⟩ := z3 BK392) | ((with_reducible refine gate_callee (f := 33) rfl ?_); refine zC Tryz.func33 (by kernel_rfl) #[.agg #[.bool a0_0, .string a0_1, .string a0_2]] ?_; (with_reducible refine (gussetlaw03_small.calls a0_0 a0_1 a0_2 false _ A3.out).mono ?_); rintro e w29 ⟨rfl, hb⟩; refine ⟨_, rfl, ?_⟩; replace BK392 := zB BK392 hb; replace BK393 := zB BK393 hb; replace HB := zS HB hb; (try clear hb)))
    go_ret
    exact ⟨by first | rfl | (simp [errW_none, errW_some] <;> rfl) | (simp [*, errW_none, errW_some] <;> rfl), zT HB⟩

end Go.Proofs.YtoijlbcbbblbfaaGreatDoorH.R

-- printed by hp.py
namespace Go.Proofs.YtoijlbcbbblbfaaGreatDoorH.R
open Go.RowKit Go.Proofs.YtoijlbcbbblbfaaGreatDoorH.Z Go.Proofs.YtoijlbcbbblbfaaGreatDoorW.PrintWords Go.Proofs.YtoijlbcbbblbfaaGreatDoorW.PrintLast Go.Proofs.YtoijlbcbbblbfaaGreatDoorW.PrintMore
attribute [local go_sem] max2_int min2_int max_two min_two max_three min_three max_four min_four   -- for this text's walks alone
set_option linter.unusedVariables false
set_option linter.unusedSimpArgs false

/-! ### gussetref02_Times: function 24 -/
open Go.Proofs.YtoijlbcbbblbfaaGreatDoor Go.Proofs.YtoijlbcbbblbfaaGreatDoor.Num in
def gussetref02_Times.f (a0_0 : Bool) (a0_1 : ByteArray) (a1_0 : Bool) (a1_1 : ByteArray) : Option (Bool × ByteArray) := if a0_1.size ≤ 4000 ∧ a1_1.size ≤ 4000 then some ((pv (ival a0_0 a0_1 * ival a1_0 a1_1)).1, (pv (ival a0_0 a0_1 * ival a1_0 a1_1)).2) else none
open Go.Proofs.YtoijlbcbbblbfaaGreatDoor Go.Proofs.YtoijlbcbbblbfaaGreatDoor.Num in
theorem gussetref02_Times.calls (a0_0 : Bool) (a0_1 : ByteArray) (a1_0 : Bool) (a1_1 : ByteArray) (r1 : Bool) (r2 : ByteArray) (w : World) (h : gussetref02_Times.f a0_0 a0_1 a1_0 a1_1 = some (r1, r2)) :
    Calls Tryz.prog 24 #[.agg #[.bool a0_0, .string a0_1], .agg #[.bool a1_0, .string a1_1]] w fun e w' => e = .returned (.agg #[.bool r1, .string r2]) ∧ Below w.heap.size w w' := by
  unfold gussetref02_Times.f at h
  split at h
  · rename_i hc
    simp only [Option.some.injEq, Prod.mk.injEq] at h
    obtain ⟨rfl, rfl⟩ := h
    exact times_r _ _ _ _ hc.1 hc.2 w
  · exact absurd h (by simp)


end Go.Proofs.YtoijlbcbbblbfaaGreatDoorH.R

-- printed by hp.py
namespace Go.Proofs.YtoijlbcbbblbfaaGreatDoorH.R
open Go.RowKit Go.Proofs.YtoijlbcbbblbfaaGreatDoorH.Z Go.Proofs.YtoijlbcbbblbfaaGreatDoorW.PrintWords Go.Proofs.YtoijlbcbbblbfaaGreatDoorW.PrintLast Go.Proofs.YtoijlbcbbblbfaaGreatDoorW.PrintMore
attribute [local go_sem] max2_int min2_int max_two min_two max_three min_three max_four min_four   -- for this text's walks alone
set_option linter.unusedVariables false
set_option linter.unusedSimpArgs false

/-! ### gussetref03_Times: function 30 -/
def gussetref03_Times.j0 : Nat → Bool → Bool → ByteArray → ByteArray → Bool → ByteArray → ByteArray → Option (Bool × ByteArray × ByteArray)
  | 0, _, _, _, _, _, _, _ => none
  | k + 1, x12, x413000, x413001, x413002, x414000, x414001, x414002 => if x12 = true then ((gussetref02_Times.f x413000 x413001 x414000 x414001).bind fun bt415 => (some (bt415.1, bt415.2, (⟨#[1]⟩ : ByteArray)))) else ((gussetref02_Times.f x413000 x413001 x414000 x414001).bind fun bt417 => ((gussetref03_den.f x413000 x413001 x413002).bind fun bt419 => ((gussetref03_den.f x414000 x414001 x414002).bind fun bt421 => ((gussetref02_Times.f bt419.1 bt419.2 bt421.1 bt421.2).bind fun bt423 => ((gussetref03_Lowest.f bt417.1 bt417.2 bt423.1 bt423.2).bind fun bt425 => (some (bt425.1, bt425.2.1, bt425.2.2)))))))
def gussetref03_Times.f (k : Nat) (a0_0 : Bool) (a0_1 : ByteArray) (a0_2 : ByteArray) (a1_0 : Bool) (a1_1 : ByteArray) (a1_2 : ByteArray) : Option (Bool × ByteArray × ByteArray) := if a0_2.toList = ([1] : List UInt8) then (gussetref03_Times.j0 k (a1_2.toList == ([1] : List UInt8)) a0_0 a0_1 a0_2 a1_0 a1_1 a1_2) else (gussetref03_Times.j0 k false a0_0 a0_1 a0_2 a1_0 a1_1 a1_2)
def gussetref03_Times.T3 : Bool × List (List Nat × List Nat) := (true, [([], []), ([0], [0]), ([], []), ([2], [2]), ([1, 3], [1, 3]), ([], []), ([5, 4], [5]), ([], []), ([7, 6], [7]), ([6, 8, 8], [6, 8]), ([4, 9, 9], [4, 9]), ([10, 10, 0, 1, 2, 3, 4, 5, 6, 7, 8, 9, 10], [10])])
def gussetref03_Times.B3 : List Nat := [0, 1, 0, 4, 15, 0, 63, 0, 255, 511, 1023, 2047]
theorem gussetref03_Times.tab3 : rtab .any (opsOf Tryz.f30 3) = gussetref03_Times.T3 := by kernel_rfl
theorem gussetref03_Times.bits3 : waitsOk gussetref03_Times.T3.2 gussetref03_Times.B3 = true := by kernel_rfl
set_option maxHeartbeats 8000000 in
set_option maxRecDepth 100000 in
theorem gussetref03_Times.calls (k : Nat) (a0_0 : Bool) (a0_1 : ByteArray) (a0_2 : ByteArray) (a1_0 : Bool) (a1_1 : ByteArray) (a1_2 : ByteArray) (r1 : Bool) (r2 : ByteArray) (r3 : ByteArray) (w : World) (h : gussetref03_Times.f k a0_0 a0_1 a0_2 a1_0 a1_1 a1_2 = some (r1, r2, r3)) :
    Calls Tryz.prog 30 #[.agg #[.bool a0_0, .string a0_1, .string a0_2], .agg #[.bool a1_0, .string a1_1, .string a1_2]] w fun e w' => e = .returned (.agg #[.bool r1, .string r2, .string r3]) ∧ Below w.heap.size w w' := by
  have hu27 := Tryz.underlying27
  have hu24 := Tryz.underlying24; have hf0 := zf240; have hf1 := zf241; have hf2 := zf270; have hf3 := zf271
  have HB := Aside0.mk (Below.refl w.heap.size w)
  have H : (if a0_2.toList = ([1] : List UInt8) then (gussetref03_Times.j0 k (a1_2.toList == ([1] : List UInt8)) a0_0 a0_1 a0_2 a1_0 a1_1 a1_2) else (gussetref03_Times.j0 k false a0_0 a0_1 a0_2 a1_0 a1_1 a1_2)) = some (r1, r2, r3) := h
  clear h
  have HC3 := Aside0.mk H
  clear H
  go_enter Tryz.func30, Tryz.ntmps30
  go_upto_region 1 with (first | ((with_reducible refine gate_dst (N := 2) rfl ?_); refine box_event ?hg (N := 2) ?hd (cs := #[.bool a0_0, .string a0_1, .string a0_2]) (t := 27) ?hr ?_; (case hd => rfl); (case hg => rfl); (case hr => first | (go_simp; done) | (go_simp; rfl)); intro gb412 hg w4 hbox hb; have BK412 := Aside0.mk (hbox); have GW412 := zG hg HB; have GE412 := zG hg HB; replace HB := zS HB hb; clear hb hbox hg) | ((with_reducible refine gate_dst (N := 3) rfl ?_); refine box_event ?hg (N := 3) ?hd (cs := #[.bool a1_0, .string a1_1, .string a1_2]) (t := 27) ?hr ?_; (case hd => rfl); (case hg => rfl); (case hr => first | (go_simp; done) | (go_simp; rfl)); intro gb413 hg w5 hbox hb; have BK413 := Aside0.mk (hbox); have GW413 := zG hg HB; have GE413 := zG hg HB; have NB412_413 := zN hg BK412; have NB413_412 := zM hg BK412; replace BK412 := zB BK412 hb; replace HB := zS HB hb; clear hb hbox hg) | ((with_reducible refine gate_dst (N := 4) rfl ?_); refine box_event ?hg (N := 4) ?hd (cs := #[.bool false, .string (⟨#[]⟩ : ByteArray), .string (⟨#[]⟩ : ByteArray)]) (t := 27) ?hr ?_; (case hd => rfl); (case hg => rfl); (case hr => first | (go_simp; done) | (go_simp; rfl)); intro gb414 hg w6 hbox hb; have BK414 := Aside0.mk (hbox); have GW414 := zG hg HB; have GE414 := zG hg HB; have NB412_414 := zN hg BK412; have NB414_412 := zM hg BK412; have NB413_414 := zN hg BK413; have NB414_413 := zM hg BK413; replace BK412 := zB BK412 hb; replace BK413 := zB BK413 hb; replace HB := zS HB hb; clear hb hbox hg))
  (try simp only [Act.put, List.setIfInBounds_toArray, List.set_cons_zero, List.set_cons_succ])
  go_cut [12] (fun v12 wc => ∃ (kq : Nat) (x12_2 : Bool), v12 = .bool x12_2 ∧ Aside0 (gussetref03_Times.j0 kq x12_2 a0_0 a0_1 a0_2 a1_0 a1_1 a1_2 = some (r1, r2, r3)) ∧ Aside0 (kq ≤ k) ∧ Aside0 (wc.heap[gb412]? = some (.cells #[.bool a0_0, .string a0_1, .string a0_2] 27 (0, 0))) ∧ Aside0 (wc.heap[gb413]? = some (.cells #[.bool a1_0, .string a1_1, .string a1_2] 27 (0, 0))) ∧ Aside0 (wc.heap[gb414]? = some (.cells #[.bool false, .string (⟨#[]⟩ : ByteArray), .string (⟨#[]⟩ : ByteArray)] 27 (0, 0))) ∧ Aside0 (Below w.heap.size w wc))
  case first =>
    have H := HC3.out
    clear HC3
    by_cases c7 : a0_2.toList = ([1] : List UInt8)
    · rw [if_pos c7] at H
      have c7b0 : (a0_2.toList == ([1] : List UInt8)) = true := beq_iff_eq.mpr c7
      have c7b1 : (a0_2.toList != ([1] : List UInt8)) = false := bne_eq_false_iff_eq.mpr c7
      clear c7
      (first | rw [c7b0] | (simp only [i64_w, i32_w]; rw [c7b0]) | skip)
      have H' := Aside0.mk H
      clear H; have hnb8 := NB412_413.out; have hnc8 := NB413_412.out; have hnb9 := NB412_414.out; have hnc9 := NB414_412.out; obtain ⟨hcz10_0, hcz10_1, hcz10_2, hfz10_0, hfz10_1, hfz10_2⟩ := z3 BK412; have hnb11 := NB413_414.out; have hnc11 := NB414_413.out; obtain ⟨hcz12_0, hcz12_1, hcz12_2, hfz12_0, hfz12_1, hfz12_2⟩ := z3 BK413
      go_wp2
      go_meet
      case rel => exact ⟨_, ((a1_2.toList == ([1] : List UInt8))), (by first | rfl | (simp; done) | (simp [zne]; done) | (simp [*]; done)), H', ⟨by first | omega | exact Nat.le_refl _⟩, ⟨by (with_reducible repeat (first | refine blk_drewN ?_ _ | refine blk_drew ?_ | refine blk_alloc ?_ _)); exact BK412.out⟩, ⟨by (with_reducible repeat (first | refine blk_drewN ?_ _ | refine blk_drew ?_ | refine blk_alloc ?_ _)); exact BK413.out⟩, ⟨by (with_reducible repeat (first | refine blk_drewN ?_ _ | refine blk_drew ?_ | refine blk_alloc ?_ _)); exact BK414.out⟩, ⟨zT HB⟩⟩
    · rw [if_neg c7] at H
      have c7b0 : (a0_2.toList == ([1] : List UInt8)) = false := beq_eq_false_iff_ne.mpr c7
      have c7b1 : (a0_2.toList != ([1] : List UInt8)) = true := bne_iff_ne.mpr c7
      (first | rw [c7b0] | (simp only [i64_w, i32_w]; rw [c7b0]) | skip)
      have H' := Aside0.mk H
      clear H; have hnb13 := NB412_413.out; have hnc13 := NB413_412.out; have hnb14 := NB412_414.out; have hnc14 := NB414_412.out; obtain ⟨hcz15_0, hcz15_1, hcz15_2, hfz15_0, hfz15_1, hfz15_2⟩ := z3 BK412
      go_wp2
      go_meet
      case rel => exact ⟨_, (false), (by first | rfl | (simp; done) | (simp [zne]; done) | (simp [*]; done)), H', ⟨by first | omega | exact Nat.le_refl _⟩, ⟨by (with_reducible repeat (first | refine blk_drewN ?_ _ | refine blk_drew ?_ | refine blk_alloc ?_ _)); exact BK412.out⟩, ⟨by (with_reducible repeat (first | refine blk_drewN ?_ _ | refine blk_drew ?_ | refine blk_alloc ?_ _)); exact BK413.out⟩, ⟨by (with_reducible repeat (first | refine blk_drewN ?_ _ | refine blk_drew ?_ | refine blk_alloc ?_ _)); exact BK414.out⟩, ⟨zT HB⟩⟩
  case rest =>
    clear HC3
    try clear c1
    try clear p2
    try clear c3
    try clear c7
    try clear c7b0
    try clear c7b1
    try clear c8
    try clear c9
    try clear c11
    try clear c13
    try clear c14
    try clear hcz10_0
    try clear hcz10_1
    try clear hcz10_2
    try clear hcz12_0
    try clear hcz12_1
    try clear hcz12_2
    try clear hcz15_0
    try clear hcz15_1
    try clear hcz15_2
    try clear hfz10_0
    try clear hfz10_1
    try clear hfz10_2
    try clear hfz12_0
    try clear hfz12_1
    try clear hfz12_2
    try clear hfz15_0
    try clear hfz15_1
    try clear hfz15_2
    obtain ⟨kq, x12_2, rfl, HA, HJ2, BK412, BK413, BK414, HB⟩ := hcut
    cases kq with
    | zero => exact absurd HA.out (by simp [gussetref03_Times.j0])
    | succ kj2 =>
      have H := HA.out
      clear HA
      simp only [gussetref03_Times.j0] at H
      by_cases c16 : x12_2 = true
      · subst c16
        have H1 : ((gussetref02_Times.f a0_0 a0_1 a1_0 a1_1).bind fun bt415 => (some (bt415.1, bt415.2, (⟨#[1]⟩ : ByteArray)))) = some (r1, r2, r3) := by rw [if_pos rfl] at H; exact H
        clear H
        have H := H1
        clear H1
        replace H := Option.bind_eq_some_iff.mp H
        obtain ⟨⟨t415, t416⟩, A170, H⟩ := H
        replace H : (some (t415, t416, (⟨#[1]⟩ : ByteArray))) = some (r1, r2, r3) := H
        have A17 := Aside0.mk A170
        clear A170
        simp only [Option.some.injEq, Prod.mk.injEq] at H
        obtain ⟨rfl, rfl, rfl⟩ := H
        have hnb18 := NB412_413.out; have hnc18 := NB413_412.out; have hnb19 := NB412_414.out; have hnc19 := NB414_412.out; obtain ⟨hcz20_0, hcz20_1, hcz20_2, hfz20_0, hfz20_1, hfz20_2⟩ := z3 BK412; have hnb21 := NB413_414.out; have hnc21 := NB414_413.out; obtain ⟨hcz22_0, hcz22_1, hcz22_2, hfz22_0, hfz22_1, hfz22_2⟩ := z3 BK413
        go_wp2_with (first | ((with_reducible refine gate_callee (f := 24) rfl ?_); refine zC Tryz.func24 (by kernel_rfl) #[.agg #[.bool a0_0, .string a0_1], .agg #[.bool a1_0, .string a1_1]] ?_; (with_reducible refine (gussetref02_Times.calls a0_0 a0_1 a1_0 a1_1 t415 t416 _ A17.out).mono ?_); rintro e w23 ⟨rfl, hb⟩; refine ⟨_, rfl, ?_⟩; replace BK412 := zB BK412 hb; replace BK413 := zB BK413 hb; replace BK414 := zB BK414 hb; replace HB := zS HB hb; (try clear hb); obtain ⟨hcz24_0, hcz24_1, hcz24_2, hfz24_0, hfz24_1, hfz24_2⟩ := z3 BK414))
        refine bodyPost_ret (results_cell_row rfl _ _ gb414 27 #[.bool t415, .string t416, .string (⟨#[1]⟩ : ByteArray)] (0, 0) _ rfl (by (with_reducible repeat (first | refine blk_drewN ?_ _ | refine blk_drew ?_ | refine blk_alloc ?_ _)); refine zP (cs := #[.bool t415, .string t416, .string (⟨#[]⟩ : ByteArray)]) ?_ 2 _; (with_reducible repeat (first | refine blk_drewN ?_ _ | refine blk_drew ?_ | refine blk_alloc ?_ _)); refine zP (cs := #[.bool t415, .string (⟨#[]⟩ : ByteArray), .string (⟨#[]⟩ : ByteArray)]) ?_ 1 _; (with_reducible repeat (first | refine blk_drewN ?_ _ | refine blk_drew ?_ | refine blk_alloc ?_ _)); refine zP (cs := #[.bool false, .string (⟨#[]⟩ : ByteArray), .string (⟨#[]⟩ : ByteArray)]) ?_ 0 _; (with_reducible repeat (first | refine blk_drewN ?_ _ | refine blk_drew ?_ | refine blk_alloc ?_ _)); exact BK414.out) Tryz.underlying27 rfl (by kernel_rfl)) rfl ?_
        exact ⟨by first | rfl | (simp [errW_none, errW_some] <;> rfl) | (simp [*, errW_none, errW_some] <;> rfl), zT HB⟩
      · replace c16 := Bool.eq_false_iff.mpr c16
        subst c16
        have H1 : ((gussetref02_Times.f a0_0 a0_1 a1_0 a1_1).bind fun bt417 => ((gussetref03_den.f a0_0 a0_1 a0_2).bind fun bt419 => ((gussetref03_den.f a1_0 a1_1 a1_2).bind fun bt421 => ((gussetref02_Times.f bt419.1 bt419.2 bt421.1 bt421.2).bind fun bt423 => ((gussetref03_Lowest.f bt417.1 bt417.2 bt423.1 bt423.2).bind fun bt425 => (some (bt425.1, bt425.2.1, bt425.2.2))))))) = some (r1, r2, r3) := by rw [if_neg (show ¬ (false = true) by decide)] at H; exact H
        clear H
        have H := H1
        clear H1
        replace H := Option.bind_eq_some_iff.mp H
        obtain ⟨⟨t417, t418⟩, A250, H⟩ := H
        replace H : ((gussetref03_den.f a0_0 a0_1 a0_2).bind fun bt419 => ((gussetref03_den.f a1_0 a1_1 a1_2).bind fun bt421 => ((gussetref02_Times.f bt419.1 bt419.2 bt421.1 bt421.2).bind fun bt423 => ((gussetref03_Lowest.f t417 t418 bt423.1 bt423.2).bind fun bt425 => (some (bt425.1, bt425.2.1, bt425.2.2)))))) = some (r1, r2, r3) := H
        have A25 := Aside0.mk A250
        clear A250
        replace H := Option.bind_eq_some_iff.mp H
        obtain ⟨⟨t419, t420⟩, A260, H⟩ := H
        replace H : ((gussetref03_den.f a1_0 a1_1 a1_2).bind fun bt421 => ((gussetref02_Times.f t419 t420 bt421.1 bt421.2).bind fun bt423 => ((gussetref03_Lowest.f t417 t418 bt423.1 bt423.2).bind fun bt425 => (some (bt425.1, bt425.2.1, bt425.2.2))))) = some (r1, r2, r3) := H
        have A26 := Aside0.mk A260
        clear A260
        replace H := Option.bind_eq_some_iff.mp H
        obtain ⟨⟨t421, t422⟩, A270, H⟩ := H
        replace H : ((gussetref02_Times.f t419 t420 t421 t422).bind fun bt423 => ((gussetref03_Lowest.f t417 t418 bt423.1 bt423.2).bind fun bt425 => (some (bt425.1, bt425.2.1, bt425.2.2)))) = some (r1, r2, r3) := H
        have A27 := Aside0.mk A270
        clear A270
        replace H := Option.bind_eq_some_iff.mp H
        obtain ⟨⟨t423, t424⟩, A280, H⟩ := H
        replace H : ((gussetref03_Lowest.f t417 t418 t423 t424).bind fun bt425 => (some (bt425.1, bt425.2.1, bt425.2.2))) = some (r1, r2, r3) := H
        have A28 := Aside0.mk A280
        clear A280
        replace H := Option.bind_eq_some_iff.mp H
        obtain ⟨⟨t425, t426, t427⟩, A290, H⟩ := H
        replace H : (some (t425, t426, t427)) = some (r1, r2, r3) := H
        have A29 := Aside0.mk A290
        clear A290
        simp only [Option.some.injEq, Prod.mk.injEq] at H
        obtain ⟨rfl, rfl, rfl⟩ := H
        try go_wp2
        replace BK412 := zD BK412; replace BK413 := zD BK413; replace BK414 := zD BK414; replace HB := zF HB
        refine start_ (n := 12) (S := fun w' => w'.cell? ⟨gb412, 0, none⟩ = some (.bool a0_0) ∧ w'.cell? ⟨gb412, 1, none⟩ = some (.string a0_1) ∧ w'.cell? ⟨gb412, 2, none⟩ = some (.string a0_2) ∧ w'.cell? ⟨gb413, 0, none⟩ = some (.bool a1_0) ∧ w'.cell? ⟨gb413, 1, none⟩ = some (.string a1_1) ∧ w'.cell? ⟨gb413, 2, none⟩ = some (.string a1_2)) (ds := []) #[false, false, false, false, false, false, false, false, false, false, false, false] (by kernel_rfl) rfl rfl ⟨(blk_cell BK412.out 0).trans rfl, (blk_cell BK412.out 1).trans rfl, (blk_cell BK412.out 2).trans rfl, (blk_cell BK413.out 0).trans rfl, (blk_cell BK413.out 1).trans rfl, (blk_cell BK413.out 2).trans rfl⟩ (fun hHeld => ?_); refine with_tabW gussetref03_Times.tab3 gussetref03_Times.bits3 (fun HT_ HW_ => ?_)
        generalize wc.drew = w30 at BK412 BK413 BK414 HB hHeld ⊢
        refine zU (i := 0) (N := some 19) #[true, false, false, false, false, false, false, false, false, false, false, false] (any_of HT_.out (by kernel_rfl)) ?_
        refine zU (i := 2) (N := some 21) #[true, false, true, false, false, false, false, false, false, false, false, false] (any_of HT_.out (by kernel_rfl)) ?_
        refine zV (i := 1) (N := some 20) #[true, true, true, false, false, false, false, false, false, false, false, false] (take_ofW HT_.out HW_.out (by kernel_rfl)) hHeld ?_
        refine zV (i := 3) (N := some 22) #[true, true, true, true, false, false, false, false, false, false, false, false] (take_ofW HT_.out HW_.out (by kernel_rfl)) hHeld ?_
        refine zV (i := 5) (N := some 24) #[true, true, true, true, false, true, false, false, false, false, false, false] (take_ofW HT_.out HW_.out (by kernel_rfl)) hHeld ?_
        refine zV (i := 7) (N := some 26) #[true, true, true, true, false, true, false, true, false, false, false, false] (take_ofW HT_.out HW_.out (by kernel_rfl)) hHeld ?_
        refine one_ (i := 4) (N := some 23) #[true, true, true, true, true, true, false, true, false, false, false, false] rfl rfl (one_of HT_.out (by kernel_rfl)) (by decide) (fun K hK => ?_)
        refine zX Tryz.func24 (by kernel_rfl) #[.agg #[.bool a0_0, .string a0_1], .agg #[.bool a1_0, .string a1_1]] ?_
        with_reducible refine (gussetref02_Times.calls a0_0 a0_1 a1_0 a1_1 t417 t418 _ A25.out).mono ?_
        rintro e w31 ⟨rfl, hb⟩; refine ⟨_, rfl, ?_⟩
        replace BK412 := zB BK412 hb; replace BK413 := zB BK413 hb; replace BK414 := zB BK414 hb; replace HB := zS HB hb
        (try clear hb)
        refine hK.out _ _ ⟨(blk_cell BK412.out 0).trans rfl, (blk_cell BK412.out 1).trans rfl, (blk_cell BK412.out 2).trans rfl, (blk_cell BK413.out 0).trans rfl, (blk_cell BK413.out 1).trans rfl, (blk_cell BK413.out 2).trans rfl⟩ (fun hHeld => ?_)
        clear hK K
        refine zW (some 23) ?_
        refine one_ (i := 6) (N := some 25) #[true, true, true, true, true, true, true, true, false, false, false, false] rfl rfl (one_of HT_.out (by kernel_rfl)) (by decide) (fun K hK => ?_)
        refine zX Tryz.func56 (by kernel_rfl) #[.agg #[.bool a0_0, .string a0_1, .string a0_2]] ?_
        with_reducible refine (gussetref03_den.calls a0_0 a0_1 a0_2 t419 t420 _ A26.out).mono ?_
        rintro e w32 ⟨rfl, hb⟩; refine ⟨_, rfl, ?_⟩
        replace BK412 := zB BK412 hb; replace BK413 := zB BK413 hb; replace BK414 := zB BK414 hb; replace HB := zS HB hb
        (try clear hb)
        refine hK.out _ _ ⟨(blk_cell BK412.out 0).trans rfl, (blk_cell BK412.out 1).trans rfl, (blk_cell BK412.out 2).trans rfl, (blk_cell BK413.out 0).trans rfl, (blk_cell BK413.out 1).trans rfl, (blk_cell BK413.out 2).trans rfl⟩ (fun hHeld => ?_)
        clear hK K
        refine zW (some 25) ?_
        refine one_ (i := 8) (N := some 27) #[true, true, true, true, true, true, true, true, true, false, false, false] rfl rfl (one_of HT_.out (by kernel_rfl)) (by decide) (fun K hK => ?_)
        refine zX Tryz.func56 (by kernel_rfl) #[.agg #[.bool a1_0, .string a1_1, .string a1_2]] ?_
        with_reducible refine (gussetref03_den.calls a1_0 a1_1 a1_2 t421 t422 _ A27.out).mono ?_
        rintro e w33 ⟨rfl, hb⟩; refine ⟨_, rfl, ?_⟩
        replace BK412 := zB BK412 hb; replace BK413 := zB BK413 hb; replace BK414 := zB BK414 hb; replace HB := zS HB hb
        (try clear hb)
        refine hK.out _ _ ⟨(blk_cell BK412.out 0).trans rfl, (blk_cell BK412.out 1).trans rfl, (blk_cell BK412.out 2).trans rfl, (blk_cell BK413.out 0).trans rfl, (blk_cell BK413.out 1).trans rfl, (blk_cell BK413.out 2).trans rfl⟩ (fun hHeld => ?_)
        clear hK K
        refine zW (some 27) ?_
        refine one_ (i := 9) (N := some 28) #[true, true, true, true, true, true, true, true, true, true, false, false] rfl rfl (one_of HT_.out (by kernel_rfl)) (by decide) (fun K hK => ?_)
        refine zX Tryz.func24 (by kernel_rfl) #[.agg #[.bool t419, .string t420], .agg #[.bool t421, .string t422]] ?_
        with_reducible refine (gussetref02_Times.calls t419 t420 t421 t422 t423 t424 _ A28.out).mono ?_
        rintro e w34 ⟨rfl, hb⟩; refine ⟨_, rfl, ?_⟩
        replace BK412 := zB BK412 hb; replace BK413 := zB BK413 hb; replace BK414 := zB BK414 hb; replace HB := zS HB hb
        (try clear hb)
        refine hK.out _ _ ⟨(blk_cell BK412.out 0).trans rfl, (blk_cell BK412.out 1).trans rfl, (blk_cell BK412.out 2).trans rfl, (blk_cell BK413.out 0).trans rfl, (blk_cell BK413.out 1).trans rfl, (blk_cell BK413.out 2).trans rfl⟩ (fun hHeld => ?_)
        clear hK K
        refine zW (some 28) ?_
        refine one_ (i := 10) (N := some 29) #[true, true, true, true, true, true, true, true, true, true, true, false] rfl rfl (one_of HT_.out (by kernel_rfl)) (by decide) (fun K hK => ?_)
        refine zX Tryz.func16 (by kernel_rfl) #[.agg #[.bool t417, .string t418], .agg #[.bool t423, .string t424]] ?_
        with_reducible refine (gussetref03_Lowest.calls t417 t418 t423 t424 t425 t426 t427 _ A29.out).mono ?_
        rintro e w35 ⟨rfl, hb⟩; refine ⟨_, rfl, ?_⟩
        replace BK412 := zB BK412 hb; replace BK413 := zB BK413 hb; replace BK414 := zB BK414 hb; replace HB := zS HB hb
        (try clear hb)
        refine hK.out _ _ ⟨(blk_cell BK412.out 0).trans rfl, (blk_cell BK412.out 1).trans rfl, (blk_cell BK412.out 2).trans rfl, (blk_cell BK413.out 0).trans rfl, (blk_cell BK413.out 1).trans rfl, (blk_cell BK413.out 2).trans rfl⟩ (fun hHeld => ?_)
        clear hK K
        refine zW (some 29) ?_
        refine one_ (i := 11) (N := none) #[true, true, true, true, true, true, true, true, true, true, true, true] rfl rfl (one_of HT_.out (by kernel_rfl)) (by decide) (fun K hK => ?_)
        have hs36 : w35.cell? ⟨gb414, 0, none⟩ = some (.bool false) := (blk_cell BK414.out 0).trans rfl
        have hfs36 := blk_frozen BK414.out 0
        have hns36_0 := NB412_414.out
        have hns36_1 := NB413_414.out
        have hms36_0 := NB414_412.out
        have hms36_1 := NB414_413.out
        have hs37 : w35.cell? ⟨gb414, 1, none⟩ = some (.string (⟨#[]⟩ : ByteArray)) := (blk_cell BK414.out 1).trans rfl
        have hfs37 := blk_frozen BK414.out 1
        have hns37_0 := NB412_414.out
        have hns37_1 := NB413_414.out
        have hms37_0 := NB414_412.out
        have hms37_1 := NB414_413.out
        have hs38 : w35.cell? ⟨gb414, 2, none⟩ = some (.string (⟨#[]⟩ : ByteArray)) := (blk_cell BK414.out 2).trans rfl
        have hfs38 := blk_frozen BK414.out 2
        have hns38_0 := NB412_414.out
        have hns38_1 := NB413_414.out
        have hms38_0 := NB414_412.out
        have hms38_1 := NB414_413.out
        refine skip_ (w1 := ?_) (by rfl) rfl ?_ ?_
        rotate_left
        · go_simp
          rfl
        refine hK.out _ _ ⟨((cell_far (p := ⟨gb414, _, none⟩) NB412_414.out _).trans (((cell_far (p := ⟨gb414, _, none⟩) NB412_414.out _).trans (((cell_far (p := ⟨gb414, _, none⟩) NB412_414.out _).trans (hHeld.1)))))), ((cell_far (p := ⟨gb414, _, none⟩) NB412_414.out _).trans (((cell_far (p := ⟨gb414, _, none⟩) NB412_414.out _).trans (((cell_far (p := ⟨gb414, _, none⟩) NB412_414.out _).trans (hHeld.2.1)))))), ((cell_far (p := ⟨gb414, _, none⟩) NB412_414.out _).trans (((cell_far (p := ⟨gb414, _, none⟩) NB412_414.out _).trans (((cell_far (p := ⟨gb414, _, none⟩) NB412_414.out _).trans (hHeld.2.2.1)))))), ((cell_far (p := ⟨gb414, _, none⟩) NB413_414.out _).trans (((cell_far (p := ⟨gb414, _, none⟩) NB413_414.out _).trans (((cell_far (p := ⟨gb414, _, none⟩) NB413_414.out _).trans (hHeld.2.2.2.1)))))), ((cell_far (p := ⟨gb414, _, none⟩) NB413_414.out _).trans (((cell_far (p := ⟨gb414, _, none⟩) NB413_414.out _).trans (((cell_far (p := ⟨gb414, _, none⟩) NB413_414.out _).trans (hHeld.2.2.2.2.1)))))), ((cell_far (p := ⟨gb414, _, none⟩) NB413_414.out _).trans (((cell_far (p := ⟨gb414, _, none⟩) NB413_414.out _).trans (((cell_far (p := ⟨gb414, _, none⟩) NB413_414.out _).trans (hHeld.2.2.2.2.2))))))⟩ (fun hHeld => ?_)
        clear hK K
        refine done_ (done_of HT_.out (by kernel_rfl)) ?_
        try go_wp2
        refine bodyPost_ret (results_cell_row rfl _ _ gb414 27 #[.bool t425, .string t426, .string t427] (0, 0) _ rfl (by (with_reducible repeat (first | refine blk_drewN ?_ _ | refine blk_drew ?_ | refine blk_alloc ?_ _)); refine zP (cs := #[.bool t425, .string t426, .string (⟨#[]⟩ : ByteArray)]) ?_ 2 _; (with_reducible repeat (first | refine blk_drewN ?_ _ | refine blk_drew ?_ | refine blk_alloc ?_ _)); refine zP (cs := #[.bool t425, .string (⟨#[]⟩ : ByteArray), .string (⟨#[]⟩ : ByteArray)]) ?_ 1 _; (with_reducible repeat (first | refine blk_drewN ?_ _ | refine blk_drew ?_ | refine blk_alloc ?_ _)); refine zP (cs := #[.bool false, .string (⟨#[]⟩ : ByteArray), .string (⟨#[]⟩ : ByteArray)]) ?_ 0 _; (with_reducible repeat (first | refine blk_drewN ?_ _ | refine blk_drew ?_ | refine blk_alloc ?_ _)); exact BK414.out) Tryz.underlying27 rfl (by kernel_rfl)) rfl ?_
        exact ⟨by first | rfl | (simp [errW_none, errW_some] <;> rfl) | (simp [*, errW_none, errW_some] <;> rfl), zT HB⟩

end Go.Proofs.YtoijlbcbbblbfaaGreatDoorH.R

-- printed by hp.py
namespace Go.Proofs.YtoijlbcbbblbfaaGreatDoorH.R
open Go.RowKit Go.Proofs.YtoijlbcbbblbfaaGreatDoorH.Z Go.Proofs.YtoijlbcbbblbfaaGreatDoorW.PrintWords Go.Proofs.YtoijlbcbbblbfaaGreatDoorW.PrintLast Go.Proofs.YtoijlbcbbblbfaaGreatDoorW.PrintMore
attribute [local go_sem] max2_int min2_int max_two min_two max_three min_three max_four min_four   -- for this text's walks alone
set_option linter.unusedVariables false
set_option linter.unusedSimpArgs false

/-! ### gussetref03_Sign: function 31 -/
def gussetref03_Sign.f (a0_0 : Bool) (a0_1 : ByteArray) (a0_2 : ByteArray) : Option (Int) := if a0_0 = true then (some (-1)) else (if a0_1.toList = ([] : List UInt8) then (some 0) else (some 1))
set_option maxHeartbeats 8000000 in
set_option maxRecDepth 100000 in
theorem gussetref03_Sign.calls (a0_0 : Bool) (a0_1 : ByteArray) (a0_2 : ByteArray) (r : Int) (w : World) (h : gussetref03_Sign.f a0_0 a0_1 a0_2 = some r) :
    Calls Tryz.prog 31 #[.agg #[.bool a0_0, .string a0_1, .string a0_2]] w fun e w' => e = .returned (.int .i64 r) ∧ Below w.heap.size w w' := by
  have hu27 := Tryz.underlying27
  have HB := Aside0.mk (Below.refl w.heap.size w)
  have H : (if a0_0 = true then (some (-1)) else (if a0_1.toList = ([] : List UInt8) then (some 0) else (some 1))) = some r := h
  clear h
  by_cases c2 : a0_0 = true
  · subst c2
    have H1 : (some (-1)) = some r := by rw [if_pos rfl] at H; exact H
    clear H
    have H := H1
    clear H1
    obtain rfl := Option.some.inj H
    go_enter Tryz.func31, Tryz.ntmps31
    go_wp2_with (first | ((with_reducible refine gate_dst (N := 1) rfl ?_); refine box_event ?hg (N := 1) ?hd (cs := #[.bool true, .string a0_1, .string a0_2]) (t := 27) ?hr ?_; (case hd => rfl); (case hg => rfl); (case hr => first | (go_simp; done) | (go_simp; rfl)); intro gb428 hg w3 hbox hb; have BK428 := Aside0.mk (hbox); have GW428 := zG hg HB; have GE428 := zG hg HB; replace HB := zS HB hb; clear hb hbox hg; obtain ⟨hcz4_0, hcz4_1, hcz4_2, hfz4_0, hfz4_1, hfz4_2⟩ := z3 BK428))
    go_ret
    exact ⟨by first | rfl | (simp [errW_none, errW_some] <;> rfl) | (simp [*, errW_none, errW_some] <;> rfl), zT HB⟩
  · replace c2 := Bool.eq_false_iff.mpr c2
    subst c2
    have H1 : (if a0_1.toList = ([] : List UInt8) then (some 0) else (some 1)) = some r := by rw [if_neg (show ¬ (false = true) by decide)] at H; exact H
    clear H
    have H := H1
    clear H1
    by_cases c5 : a0_1.toList = ([] : List UInt8)
    · rw [if_pos c5] at H
      have c5b0 : (a0_1.toList == ([] : List UInt8)) = true := beq_iff_eq.mpr c5
      have c5b1 : (a0_1.toList != ([] : List UInt8)) = false := bne_eq_false_iff_eq.mpr c5
      clear c5
      obtain rfl := Option.some.inj H
      go_enter Tryz.func31, Tryz.ntmps31
      go_wp2_with (first | ((with_reducible refine gate_dst (N := 1) rfl ?_); refine box_event ?hg (N := 1) ?hd (cs := #[.bool false, .string a0_1, .string a0_2]) (t := 27) ?hr ?_; (case hd => rfl); (case hg => rfl); (case hr => first | (go_simp; done) | (go_simp; rfl)); intro gb428 hg w6 hbox hb; have BK428 := Aside0.mk (hbox); have GW428 := zG hg HB; have GE428 := zG hg HB; replace HB := zS HB hb; clear hb hbox hg; obtain ⟨hcz7_0, hcz7_1, hcz7_2, hfz7_0, hfz7_1, hfz7_2⟩ := z3 BK428))
      go_ret
      exact ⟨by first | rfl | (simp [errW_none, errW_some] <;> rfl) | (simp [*, errW_none, errW_some] <;> rfl), zT HB⟩
    · rw [if_neg c5] at H
      have c5b0 : (a0_1.toList == ([] : List UInt8)) = false := beq_eq_false_iff_ne.mpr c5
      have c5b1 : (a0_1.toList != ([] : List UInt8)) = true := bne_iff_ne.mpr c5
      obtain rfl := Option.some.inj H
      go_enter Tryz.func31, Tryz.ntmps31
      go_wp2_with (first | ((with_reducible refine gate_dst (N := 1) rfl ?_); refine box_event ?hg (N := 1) ?hd (cs := #[.bool false, .string a0_1, .string a0_2]) (t := 27) ?hr ?_; (case hd => rfl); (case hg => rfl); (case hr => first | (go_simp; done) | (go_simp; rfl)); intro gb428 hg w8 hbox hb; have BK428 := Aside0.mk (hbox); have GW428 := zG hg HB; have GE428 := zG hg HB; replace HB := zS HB hb; clear hb hbox hg; obtain ⟨hcz9_0, hcz9_1, hcz9_2, hfz9_0, hfz9_1, hfz9_2⟩ := z3 BK428))
      go_ret
      exact ⟨by first | rfl | (simp [errW_none, errW_some] <;> rfl) | (simp [*, errW_none, errW_some] <;> rfl), zT HB⟩

end Go.Proofs.YtoijlbcbbblbfaaGreatDoorH.R

-- printed by hp.py
namespace Go.Proofs.YtoijlbcbbblbfaaGreatDoorH.R
open Go.RowKit Go.Proofs.YtoijlbcbbblbfaaGreatDoorH.Z Go.Proofs.YtoijlbcbbblbfaaGreatDoorW.PrintWords Go.Proofs.YtoijlbcbbblbfaaGreatDoorW.PrintLast Go.Proofs.YtoijlbcbbblbfaaGreatDoorW.PrintMore
attribute [local go_sem] max2_int min2_int max_two min_two max_three min_three max_four min_four   -- for this text's walks alone
set_option linter.unusedVariables false
set_option linter.unusedSimpArgs false

/-! ### gussetref03_Over: function 32 -/
def gussetref03_Over.f (a0_0 : Bool) (a0_1 : ByteArray) (a0_2 : ByteArray) (a1_0 : Bool) (a1_1 : ByteArray) (a1_2 : ByteArray) : Option (Bool × ByteArray × ByteArray) := (gussetref03_den.f a1_0 a1_1 a1_2).bind fun bt432 => ((gussetref02_Times.f a0_0 a0_1 bt432.1 bt432.2).bind fun bt434 => ((gussetref03_den.f a0_0 a0_1 a0_2).bind fun bt436 => ((gussetref02_Times.f bt436.1 bt436.2 a1_0 a1_1).bind fun bt438 => ((gussetref03_Lowest.f bt434.1 bt434.2 bt438.1 bt438.2).bind fun bt440 => (some (bt440.1, bt440.2.1, bt440.2.2))))))
def gussetref03_Over.T1 : Bool × List (List Nat × List Nat) := (true, [([], []), ([0], [0]), ([], []), ([2], [2]), ([1, 3, 3], [1, 3]), ([], []), ([5, 4], [5]), ([], []), ([7], [7]), ([6, 8, 6], [6, 8]), ([4, 9, 9], [4, 9]), ([10, 10, 0, 1, 2, 3, 4, 5, 6, 7, 8, 9, 10], [10])])
def gussetref03_Over.B1 : List Nat := [0, 1, 0, 4, 15, 0, 63, 0, 128, 511, 1023, 2047]
theorem gussetref03_Over.tab1 : rtab .any (opsOf Tryz.f32 1) = gussetref03_Over.T1 := by kernel_rfl
theorem gussetref03_Over.bits1 : waitsOk gussetref03_Over.T1.2 gussetref03_Over.B1 = true := by kernel_rfl
set_option maxHeartbeats 8000000 in
set_option maxRecDepth 100000 in
theorem gussetref03_Over.calls (a0_0 : Bool) (a0_1 : ByteArray) (a0_2 : ByteArray) (a1_0 : Bool) (a1_1 : ByteArray) (a1_2 : ByteArray) (r1 : Bool) (r2 : ByteArray) (r3 : ByteArray) (w : World) (h : gussetref03_Over.f a0_0 a0_1 a0_2 a1_0 a1_1 a1_2 = some (r1, r2, r3)) :
    Calls Tryz.prog 32 #[.agg #[.bool a0_0, .string a0_1, .string a0_2], .agg #[.bool a1_0, .string a1_1, .string a1_2]] w fun e w' => e = .returned (.agg #[.bool r1, .string r2, .string r3]) ∧ Below w.heap.size w w' := by
  have hu27 := Tryz.underlying27
  have hu24 := Tryz.underlying24; have hf0 := zf240; have hf1 := zf241; have hf2 := zf270; have hf3 := zf271
  have HB := Aside0.mk (Below.refl w.heap.size w)
  have H : ((gussetref03_den.f a1_0 a1_1 a1_2).bind fun bt432 => ((gussetref02_Times.f a0_0 a0_1 bt432.1 bt432.2).bind fun bt434 => ((gussetref03_den.f a0_0 a0_1 a0_2).bind fun bt436 => ((gussetref02_Times.f bt436.1 bt436.2 a1_0 a1_1).bind fun bt438 => ((gussetref03_Lowest.f bt434.1 bt434.2 bt438.1 bt438.2).bind fun bt440 => (some (bt440.1, bt440.2.1, bt440.2.2))))))) = some (r1, r2, r3) := h
  clear h
  replace H := Option.bind_eq_some_iff.mp H
  obtain ⟨⟨t432, t433⟩, A30, H⟩ := H
  replace H : ((gussetref02_Times.f a0_0 a0_1 t432 t433).bind fun bt434 => ((gussetref03_den.f a0_0 a0_1 a0_2).bind fun bt436 => ((gussetref02_Times.f bt436.1 bt436.2 a1_0 a1_1).bind fun bt438 => ((gussetref03_Lowest.f bt434.1 bt434.2 bt438.1 bt438.2).bind fun bt440 => (some (bt440.1, bt440.2.1, bt440.2.2)))))) = some (r1, r2, r3) := H
  have A3 := Aside0.mk A30
  clear A30
  replace H := Option.bind_eq_some_iff.mp H
  obtain ⟨⟨t434, t435⟩, A40, H⟩ := H
  replace H : ((gussetref03_den.f a0_0 a0_1 a0_2).bind fun bt436 => ((gussetref02_Times.f bt436.1 bt436.2 a1_0 a1_1).bind fun bt438 => ((gussetref03_Lowest.f t434 t435 bt438.1 bt438.2).bind fun bt440 => (some (bt440.1, bt440.2.1, bt440.2.2))))) = some (r1, r2, r3) := H
  have A4 := Aside0.mk A40
  clear A40
  replace H := Option.bind_eq_some_iff.mp H
  obtain ⟨⟨t436, t437⟩, A50, H⟩ := H
  replace H : ((gussetref02_Times.f t436 t437 a1_0 a1_1).bind fun bt438 => ((gussetref03_Lowest.f t434 t435 bt438.1 bt438.2).bind fun bt440 => (some (bt440.1, bt440.2.1, bt440.2.2)))) = some (r1, r2, r3) := H
  have A5 := Aside0.mk A50
  clear A50
  replace H := Option.bind_eq_some_iff.mp H
  obtain ⟨⟨t438, t439⟩, A60, H⟩ := H
  replace H : ((gussetref03_Lowest.f t434 t435 t438 t439).bind fun bt440 => (some (bt440.1, bt440.2.1, bt440.2.2))) = some (r1, r2, r3) := H
  have A6 := Aside0.mk A60
  clear A60
  replace H := Option.bind_eq_some_iff.mp H
  obtain ⟨⟨t440, t441, t442⟩, A70, H⟩ := H
  replace H : (some (t440, t441, t442)) = some (r1, r2, r3) := H
  have A7 := Aside0.mk A70
  clear A70
  simp only [Option.some.injEq, Prod.mk.injEq] at H
  obtain ⟨rfl, rfl, rfl⟩ := H
  go_enter Tryz.func32, Tryz.ntmps32
  try go_wp2_with (first | ((with_reducible refine gate_dst (N := 2) rfl ?_); refine box_event ?hg (N := 2) ?hd (cs := #[.bool a0_0, .string a0_1, .string a0_2]) (t := 27) ?hr ?_; (case hd => rfl); (case hg => rfl); (case hr => first | (go_simp; done) | (go_simp; rfl)); intro gb429 hg w8 hbox hb; have BK429 := Aside0.mk (hbox); have GW429 := zG hg HB; have GE429 := zG hg HB; replace HB := zS HB hb; clear hb hbox hg) | ((with_reducible refine gate_dst (N := 3) rfl ?_); refine box_event ?hg (N := 3) ?hd (cs := #[.bool a1_0, .string a1_1, .string a1_2]) (t := 27) ?hr ?_; (case hd => rfl); (case hg => rfl); (case hr => first | (go_simp; done) | (go_simp; rfl)); intro gb430 hg w9 hbox hb; have BK430 := Aside0.mk (hbox); have GW430 := zG hg HB; have GE430 := zG hg HB; have NB429_430 := zN hg BK429; have NB430_429 := zM hg BK429; replace BK429 := zB BK429 hb; replace HB := zS HB hb; clear hb hbox hg) | ((with_reducible refine gate_dst (N := 4) rfl ?_); refine box_event ?hg (N := 4) ?hd (cs := #[.bool false, .string (⟨#[]⟩ : ByteArray), .string (⟨#[]⟩ : ByteArray)]) (t := 27) ?hr ?_; (case hd => rfl); (case hg => rfl); (case hr => first | (go_simp; done) | (go_simp; rfl)); intro gb431 hg w10 hbox hb; have BK431 := Aside0.mk (hbox); have GW431 := zG hg HB; have GE431 := zG hg HB; have NB429_431 := zN hg BK429; have NB431_429 := zM hg BK429; have NB430_431 := zN hg BK430; have NB431_430 := zM hg BK430; replace BK429 := zB BK429 hb; replace BK430 := zB BK430 hb; replace HB := zS HB hb; clear hb hbox hg))
  replace BK429 := zD BK429; replace BK430 := zD BK430; replace BK431 := zD BK431; replace HB := zF HB
  refine start_ (n := 12) (S := fun w' => w'.cell? ⟨gb429, 0, none⟩ = some (.bool a0_0) ∧ w'.cell? ⟨gb429, 1, none⟩ = some (.string a0_1) ∧ w'.cell? ⟨gb429, 2, none⟩ = some (.string a0_2) ∧ w'.cell? ⟨gb430, 0, none⟩ = some (.bool a1_0) ∧ w'.cell? ⟨gb430, 1, none⟩ = some (.string a1_1) ∧ w'.cell? ⟨gb430, 2, none⟩ = some (.string a1_2)) (ds := []) #[false, false, false, false, false, false, false, false, false, false, false, false] (by kernel_rfl) rfl rfl ⟨(blk_cell BK429.out 0).trans rfl, (blk_cell BK429.out 1).trans rfl, (blk_cell BK429.out 2).trans rfl, (blk_cell BK430.out 0).trans rfl, (blk_cell BK430.out 1).trans rfl, (blk_cell BK430.out 2).trans rfl⟩ (fun hHeld => ?_); refine with_tabW gussetref03_Over.tab1 gussetref03_Over.bits1 (fun HT_ HW_ => ?_)
  generalize w10.drew = w11 at BK429 BK430 BK431 HB hHeld ⊢
  refine zU (i := 0) (N := some 5) #[true, false, false, false, false, false, false, false, false, false, false, false] (any_of HT_.out (by kernel_rfl)) ?_
  refine zU (i := 7) (N := some 12) #[true, false, false, false, false, false, false, true, false, false, false, false] (any_of HT_.out (by kernel_rfl)) ?_
  refine zV (i := 1) (N := some 6) #[true, true, false, false, false, false, false, true, false, false, false, false] (take_ofW HT_.out HW_.out (by kernel_rfl)) hHeld ?_
  refine zV (i := 2) (N := some 7) #[true, true, true, false, false, false, false, true, false, false, false, false] (take_ofW HT_.out HW_.out (by kernel_rfl)) hHeld ?_
  refine zV (i := 5) (N := some 10) #[true, true, true, false, false, true, false, true, false, false, false, false] (take_ofW HT_.out HW_.out (by kernel_rfl)) hHeld ?_
  refine zV (i := 8) (N := some 13) #[true, true, true, false, false, true, false, true, true, false, false, false] (take_ofW HT_.out HW_.out (by kernel_rfl)) hHeld ?_
  refine one_ (i := 3) (N := some 8) #[true, true, true, true, false, true, false, true, true, false, false, false] rfl rfl (one_of HT_.out (by kernel_rfl)) (by decide) (fun K hK => ?_)
  refine zX Tryz.func56 (by kernel_rfl) #[.agg #[.bool a1_0, .string a1_1, .string a1_2]] ?_
  with_reducible refine (gussetref03_den.calls a1_0 a1_1 a1_2 t432 t433 _ A3.out).mono ?_
  rintro e w12 ⟨rfl, hb⟩; refine ⟨_, rfl, ?_⟩
  replace BK429 := zB BK429 hb; replace BK430 := zB BK430 hb; replace BK431 := zB BK431 hb; replace HB := zS HB hb
  (try clear hb)
  refine hK.out _ _ ⟨(blk_cell BK429.out 0).trans rfl, (blk_cell BK429.out 1).trans rfl, (blk_cell BK429.out 2).trans rfl, (blk_cell BK430.out 0).trans rfl, (blk_cell BK430.out 1).trans rfl, (blk_cell BK430.out 2).trans rfl⟩ (fun hHeld => ?_)
  clear hK K
  refine zW (some 8) ?_
  refine one_ (i := 4) (N := some 9) #[true, true, true, true, true, true, false, true, true, false, false, false] rfl rfl (one_of HT_.out (by kernel_rfl)) (by decide) (fun K hK => ?_)
  refine zX Tryz.func24 (by kernel_rfl) #[.agg #[.bool a0_0, .string a0_1], .agg #[.bool t432, .string t433]] ?_
  with_reducible refine (gussetref02_Times.calls a0_0 a0_1 t432 t433 t434 t435 _ A4.out).mono ?_
  rintro e w13 ⟨rfl, hb⟩; refine ⟨_, rfl, ?_⟩
  replace BK429 := zB BK429 hb; replace BK430 := zB BK430 hb; replace BK431 := zB BK431 hb; replace HB := zS HB hb
  (try clear hb)
  refine hK.out _ _ ⟨(blk_cell BK429.out 0).trans rfl, (blk_cell BK429.out 1).trans rfl, (blk_cell BK429.out 2).trans rfl, (blk_cell BK430.out 0).trans rfl, (blk_cell BK430.out 1).trans rfl, (blk_cell BK430.out 2).trans rfl⟩ (fun hHeld => ?_)
  clear hK K
  refine zW (some 9) ?_
  refine one_ (i := 6) (N := some 11) #[true, true, true, true, true, true, true, true, true, false, false, false] rfl rfl (one_of HT_.out (by kernel_rfl)) (by decide) (fun K hK => ?_)
  refine zX Tryz.func56 (by kernel_rfl) #[.agg #[.bool a0_0, .string a0_1, .string a0_2]] ?_
  with_reducible refine (gussetref03_den.calls a0_0 a0_1 a0_2 t436 t437 _ A5.out).mono ?_
  rintro e w14 ⟨rfl, hb⟩; refine ⟨_, rfl, ?_⟩
  replace BK429 := zB BK429 hb; replace BK430 := zB BK430 hb; replace BK431 := zB BK431 hb; replace HB := zS HB hb
  (try clear hb)
  refine hK.out _ _ ⟨(blk_cell BK429.out 0).trans rfl, (blk_cell BK429.out 1).trans rfl, (blk_cell BK429.out 2).trans rfl, (blk_cell BK430.out 0).trans rfl, (blk_cell BK430.out 1).trans rfl, (blk_cell BK430.out 2).trans rfl⟩ (fun hHeld => ?_)
  clear hK K
  refine zW (some 11) ?_
  refine one_ (i := 9) (N := some 14) #[true, true, true, true, true, true, true, true, true, true, false, false] rfl rfl (one_of HT_.out (by kernel_rfl)) (by decide) (fun K hK => ?_)
  refine zX Tryz.func24 (by kernel_rfl) #[.agg #[.bool t436, .string t437], .agg #[.bool a1_0, .string a1_1]] ?_
  with_reducible refine (gussetref02_Times.calls t436 t437 a1_0 a1_1 t438 t439 _ A6.out).mono ?_
  rintro e w15 ⟨rfl, hb⟩; refine ⟨_, rfl, ?_⟩
  replace BK429 := zB BK429 hb; replace BK430 := zB BK430 hb; replace BK431 := zB BK431 hb; replace HB := zS HB hb
  (try clear hb)
  refine hK.out _ _ ⟨(blk_cell BK429.out 0).trans rfl, (blk_cell BK429.out 1).trans rfl, (blk_cell BK429.out 2).trans rfl, (blk_cell BK430.out 0).trans rfl, (blk_cell BK430.out 1).trans rfl, (blk_cell BK430.out 2).trans rfl⟩ (fun hHeld => ?_)
  clear hK K
  refine zW (some 14) ?_
  refine one_ (i := 10) (N := some 15) #[true, true, true, true, true, true, true, true, true, true, true, false] rfl rfl (one_of HT_.out (by kernel_rfl)) (by decide) (fun K hK => ?_)
  refine zX Tryz.func16 (by kernel_rfl) #[.agg #[.bool t434, .string t435], .agg #[.bool t438, .string t439]] ?_
  with_reducible refine (gussetref03_Lowest.calls t434 t435 t438 t439 t440 t441 t442 _ A7.out).mono ?_
  rintro e w16 ⟨rfl, hb⟩; refine ⟨_, rfl, ?_⟩
  replace BK429 := zB BK429 hb; replace BK430 := zB BK430 hb; replace BK431 := zB BK431 hb; replace HB := zS HB hb
  (try clear hb)
  refine hK.out _ _ ⟨(blk_cell BK429.out 0).trans rfl, (blk_cell BK429.out 1).trans rfl, (blk_cell BK429.out 2).trans rfl, (blk_cell BK430.out 0).trans rfl, (blk_cell BK430.out 1).trans rfl, (blk_cell BK430.out 2).trans rfl⟩ (fun hHeld => ?_)
  clear hK K
  refine zW (some 15) ?_
  refine one_ (i := 11) (N := none) #[true, true, true, true, true, true, true, true, true, true, true, true] rfl rfl (one_of HT_.out (by kernel_rfl)) (by decide) (fun K hK => ?_)
  have hs17 : w16.cell? ⟨gb431, 0, none⟩ = some (.bool false) := (blk_cell BK431.out 0).trans rfl
  have hfs17 := blk_frozen BK431.out 0
  have hns17_0 := NB429_431.out
  have hns17_1 := NB430_431.out
  have hms17_0 := NB431_429.out
  have hms17_1 := NB431_430.out
  have hs18 : w16.cell? ⟨gb431, 1, none⟩ = some (.string (⟨#[]⟩ : ByteArray)) := (blk_cell BK431.out 1).trans rfl
  have hfs18 := blk_frozen BK431.out 1
  have hns18_0 := NB429_431.out
  have hns18_1 := NB430_431.out
  have hms18_0 := NB431_429.out
  have hms18_1 := NB431_430.out
  have hs19 : w16.cell? ⟨gb431, 2, none⟩ = some (.string (⟨#[]⟩ : ByteArray)) := (blk_cell BK431.out 2).trans rfl
  have hfs19 := blk_frozen BK431.out 2
  have hns19_0 := NB429_431.out
  have hns19_1 := NB430_431.out
  have hms19_0 := NB431_429.out
  have hms19_1 := NB431_430.out
  refine skip_ (w1 := ?_) (by rfl) rfl ?_ ?_
  rotate_left
  · go_simp
    rfl
  refine hK.out _ _ ⟨((cell_far (p := ⟨gb431, _, none⟩) NB429_431.out _).trans (((cell_far (p := ⟨gb431, _, none⟩) NB429_431.out _).trans (((cell_far (p := ⟨gb431, _, none⟩) NB429_431.out _).trans (hHeld.1)))))), ((cell_far (p := ⟨gb431, _, none⟩) NB429_431.out _).trans (((cell_far (p := ⟨gb431, _, none⟩) NB429_431.out _).trans (((cell_far (p := ⟨gb431, _, none⟩) NB429_431.out _).trans (hHeld.2.1)))))), ((cell_far (p := ⟨gb431, _, none⟩) NB429_431.out _).trans (((cell_far (p := ⟨gb431, _, none⟩) NB429_431.out _).trans (((cell_far (p := ⟨gb431, _, none⟩) NB429_431.out _).trans (hHeld.2.2.1)))))), ((cell_far (p := ⟨gb431, _, none⟩) NB430_431.out _).trans (((cell_far (p := ⟨gb431, _, none⟩) NB430_431.out _).trans (((cell_far (p := ⟨gb431, _, none⟩) NB430_431.out _).trans (hHeld.2.2.2.1)))))), ((cell_far (p := ⟨gb431, _, none⟩) NB430_431.out _).trans (((cell_far (p := ⟨gb431, _, none⟩) NB430_431.out _).trans (((cell_far (p := ⟨gb431, _, none⟩) NB430_431.out _).trans (hHeld.2.2.2.2.1)))))), ((cell_far (p := ⟨gb431, _, none⟩) NB430_431.out _).trans (((cell_far (p := ⟨gb431, _, none⟩) NB430_431.out _).trans (((cell_far (p := ⟨gb431, _, none⟩) NB430_431.out _).trans (hHeld.2.2.2.2.2))))))⟩ (fun hHeld => ?_)
  clear hK K
  refine done_ (done_of HT_.out (by kernel_rfl)) ?_
  try go_wp2
  refine bodyPost_ret (results_cell_row rfl _ _ gb431 27 #[.bool t440, .string t441, .string t442] (0, 0) _ rfl (by (with_reducible repeat (first | refine blk_drewN ?_ _ | refine blk_drew ?_ | refine blk_alloc ?_ _)); refine zP (cs := #[.bool t440, .string t441, .string (⟨#[]⟩ : ByteArray)]) ?_ 2 _; (with_reducible repeat (first | refine blk_drewN ?_ _ | refine blk_drew ?_ | refine blk_alloc ?_ _)); refine zP (cs := #[.bool t440, .string (⟨#[]⟩ : ByteArray), .string (⟨#[]⟩ : ByteArray)]) ?_ 1 _; (with_reducible repeat (first | refine blk_drewN ?_ _ | refine blk_drew ?_ | refine blk_alloc ?_ _)); refine zP (cs := #[.bool false, .string (⟨#[]⟩ : ByteArray), .string (⟨#[]⟩ : ByteArray)]) ?_ 0 _; (with_reducible repeat (first | refine blk_drewN ?_ _ | refine blk_drew ?_ | refine blk_alloc ?_ _)); exact BK431.out) Tryz.underlying27 rfl (by kernel_rfl)) rfl ?_
  exact ⟨by first | rfl | (simp [errW_none, errW_some] <;> rfl) | (simp [*, errW_none, errW_some] <;> rfl), zT HB⟩

end Go.Proofs.YtoijlbcbbblbfaaGreatDoorH.R
