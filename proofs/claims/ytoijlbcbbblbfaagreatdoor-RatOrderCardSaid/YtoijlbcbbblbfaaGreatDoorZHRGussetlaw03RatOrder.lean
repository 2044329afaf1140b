import Derived.Test.YtoijlbcbbblbfaaGreatDoorZG0x0
import Derived.Test.YtoijlbcbbblbfaaGreatDoorZG0x2
import Derived.Test.YtoijlbcbbblbfaaGreatDoorZG0x3
import Derived.Test.YtoijlbcbbblbfaaGreatDoorZG8x0
import Derived.Test.YtoijlbcbbblbfaaGreatDoorZG7x0
-- printed by hp.py
namespace Go.Proofs.YtoijlbcbbblbfaaGreatDoorH.R
open Go.RowKit Go.Proofs.YtoijlbcbbblbfaaGreatDoorH.Z Go.Proofs.YtoijlbcbbblbfaaGreatDoorW.PrintWords Go.Proofs.YtoijlbcbbblbfaaGreatDoorW.PrintLast Go.Proofs.YtoijlbcbbblbfaaGreatDoorW.PrintMore
attribute [local go_sem] max2_int min2_int max_two min_two max_three min_three max_four min_four   -- for this text's walks alone
set_option linter.unusedVariables false
set_option linter.unusedSimpArgs false

/-! ### gussetlaw03_RatOrder: function 9 -/
mutual
def gussetlaw03_RatOrder.j0 : Nat → Bool → Bool → ByteArray → ByteArray → Bool → ByteArray → ByteArray → Bool → ByteArray → ByteArray → Option (Bool)
  | 0, _, _, _, _, _, _, _, _, _, _ => none
  | k + 1, x33, x625000, x625001, x625002, x626000, x626001, x626002, x627000, x627001, x627002 => if x33 = true then ((gussetlaw03_live.f k).bind fun t630 => (some t630)) else ((rat_Cmp.f k x625000 x625001 x625002 x626000 x626001 x626002).bind fun bt631 => ((rat_Sub.f k x625000 x625001 x625002 x626000 x626001 x626002).bind fun bt633 => ((rat_Mul.f k x625000 x625001 x625002 x627000 x627001 x627002).bind fun bt638 => ((rat_Mul.f k x626000 x626001 x626002 x627000 x627001 x627002).bind fun bt643 => ((rat_Sign.f k x627000 x627001 x627002).bind fun bt648 => (if bt631.2 = 0 then (if bt633.2.2.2 = 0 then (if bt638.2.2.2 = 0 then (if bt643.2.2.2 = 0 then (gussetlaw03_RatOrder.j1 k bt631.1 bt648.1 (bt648.2 != 0) bt633.1 bt633.2.1 bt633.2.2.1 bt638.1 bt638.2.1 bt638.2.2.1 bt643.1 bt643.2.1 bt643.2.2.1) else (gussetlaw03_RatOrder.j1 k bt631.1 bt648.1 true bt633.1 bt633.2.1 bt633.2.2.1 bt638.1 bt638.2.1 bt638.2.2.1 bt643.1 bt643.2.1 bt643.2.2.1)) else (gussetlaw03_RatOrder.j1 k bt631.1 bt648.1 true bt633.1 bt633.2.1 bt633.2.2.1 bt638.1 bt638.2.1 bt638.2.2.1 bt643.1 bt643.2.1 bt643.2.2.1)) else (gussetlaw03_RatOrder.j1 k bt631.1 bt648.1 true bt633.1 bt633.2.1 bt633.2.2.1 bt638.1 bt638.2.1 bt638.2.2.1 bt643.1 bt643.2.1 bt643.2.2.1)) else (gussetlaw03_RatOrder.j1 k bt631.1 bt648.1 true bt633.1 bt633.2.1 bt633.2.2.1 bt638.1 bt638.2.1 bt638.2.2.1 bt643.1 bt643.2.1 bt643.2.2.1)))))))
def gussetlaw03_RatOrder.j1 : Nat → Int → Int → Bool → Bool → ByteArray → ByteArray → Bool → ByteArray → ByteArray → Bool → ByteArray → ByteArray → Option (Bool)
  | 0, _, _, _, _, _, _, _, _, _, _, _, _ => none
  | k + 1, x7, x15, x81, x638000, x638001, x638002, x643000, x643001, x643002, x648000, x648001, x648002 => if x81 = true then ((gussetlaw03_live.f k).bind fun t650 => (some t650)) else ((rat_Sign.f k x638000 x638001 x638002).bind fun bt651 => ((rat_Cmp.f k x643000 x643001 x643002 x648000 x648001 x648002).bind fun bt653 => (if x7 = bt651.1 then (if bt651.2 = 0 then (if bt653.1 = (wrap64 (x7 * x15)) then (if bt653.2 = 0 then ((gussetlaw03_live.f k).bind fun t655 => (some t655)) else (none)) else (none)) else (none)) else (none))))
end
def gussetlaw03_RatOrder.f (k : Nat) (a0_0 : Bool) (a0_1 : ByteArray) (a0_2 : ByteArray) (a1_0 : Bool) (a1_1 : ByteArray) (a1_2 : ByteArray) (a2_0 : Bool) (a2_1 : ByteArray) (a2_2 : ByteArray) : Option (Bool) := (gussetlaw03_small.f a0_0 a0_1 a0_2).bind fun t627 => (if t627 = true then ((gussetlaw03_small.f a1_0 a1_1 a1_2).bind fun t628 => (if t628 = true then ((gussetlaw03_small.f a2_0 a2_1 a2_2).bind fun t629 => (gussetlaw03_RatOrder.j0 k (!t629) a0_0 a0_1 a0_2 a1_0 a1_1 a1_2 a2_0 a2_1 a2_2)) else (gussetlaw03_RatOrder.j0 k true a0_0 a0_1 a0_2 a1_0 a1_1 a1_2 a2_0 a2_1 a2_2))) else (gussetlaw03_RatOrder.j0 k true a0_0 a0_1 a0_2 a1_0 a1_1 a1_2 a2_0 a2_1 a2_2))
set_option maxHeartbeats 8000000 in
set_option maxRecDepth 100000 in
theorem gussetlaw03_RatOrder.calls (k : Nat) (a0_0 : Bool) (a0_1 : ByteArray) (a0_2 : ByteArray) (a1_0 : Bool) (a1_1 : ByteArray) (a1_2 : ByteArray) (a2_0 : Bool) (a2_1 : ByteArray) (a2_2 : ByteArray) (r : Bool) (w : World) (h : gussetlaw03_RatOrder.f k a0_0 a0_1 a0_2 a1_0 a1_1 a1_2 a2_0 a2_1 a2_2 = some r) :
    Calls Tryz.prog 9 #[.agg #[.bool a0_0, .string a0_1, .string a0_2], .agg #[.bool a1_0, .string a1_1, .string a1_2], .agg #[.bool a2_0, .string a2_1, .string a2_2]] w fun e w' => e = .returned (.bool r) ∧ Below w.heap.size w w' := by
  have hu27 := Tryz.underlying27
  have HB := Aside0.mk (Below.refl w.heap.size w)
  have H : ((gussetlaw03_small.f a0_0 a0_1 a0_2).bind fun t627 => (if t627 = true then ((gussetlaw03_small.f a1_0 a1_1 a1_2).bind fun t628 => (if t628 = true then ((gussetlaw03_small.f a2_0 a2_1 a2_2).bind fun t629 => (gussetlaw03_RatOrder.j0 k (!t629) a0_0 a0_1 a0_2 a1_0 a1_1 a1_2 a2_0 a2_1 a2_2)) else (gussetlaw03_RatOrder.j0 k true a0_0 a0_1 a0_2 a1_0 a1_1 a1_2 a2_0 a2_1 a2_2))) else (gussetlaw03_RatOrder.j0 k true a0_0 a0_1 a0_2 a1_0 a1_1 a1_2 a2_0 a2_1 a2_2))) = some r := h
  clear h
  have HC4 := Aside0.mk H
  clear H
  go_enter Tryz.func9, Tryz.ntmps9
  go_upto_region 1 with (first | ((with_reducible refine gate_dst (N := 3) rfl ?_); refine box_event ?hg (N := 3) ?hd (cs := #[.bool a0_0, .string a0_1, .string a0_2]) (t := 27) ?hr ?_; (case hd => rfl); (case hg => rfl); (case hr => first | (go_simp; done) | (go_simp; rfl)); intro gb624 hg w5 hbox hb; have BK624 := Aside0.mk (hbox); have GW624 := zG hg HB; have GE624 := zG hg HB; replace HB := zS HB hb; clear hb hbox hg) | ((with_reducible refine gate_dst (N := 4) rfl ?_); refine box_event ?hg (N := 4) ?hd (cs := #[.bool a1_0, .string a1_1, .string a1_2]) (t := 27) ?hr ?_; (case hd => rfl); (case hg => rfl); (case hr => first | (go_simp; done) | (go_simp; rfl)); intro gb625 hg w6 hbox hb; have BK625 := Aside0.mk (hbox); have GW625 := zG hg HB; have GE625 := zG hg HB; have NB624_625 := zN hg BK624; have NB625_624 := zM hg BK624; replace BK624 := zB BK624 hb; replace HB := zS HB hb; clear hb hbox hg) | ((with_reducible refine gate_dst (N := 5) rfl ?_); refine box_event ?hg (N := 5) ?hd (cs := #[.bool a2_0, .string a2_1, .string a2_2]) (t := 27) ?hr ?_; (case hd => rfl); (case hg => rfl); (case hr => first | (go_simp; done) | (go_simp; rfl)); intro gb626 hg w7 hbox hb; have BK626 := Aside0.mk (hbox); have GW626 := zG hg HB; have GE626 := zG hg HB; have NB624_626 := zN hg BK624; have NB626_624 := zM hg BK624; have NB625_626 := zN hg BK625; have NB626_625 := zM hg BK625; replace BK624 := zB BK624 hb; replace BK625 := zB BK625 hb; replace HB := zS HB hb; clear hb hbox hg))
  (try simp only [Act.put, List.setIfInBounds_toArray, List.set_cons_zero, List.set_cons_succ])
  go_cut [33] (fun v33 wc => ∃ (kq : Nat) (x33_3 : Bool), v33 = .bool x33_3 ∧ Aside0 (gussetlaw03_RatOrder.j0 kq x33_3 a0_0 a0_1 a0_2 a1_0 a1_1 a1_2 a2_0 a2_1 a2_2 = some r) ∧ Aside0 (kq ≤ k) ∧ Aside0 (wc.heap[gb624]? = some (.cells #[.bool a0_0, .string a0_1, .string a0_2] 27 (0, 0))) ∧ Aside0 (wc.heap[gb625]? = some (.cells #[.bool a1_0, .string a1_1, .string a1_2] 27 (0, 0))) ∧ Aside0 (wc.heap[gb626]? = some (.cells #[.bool a2_0, .string a2_1, .string a2_2] 27 (0, 0))) ∧ Aside0 (Below w.heap.size w wc))
  case first =>
    have H := HC4.out
    clear HC4
    replace H := Option.bind_eq_some_iff.mp H
    obtain ⟨t627, A80, H⟩ := H
    replace H : (if t627 = true then ((gussetlaw03_small.f a1_0 a1_1 a1_2).bind fun t628 => (if t628 = true then ((gussetlaw03_small.f a2_0 a2_1 a2_2).bind fun t629 => (gussetlaw03_RatOrder.j0 k (!t629) a0_0 a0_1 a0_2 a1_0 a1_1 a1_2 a2_0 a2_1 a2_2)) else (gussetlaw03_RatOrder.j0 k true a0_0 a0_1 a0_2 a1_0 a1_1 a1_2 a2_0 a2_1 a2_2))) else (gussetlaw03_RatOrder.j0 k true a0_0 a0_1 a0_2 a1_0 a1_1 a1_2 a2_0 a2_1 a2_2)) = some r := H
    have A8 := Aside0.mk A80
    clear A80
    by_cases c9 : t627 = true
    · subst c9
      have H1 : ((gussetlaw03_small.f a1_0 a1_1 a1_2).bind fun t628 => (if t628 = true then ((gussetlaw03_small.f a2_0 a2_1 a2_2).bind fun t629 => (gussetlaw03_RatOrder.j0 k (!t629) a0_0 a0_1 a0_2 a1_0 a1_1 a1_2 a2_0 a2_1 a2_2)) else (gussetlaw03_RatOrder.j0 k true a0_0 a0_1 a0_2 a1_0 a1_1 a1_2 a2_0 a2_1 a2_2))) = some r := by rw [if_pos rfl] at H; exact H
      clear H
      have H := H1
      clear H1
      replace H := Option.bind_eq_some_iff.mp H
      obtain ⟨t628, A100, H⟩ := H
      replace H : (if t628 = true then ((gussetlaw03_small.f a2_0 a2_1 a2_2).bind fun t629 => (gussetlaw03_RatOrder.j0 k (!t629) a0_0 a0_1 a0_2 a1_0 a1_1 a1_2 a2_0 a2_1 a2_2)) else (gussetlaw03_RatOrder.j0 k true a0_0 a0_1 a0_2 a1_0 a1_1 a1_2 a2_0 a2_1 a2_2)) = some r := H
      have A10 := Aside0.mk A100
      clear A100
      by_cases c11 : t628 = true
      · subst c11
        have H1 : ((gussetlaw03_small.f a2_0 a2_1 a2_2).bind fun t629 => (gussetlaw03_RatOrder.j0 k (!t629) a0_0 a0_1 a0_2 a1_0 a1_1 a1_2 a2_0 a2_1 a2_2)) = some r := by rw [if_pos rfl] at H; exact H
        clear H
        have H := H1
        clear H1
        replace H := Option.bind_eq_some_iff.mp H
        obtain ⟨t629, A120, H⟩ := H
        replace H : (gussetlaw03_RatOrder.j0 k (!t629) a0_0 a0_1 a0_2 a1_0 a1_1 a1_2 a2_0 a2_1 a2_2) = some r := H
        have A12 := Aside0.mk A120
        clear A120
        have H' := Aside0.mk H
        clear H; have hnb13 := NB624_625.out; have hnc13 := NB625_624.out; have hnb14 := NB624_626.out; have hnc14 := NB626_624.out; obtain ⟨hcz15_0, hcz15_1, hcz15_2, hfz15_0, hfz15_1, hfz15_2⟩ := z3 BK624
        go_wp2_with (first | ((with_reducible refine gate_callee (f := 33) rfl ?_); refine zC Tryz.func33 (by kernel_rfl) #[.agg #[.bool a0_0, .string a0_1, .string a0_2]] ?_; (with_reducible refine (gussetlaw03_small.calls a0_0 a0_1 a0_2 true _ A8.out).mono ?_); rintro e w16 ⟨rfl, hb⟩; refine ⟨_, rfl, ?_⟩; replace BK624 := zB BK624 hb; replace BK625 := zB BK625 hb; replace BK626 := zB BK626 hb; replace HB := zS HB hb; (try clear hb); have hnb17 := NB625_626.out; have hnc17 := NB626_625.out; obtain ⟨hcz18_0, hcz18_1, hcz18_2, hfz18_0, hfz18_1, hfz18_2⟩ := z3 BK625) | (go_at_call 33; (with_reducible refine (gussetlaw03_small.calls a1_0 a1_1 a1_2 true _ A10.out).mono ?_); rintro e w19 ⟨rfl, hb⟩; replace BK624 := zB BK624 hb; replace BK625 := zB BK625 hb; replace BK626 := zB BK626 hb; replace HB := zS HB hb; (try clear hb); obtain ⟨hcz20_0, hcz20_1, hcz20_2, hfz20_0, hfz20_1, hfz20_2⟩ := z3 BK626) | (go_at_call 33; (with_reducible refine (gussetlaw03_small.calls a2_0 a2_1 a2_2 t629 _ A12.out).mono ?_); rintro e w21 ⟨rfl, hb⟩; replace BK624 := zB BK624 hb; replace BK625 := zB BK625 hb; replace BK626 := zB BK626 hb; replace HB := zS HB hb; (try clear hb)))
        go_meet
        case rel => exact ⟨_, (!t629), zR, H', zL, zK BK624, zK BK625, zK BK626, ⟨zT HB⟩⟩
      · replace c11 := Bool.eq_false_iff.mpr c11
        subst c11
        have H1 : (gussetlaw03_RatOrder.j0 k true a0_0 a0_1 a0_2 a1_0 a1_1 a1_2 a2_0 a2_1 a2_2) = some r := by rw [if_neg (show ¬ (false = true) by decide)] at H; exact H
        clear H
        have H := H1
        clear H1
        have H' := Aside0.mk H
        clear H; have hnb22 := NB624_625.out; have hnc22 := NB625_624.out; have hnb23 := NB624_626.out; have hnc23 := NB626_624.out; obtain ⟨hcz24_0, hcz24_1, hcz24_2, hfz24_0, hfz24_1, hfz24_2⟩ := z3 BK624
        go_wp2_with (first | ((with_reducible refine gate_callee (f := 33) rfl ?_); refine zC Tryz.func33 (by kernel_rfl) #[.agg #[.bool a0_0, .string a0_1, .string a0_2]] ?_; (with_reducible refine (gussetlaw03_small.calls a0_0 a0_1 a0_2 true _ A8.out).mono ?_); rintro e w25 ⟨rfl, hb⟩; refine ⟨_, rfl, ?_⟩; replace BK624 := zB BK624 hb; replace BK625 := zB BK625 hb; replace BK626 := zB BK626 hb; replace HB := zS HB hb; (try clear hb); have hnb26 := NB625_626.out; have hnc26 := NB626_625.out; obtain ⟨hcz27_0, hcz27_1, hcz27_2, hfz27_0, hfz27_1, hfz27_2⟩ := z3 BK625) | (go_at_call 33; (with_reducible refine (gussetlaw03_small.calls a1_0 a1_1 a1_2 false _ A10.out).mono ?_); rintro e w28 ⟨rfl, hb⟩; replace BK624 := zB BK624 hb; replace BK625 := zB BK625 hb; replace BK626 := zB BK626 hb; replace HB := zS HB hb; (try clear hb)))
        go_meet
        case rel => exact ⟨_, (true), zR, H', zL, zK BK624, zK BK625, zK BK626, ⟨zT HB⟩⟩
    · replace c9 := Bool.eq_false_iff.mpr c9
      subst c9
      have H1 : (gussetlaw03_RatOrder.j0 k true a0_0 a0_1 a0_2 a1_0 a1_1 a1_2 a2_0 a2_1 a2_2) = some r := by rw [if_neg (show ¬ (false = true) by decide)] at H; exact H
      clear H
      have H := H1
      clear H1
      have H' := Aside0.mk H
      clear H; have hnb29 := NB624_625.out; have hnc29 := NB625_624.out; have hnb30 := NB624_626.out; have hnc30 := NB626_624.out; obtain ⟨hcz31_0, hcz31_1, hcz31_2, hfz31_0, hfz31_1, hfz31_2⟩ := z3 BK624
      go_wp2_with (first | ((with_reducible refine gate_callee (f := 33) rfl ?_); refine zC Tryz.func33 (by kernel_rfl) #[.agg #[.bool a0_0, .string a0_1, .string a0_2]] ?_; (with_reducible refine (gussetlaw03_small.calls a0_0 a0_1 a0_2 false _ A8.out).mono ?_); rintro e w32 ⟨rfl, hb⟩; refine ⟨_, rfl, ?_⟩; replace BK624 := zB BK624 hb; replace BK625 := zB BK625 hb; replace BK626 := zB BK626 hb; replace HB := zS HB hb; (try clear hb)))
      go_meet
      case rel => exact ⟨_, (true), zR, H', zL, zK BK624, zK BK625, zK BK626, ⟨zT HB⟩⟩
  case rest =>
    clear HC4
    try clear c1; try clear c2; try clear p2; try clear c3; try clear c9; try clear c11; try clear c13; try clear c14; try clear c17; try clear c22; try clear c23; try clear c26; try clear c29; try clear c30; try clear hcz15_0; try clear hcz15_1; try clear hcz15_2; try clear hcz18_0; try clear hcz18_1; try clear hcz18_2; try clear hcz20_0; try clear hcz20_1; try clear hcz20_2; try clear hcz24_0; try clear hcz24_1; try clear hcz24_2; try clear hcz27_0; try clear hcz27_1; try clear hcz27_2; try clear hcz31_0; try clear hcz31_1; try clear hcz31_2; try clear hfz15_0; try clear hfz15_1; try clear hfz15_2; try clear hfz18_0; try clear hfz18_1; try clear hfz18_2; try clear hfz20_0; try clear hfz20_1; try clear hfz20_2; try clear hfz24_0; try clear hfz24_1; try clear hfz24_2; try clear hfz27_0; try clear hfz27_1; try clear hfz27_2; try clear hfz31_0; try clear hfz31_1; try clear hfz31_2
    obtain ⟨kq, x33_3, rfl, HA, HJ3, BK624, BK625, BK626, HB⟩ := hcut
    cases kq with
    | zero => exact absurd HA.out (by simp [gussetlaw03_RatOrder.j0])
    | succ kj3 =>
      have H := HA.out
      clear HA
      simp only [gussetlaw03_RatOrder.j0] at H
      by_cases c33 : x33_3 = true
      · subst c33
        have H1 : ((gussetlaw03_live.f kj3).bind fun t630 => (some t630)) = some r := by rw [if_pos rfl] at H; exact H
        clear H
        have H := H1
        clear H1
        replace H := Option.bind_eq_some_iff.mp H
        obtain ⟨t630, A340, H⟩ := H
        replace H : (some t630) = some r := H
        have A34 := Aside0.mk A340
        clear A340
        obtain rfl := Option.some.inj H
        go_wp2_with (first | ((with_reducible refine gate_callee (f := 13) rfl ?_); refine zC Tryz.func13 (by kernel_rfl) #[] ?_; (with_reducible refine (gussetlaw03_live.calls kj3  t630 _ A34.out).mono ?_); rintro e w35 ⟨rfl, hb⟩; refine ⟨_, rfl, ?_⟩; replace BK624 := zB BK624 hb; replace BK625 := zB BK625 hb; replace BK626 := zB BK626 hb; replace HB := zS HB hb; (try clear hb)))
        go_ret
        exact ⟨by first | rfl | (simp [errW_none, errW_some] <;> rfl) | (simp [*, errW_none, errW_some] <;> rfl), zT HB⟩
      · replace c33 := Bool.eq_false_iff.mpr c33
        subst c33
        have H1 : ((rat_Cmp.f kj3 a0_0 a0_1 a0_2 a1_0 a1_1 a1_2).bind fun bt631 => ((rat_Sub.f kj3 a0_0 a0_1 a0_2 a1_0 a1_1 a1_2).bind fun bt633 => ((rat_Mul.f kj3 a0_0 a0_1 a0_2 a2_0 a2_1 a2_2).bind fun bt638 => ((rat_Mul.f kj3 a1_0 a1_1 a1_2 a2_0 a2_1 a2_2).bind fun bt643 => ((rat_Sign.f kj3 a2_0 a2_1 a2_2).bind fun bt648 => (if bt631.2 = 0 then (if bt633.2.2.2 = 0 then (if bt638.2.2.2 = 0 then (if bt643.2.2.2 = 0 then (gussetlaw03_RatOrder.j1 kj3 bt631.1 bt648.1 (bt648.2 != 0) bt633.1 bt633.2.1 bt633.2.2.1 bt638.1 bt638.2.1 bt638.2.2.1 bt643.1 bt643.2.1 bt643.2.2.1) else (gussetlaw03_RatOrder.j1 kj3 bt631.1 bt648.1 true bt633.1 bt633.2.1 bt633.2.2.1 bt638.1 bt638.2.1 bt638.2.2.1 bt643.1 bt643.2.1 bt643.2.2.1)) else (gussetlaw03_RatOrder.j1 kj3 bt631.1 bt648.1 true bt633.1 bt633.2.1 bt633.2.2.1 bt638.1 bt638.2.1 bt638.2.2.1 bt643.1 bt643.2.1 bt643.2.2.1)) else (gussetlaw03_RatOrder.j1 kj3 bt631.1 bt648.1 true bt633.1 bt633.2.1 bt633.2.2.1 bt638.1 bt638.2.1 bt638.2.2.1 bt643.1 bt643.2.1 bt643.2.2.1)) else (gussetlaw03_RatOrder.j1 kj3 bt631.1 bt648.1 true bt633.1 bt633.2.1 bt633.2.2.1 bt638.1 bt638.2.1 bt638.2.2.1 bt643.1 bt643.2.1 bt643.2.2.1))))))) = some r := by rw [if_neg (show ¬ (false = true) by decide)] at H; exact H
        clear H
        have H := H1
        clear H1
        replace H := Option.bind_eq_some_iff.mp H
        obtain ⟨⟨t631, t632⟩, A360, H⟩ := H
        replace H : ((rat_Sub.f kj3 a0_0 a0_1 a0_2 a1_0 a1_1 a1_2).bind fun bt633 => ((rat_Mul.f kj3 a0_0 a0_1 a0_2 a2_0 a2_1 a2_2).bind fun bt638 => ((rat_Mul.f kj3 a1_0 a1_1 a1_2 a2_0 a2_1 a2_2).bind fun bt643 => ((rat_Sign.f kj3 a2_0 a2_1 a2_2).bind fun bt648 => (if t632 = 0 then (if bt633.2.2.2 = 0 then (if bt638.2.2.2 = 0 then (if bt643.2.2.2 = 0 then (gussetlaw03_RatOrder.j1 kj3 t631 bt648.1 (bt648.2 != 0) bt633.1 bt633.2.1 bt633.2.2.1 bt638.1 bt638.2.1 bt638.2.2.1 bt643.1 bt643.2.1 bt643.2.2.1) else (gussetlaw03_RatOrder.j1 kj3 t631 bt648.1 true bt633.1 bt633.2.1 bt633.2.2.1 bt638.1 bt638.2.1 bt638.2.2.1 bt643.1 bt643.2.1 bt643.2.2.1)) else (gussetlaw03_RatOrder.j1 kj3 t631 bt648.1 true bt633.1 bt633.2.1 bt633.2.2.1 bt638.1 bt638.2.1 bt638.2.2.1 bt643.1 bt643.2.1 bt643.2.2.1)) else (gussetlaw03_RatOrder.j1 kj3 t631 bt648.1 true bt633.1 bt633.2.1 bt633.2.2.1 bt638.1 bt638.2.1 bt638.2.2.1 bt643.1 bt643.2.1 bt643.2.2.1)) else (gussetlaw03_RatOrder.j1 kj3 t631 bt648.1 true bt633.1 bt633.2.1 bt633.2.2.1 bt638.1 bt638.2.1 bt638.2.2.1 bt643.1 bt643.2.1 bt643.2.2.1)))))) = some r := H
        have A36 := Aside0.mk A360
        clear A360
        replace H := Option.bind_eq_some_iff.mp H
        obtain ⟨⟨t633, t634, t635, t636⟩, A370, H⟩ := H
        replace H : ((rat_Mul.f kj3 a0_0 a0_1 a0_2 a2_0 a2_1 a2_2).bind fun bt638 => ((rat_Mul.f kj3 a1_0 a1_1 a1_2 a2_0 a2_1 a2_2).bind fun bt643 => ((rat_Sign.f kj3 a2_0 a2_1 a2_2).bind fun bt648 => (if t632 = 0 then (if t636 = 0 then (if bt638.2.2.2 = 0 then (if bt643.2.2.2 = 0 then (gussetlaw03_RatOrder.j1 kj3 t631 bt648.1 (bt648.2 != 0) t633 t634 t635 bt638.1 bt638.2.1 bt638.2.2.1 bt643.1 bt643.2.1 bt643.2.2.1) else (gussetlaw03_RatOrder.j1 kj3 t631 bt648.1 true t633 t634 t635 bt638.1 bt638.2.1 bt638.2.2.1 bt643.1 bt643.2.1 bt643.2.2.1)) else (gussetlaw03_RatOrder.j1 kj3 t631 bt648.1 true t633 t634 t635 bt638.1 bt638.2.1 bt638.2.2.1 bt643.1 bt643.2.1 bt643.2.2.1)) else (gussetlaw03_RatOrder.j1 kj3 t631 bt648.1 true t633 t634 t635 bt638.1 bt638.2.1 bt638.2.2.1 bt643.1 bt643.2.1 bt643.2.2.1)) else (gussetlaw03_RatOrder.j1 kj3 t631 bt648.1 true t633 t634 t635 bt638.1 bt638.2.1 bt638.2.2.1 bt643.1 bt643.2.1 bt643.2.2.1))))) = some r := H
        have A37 := Aside0.mk A370
        clear A370
        replace H := Option.bind_eq_some_iff.mp H
        obtain ⟨⟨t638, t639, t640, t641⟩, A380, H⟩ := H
        replace H : ((rat_Mul.f kj3 a1_0 a1_1 a1_2 a2_0 a2_1 a2_2).bind fun bt643 => ((rat_Sign.f kj3 a2_0 a2_1 a2_2).bind fun bt648 => (if t632 = 0 then (if t636 = 0 then (if t641 = 0 then (if bt643.2.2.2 = 0 then (gussetlaw03_RatOrder.j1 kj3 t631 bt648.1 (bt648.2 != 0) t633 t634 t635 t638 t639 t640 bt643.1 bt643.2.1 bt643.2.2.1) else (gussetlaw03_RatOrder.j1 kj3 t631 bt648.1 true t633 t634 t635 t638 t639 t640 bt643.1 bt643.2.1 bt643.2.2.1)) else (gussetlaw03_RatOrder.j1 kj3 t631 bt648.1 true t633 t634 t635 t638 t639 t640 bt643.1 bt643.2.1 bt643.2.2.1)) else (gussetlaw03_RatOrder.j1 kj3 t631 bt648.1 true t633 t634 t635 t638 t639 t640 bt643.1 bt643.2.1 bt643.2.2.1)) else (gussetlaw03_RatOrder.j1 kj3 t631 bt648.1 true t633 t634 t635 t638 t639 t640 bt643.1 bt643.2.1 bt643.2.2.1)))) = some r := H
        have A38 := Aside0.mk A380
        clear A380
        replace H := Option.bind_eq_some_iff.mp H
        obtain ⟨⟨t643, t644, t645, t646⟩, A390, H⟩ := H
        replace H : ((rat_Sign.f kj3 a2_0 a2_1 a2_2).bind fun bt648 => (if t632 = 0 then (if t636 = 0 then (if t641 = 0 then (if t646 = 0 then (gussetlaw03_RatOrder.j1 kj3 t631 bt648.1 (bt648.2 != 0) t633 t634 t635 t638 t639 t640 t643 t644 t645) else (gussetlaw03_RatOrder.j1 kj3 t631 bt648.1 true t633 t634 t635 t638 t639 t640 t643 t644 t645)) else (gussetlaw03_RatOrder.j1 kj3 t631 bt648.1 true t633 t634 t635 t638 t639 t640 t643 t644 t645)) else (gussetlaw03_RatOrder.j1 kj3 t631 bt648.1 true t633 t634 t635 t638 t639 t640 t643 t644 t645)) else (gussetlaw03_RatOrder.j1 kj3 t631 bt648.1 true t633 t634 t635 t638 t639 t640 t643 t644 t645))) = some r := H
        have A39 := Aside0.mk A390
        clear A390
        replace H := Option.bind_eq_some_iff.mp H
        obtain ⟨⟨t648, t649⟩, A400, H⟩ := H
        replace H : (if t632 = 0 then (if t636 = 0 then (if t641 = 0 then (if t646 = 0 then (gussetlaw03_RatOrder.j1 kj3 t631 t648 (t649 != 0) t633 t634 t635 t638 t639 t640 t643 t644 t645) else (gussetlaw03_RatOrder.j1 kj3 t631 t648 true t633 t634 t635 t638 t639 t640 t643 t644 t645)) else (gussetlaw03_RatOrder.j1 kj3 t631 t648 true t633 t634 t635 t638 t639 t640 t643 t644 t645)) else (gussetlaw03_RatOrder.j1 kj3 t631 t648 true t633 t634 t635 t638 t639 t640 t643 t644 t645)) else (gussetlaw03_RatOrder.j1 kj3 t631 t648 true t633 t634 t635 t638 t639 t640 t643 t644 t645)) = some r := H
        have A40 := Aside0.mk A400
        clear A400
        have HC41 := Aside0.mk H
        clear H; have hnb42 := NB624_625.out; have hnc42 := NB625_624.out; have hnb43 := NB624_626.out; have hnc43 := NB626_624.out; obtain ⟨hcz44_0, hcz44_1, hcz44_2, hfz44_0, hfz44_1, hfz44_2⟩ := z3 BK624; have hnb45 := NB625_626.out; have hnc45 := NB626_625.out; obtain ⟨hcz46_0, hcz46_1, hcz46_2, hfz46_0, hfz46_1, hfz46_2⟩ := z3 BK625
        go_upto_region 8 with (first | ((with_reducible refine gate_callee (f := 35) rfl ?_); refine zC Tryz.func35 (by kernel_rfl) #[.agg #[.bool a0_0, .string a0_1, .string a0_2], .agg #[.bool a1_0, .string a1_1, .string a1_2]] ?_; (with_reducible refine (rat_Cmp.calls kj3 a0_0 a0_1 a0_2 a1_0 a1_1 a1_2 t631 t632 _ A36.out).mono ?_); rintro e w47 ⟨rfl, hb⟩; refine ⟨_, rfl, ?_⟩; replace BK624 := zB BK624 hb; replace BK625 := zB BK625 hb; replace BK626 := zB BK626 hb; replace HB := zS HB hb; (try clear hb); obtain ⟨hcz48_0, hcz48_1, hcz48_2, hfz48_0, hfz48_1, hfz48_2⟩ := z3 BK624; obtain ⟨hcz49_0, hcz49_1, hcz49_2, hfz49_0, hfz49_1, hfz49_2⟩ := z3 BK625) | ((with_reducible refine gate_callee (f := 36) rfl ?_); refine zC Tryz.func36 (by kernel_rfl) #[.agg #[.bool a0_0, .string a0_1, .string a0_2], .agg #[.bool a1_0, .string a1_1, .string a1_2]] ?_; (with_reducible refine (rat_Sub.calls kj3 a0_0 a0_1 a0_2 a1_0 a1_1 a1_2 t633 t634 t635 t636 _ A37.out).mono ?_); rintro e w50 ⟨rfl, hb⟩; refine ⟨_, rfl, ?_⟩; replace BK624 := zB BK624 hb; replace BK625 := zB BK625 hb; replace BK626 := zB BK626 hb; replace HB := zS HB hb; (try clear hb)) | ((with_reducible refine gate_dst (N := 9) rfl ?_); refine box_event ?hg (N := 9) ?hd (cs := #[.bool false, .string (⟨#[]⟩ : ByteArray), .string (⟨#[]⟩ : ByteArray)]) (t := 27) ?hr ?_; (case hd => rfl); (case hg => rfl); (case hr => first | (go_simp; done) | (go_simp; rfl)); intro gb637 hg w51 hbox hb; have BK637 := Aside0.mk (hbox); have GW637 := zG hg HB; have GE637 := zG hg HB; have NB624_637 := zN hg BK624; have NB637_624 := zM hg BK624; have NB625_637 := zN hg BK625; have NB637_625 := zM hg BK625; have NB626_637 := zN hg BK626; have NB637_626 := zM hg BK626; replace BK624 := zB BK624 hb; replace BK625 := zB BK625 hb; replace BK626 := zB BK626 hb; replace HB := zS HB hb; clear hb hbox hg; have hnb52 := NB637_624.out; have hnc52 := NB624_637.out; have hnb53 := NB637_625.out; have hnc53 := NB625_637.out; have hnb54 := NB637_626.out; have hnc54 := NB626_637.out; obtain ⟨hcz55_0, hcz55_1, hcz55_2, hfz55_0, hfz55_1, hfz55_2⟩ := z3 BK637; obtain ⟨hcz56_0, hcz56_1, hcz56_2, hfz56_0, hfz56_1, hfz56_2⟩ := z3 BK624; obtain ⟨hcz57_0, hcz57_1, hcz57_2, hfz57_0, hfz57_1, hfz57_2⟩ := z3 BK626) | ((with_reducible refine gate_callee (f := 28) rfl ?_); refine zC Tryz.func28 (by kernel_rfl) #[.agg #[.bool a0_0, .string a0_1, .string a0_2], .agg #[.bool a2_0, .string a2_1, .string a2_2]] ?_; (with_reducible refine (rat_Mul.calls kj3 a0_0 a0_1 a0_2 a2_0 a2_1 a2_2 t638 t639 t640 t641 _ A38.out).mono ?_); rintro e w58 ⟨rfl, hb⟩; refine ⟨_, rfl, ?_⟩; replace BK624 := Aside0.mk (blk_below (g := gb624) (o := .cells #[.bool a0_0, .string a0_1, .string a0_2] 27 (0, 0)) (by (with_reducible repeat (first | refine blk_drewN ?_ _ | refine blk_drew ?_ | refine blk_alloc ?_ _)); refine blk_far ?_ NB624_637.out _; (with_reducible repeat (first | refine blk_drewN ?_ _ | refine blk_drew ?_ | refine blk_alloc ?_ _)); refine blk_far ?_ NB624_637.out _; (with_reducible repeat (first | refine blk_drewN ?_ _ | refine blk_drew ?_ | refine blk_alloc ?_ _)); refine blk_far ?_ NB624_637.out _; (with_reducible repeat (first | refine blk_drewN ?_ _ | refine blk_drew ?_ | refine blk_alloc ?_ _)); exact BK624.out) hb); replace BK625 := Aside0.mk (blk_below (g := gb625) (o := .cells #[.bool a1_0, .string a1_1, .string a1_2] 27 (0, 0)) (by (with_reducible repeat (first | refine blk_drewN ?_ _ | refine blk_drew ?_ | refine blk_alloc ?_ _)); refine blk_far ?_ NB625_637.out _; (with_reducible repeat (first | refine blk_drewN ?_ _ | refine blk_drew ?_ | refine blk_alloc ?_ _)); refine blk_far ?_ NB625_637.out _; (with_reducible repeat (first | refine blk_drewN ?_ _ | refine blk_drew ?_ | refine blk_alloc ?_ _)); refine blk_far ?_ NB625_637.out _; (with_reducible repeat (first | refine blk_drewN ?_ _ | refine blk_drew ?_ | refine blk_alloc ?_ _)); exact BK625.out) hb); replace BK626 := Aside0.mk (blk_below (g := gb626) (o := .cells #[.bool a2_0, .string a2_1, .string a2_2] 27 (0, 0)) (by (with_reducible repeat (first | refine blk_drewN ?_ _ | refine blk_drew ?_ | refine blk_alloc ?_ _)); refine blk_far ?_ NB626_637.out _; (with_reducible repeat (first | refine blk_drewN ?_ _ | refine blk_drew ?_ | refine blk_alloc ?_ _)); refine blk_far ?_ NB626_637.out _; (with_reducible repeat (first | refine blk_drewN ?_ _ | refine blk_drew ?_ | refine blk_alloc ?_ _)); refine blk_far ?_ NB626_637.out _; (with_reducible repeat (first | refine blk_drewN ?_ _ | refine blk_drew ?_ | refine blk_alloc ?_ _)); exact BK626.out) hb); replace BK637 := Aside0.mk (blk_below (g := gb637) (o := .cells #[.bool t633, .string t634, .string t635] 27 (0, 0)) (by (with_reducible repeat (first | refine blk_drewN ?_ _ | refine blk_drew ?_ | refine blk_alloc ?_ _)); refine zP (cs := #[.bool t633, .string t634, .string (⟨#[]⟩ : ByteArray)]) ?_ 2 _; (with_reducible repeat (first | refine blk_drewN ?_ _ | refine blk_drew ?_ | refine blk_alloc ?_ _)); refine zP (cs := #[.bool t633, .string (⟨#[]⟩ : ByteArray), .string (⟨#[]⟩ : ByteArray)]) ?_ 1 _; (with_reducible repeat (first | refine blk_drewN ?_ _ | refine blk_drew ?_ | refine blk_alloc ?_ _)); refine zP (cs := #[.bool false, .string (⟨#[]⟩ : ByteArray), .string (⟨#[]⟩ : ByteArray)]) ?_ 0 _; (with_reducible repeat (first | refine blk_drewN ?_ _ | refine blk_drew ?_ | refine blk_alloc ?_ _)); exact BK637.out) hb); replace HB := zS HB hb; (try clear hb)) | ((with_reducible refine gate_dst (N := 11) rfl ?_); refine box_event ?hg (N := 11) ?hd (cs := #[.bool false, .string (⟨#[]⟩ : ByteArray), .string (⟨#[]⟩ : ByteArray)]) (t := 27) ?hr ?_; (case hd => rfl); (case hg => rfl); (case hr => first | (go_simp; done) | (go_simp; rfl)); intro gb642 hg w59 hbox hb; have BK642 := Aside0.mk (hbox); have GW642 := zG hg HB; have GE642 := zG hg HB; have NB624_642 := zN hg BK624; have NB642_624 := zM hg BK624; have NB625_642 := zN hg BK625; have NB642_625 := zM hg BK625; have NB626_642 := zN hg BK626; have NB642_626 := zM hg BK626; have NB637_642 := zN hg BK637; have NB642_637 := zM hg BK637; replace BK624 := zB BK624 hb; replace BK625 := zB BK625 hb; replace BK626 := zB BK626 hb; replace BK637 := zB BK637 hb; replace HB := zS HB hb; clear hb hbox hg; have hnb60 := NB642_624.out; have hnc60 := NB624_642.out; have hnb61 := NB642_625.out; have hnc61 := NB625_642.out; have hnb62 := NB642_626.out; have hnc62 := NB626_642.out; have hnb63 := NB642_637.out; have hnc63 := NB637_642.out; obtain ⟨hcz64_0, hcz64_1, hcz64_2, hfz64_0, hfz64_1, hfz64_2⟩ := z3 BK642; obtain ⟨hcz65_0, hcz65_1, hcz65_2, hfz65_0, hfz65_1, hfz65_2⟩ := z3 BK625; obtain ⟨hcz66_0, hcz66_1, hcz66_2, hfz66_0, hfz66_1, hfz66_2⟩ := z3 BK626) | ((with_reducible refine gate_callee (f := 28) rfl ?_); refine zC Tryz.func28 (by kernel_rfl) #[.agg #[.bool a1_0, .string a1_1, .string a1_2], .agg #[.bool a2_0, .string a2_1, .string a2_2]] ?_; (with_reducible refine (rat_Mul.calls kj3 a1_0 a1_1 a1_2 a2_0 a2_1 a2_2 t643 t644 t645 t646 _ A39.out).mono ?_); rintro e w67 ⟨rfl, hb⟩; refine ⟨_, rfl, ?_⟩; replace BK624 := Aside0.mk (blk_below (g := gb624) (o := .cells #[.bool a0_0, .string a0_1, .string a0_2] 27 (0, 0)) (by (with_reducible repeat (first | refine blk_drewN ?_ _ | refine blk_drew ?_ | refine blk_alloc ?_ _)); refine blk_far ?_ NB624_642.out _; (with_reducible repeat (first | refine blk_drewN ?_ _ | refine blk_drew ?_ | refine blk_alloc ?_ _)); refine blk_far ?_ NB624_642.out _; (with_reducible repeat (first | refine blk_drewN ?_ _ | refine blk_drew ?_ | refine blk_alloc ?_ _)); refine blk_far ?_ NB624_642.out _; (with_reducible repeat (first | refine blk_drewN ?_ _ | refine blk_drew ?_ | refine blk_alloc ?_ _)); exact BK624.out) hb); replace BK625 := Aside0.mk (blk_below (g := gb625) (o := .cells #[.bool a1_0, .string a1_1, .string a1_2] 27 (0, 0)) (by (with_reducible repeat (first | refine blk_drewN ?_ _ | refine blk_drew ?_ | refine blk_alloc ?_ _)); refine blk_far ?_ NB625_642.out _; (with_reducible repeat (first | refine blk_drewN ?_ _ | refine blk_drew ?_ | refine blk_alloc ?_ _)); refine blk_far ?_ NB625_642.out _; (with_reducible repeat (first | refine blk_drewN ?_ _ | refine blk_drew ?_ | refine blk_alloc ?_ _)); refine blk_far ?_ NB625_642.out _; (with_reducible repeat (first | refine blk_drewN ?_ _ | refine blk_drew ?_ | refine blk_alloc ?_ _)); exact BK625.out) hb); replace BK626 := Aside0.mk (blk_below (g := gb626) (o := .cells #[.bool a2_0, .string a2_1, .string a2_2] 27 (0, 0)) (by (with_reducible repeat (first | refine blk_drewN ?_ _ | refine blk_drew ?_ | refine blk_alloc ?_ _)); refine blk_far ?_ NB626_642.out _; (with_reducible repeat (first | refine blk_drewN ?_ _ | refine blk_drew ?_ | refine blk_alloc ?_ _)); refine blk_far ?_ NB626_642.out _; (with_reducible repeat (first | refine blk_drewN ?_ _ | refine blk_drew ?_ | refine blk_alloc ?_ _)); refine blk_far ?_ NB626_642.out _; (with_reducible repeat (first | refine blk_drewN ?_ _ | refine blk_drew ?_ | refine blk_alloc ?_ _)); exact BK626.out) hb); replace BK637 := Aside0.mk (blk_below (g := gb637) (o := .cells #[.bool t633, .string t634, .string t635] 27 (0, 0)) (by (with_reducible repeat (first | refine blk_drewN ?_ _ | refine blk_drew ?_ | refine blk_alloc ?_ _)); refine blk_far ?_ NB637_642.out _; (with_reducible repeat (first | refine blk_drewN ?_ _ | refine blk_drew ?_ | refine blk_alloc ?_ _)); refine blk_far ?_ NB637_642.out _; (with_reducible repeat (first | refine blk_drewN ?_ _ | refine blk_drew ?_ | refine blk_alloc ?_ _)); refine blk_far ?_ NB637_642.out _; (with_reducible repeat (first | refine blk_drewN ?_ _ | refine blk_drew ?_ | refine blk_alloc ?_ _)); exact BK637.out) hb); replace BK642 := Aside0.mk (blk_below (g := gb642) (o := .cells #[.bool t638, .string t639, .string t640] 27 (0, 0)) (by (with_reducible repeat (first | refine blk_drewN ?_ _ | refine blk_drew ?_ | refine blk_alloc ?_ _)); refine zP (cs := #[.bool t638, .string t639, .string (⟨#[]⟩ : ByteArray)]) ?_ 2 _; (with_reducible repeat (first | refine blk_drewN ?_ _ | refine blk_drew ?_ | refine blk_alloc ?_ _)); refine zP (cs := #[.bool t638, .string (⟨#[]⟩ : ByteArray), .string (⟨#[]⟩ : ByteArray)]) ?_ 1 _; (with_reducible repeat (first | refine blk_drewN ?_ _ | refine blk_drew ?_ | refine blk_alloc ?_ _)); refine zP (cs := #[.bool false, .string (⟨#[]⟩ : ByteArray), .string (⟨#[]⟩ : ByteArray)]) ?_ 0 _; (with_reducible repeat (first | refine blk_drewN ?_ _ | refine blk_drew ?_ | refine blk_alloc ?_ _)); exact BK642.out) hb); replace HB := zS HB hb; (try clear hb)) | ((with_reducible refine gate_dst (N := 13) rfl ?_); refine box_event ?hg (N := 13) ?hd (cs := #[.bool false, .string (⟨#[]⟩ : ByteArray), .string (⟨#[]⟩ : ByteArray)]) (t := 27) ?hr ?_; (case hd => rfl); (case hg => rfl); (case hr => first | (go_simp; done) | (go_simp; rfl)); intro gb647 hg w68 hbox hb; have BK647 := Aside0.mk (hbox); have GW647 := zG hg HB; have GE647 := zG hg HB; have NB624_647 := zN hg BK624; have NB647_624 := zM hg BK624; have NB625_647 := zN hg BK625; have NB647_625 := zM hg BK625; have NB626_647 := zN hg BK626; have NB647_626 := zM hg BK626; have NB637_647 := zN hg BK637; have NB647_637 := zM hg BK637; have NB642_647 := zN hg BK642; have NB647_642 := zM hg BK642; replace BK624 := zB BK624 hb; replace BK625 := zB BK625 hb; replace BK626 := zB BK626 hb; replace BK637 := zB BK637 hb; replace BK642 := zB BK642 hb; replace HB := zS HB hb; clear hb hbox hg; have hnb69 := NB647_624.out; have hnc69 := NB624_647.out; have hnb70 := NB647_625.out; have hnc70 := NB625_647.out; have hnb71 := NB647_626.out; have hnc71 := NB626_647.out; have hnb72 := NB647_637.out; have hnc72 := NB637_647.out; have hnb73 := NB647_642.out; have hnc73 := NB642_647.out; obtain ⟨hcz74_0, hcz74_1, hcz74_2, hfz74_0, hfz74_1, hfz74_2⟩ := z3 BK647; obtain ⟨hcz75_0, hcz75_1, hcz75_2, hfz75_0, hfz75_1, hfz75_2⟩ := z3 BK626) | ((with_reducible refine gate_callee (f := 37) rfl ?_); refine zC Tryz.func37 (by kernel_rfl) #[.agg #[.bool a2_0, .string a2_1, .string a2_2]] ?_; (with_reducible refine (rat_Sign.calls kj3 a2_0 a2_1 a2_2 t648 t649 _ A40.out).mono ?_); rintro e w76 ⟨rfl, hb⟩; refine ⟨_, rfl, ?_⟩; replace BK624 := Aside0.mk (blk_below (g := gb624) (o := .cells #[.bool a0_0, .string a0_1, .string a0_2] 27 (0, 0)) (by (with_reducible repeat (first | refine blk_drewN ?_ _ | refine blk_drew ?_ | refine blk_alloc ?_ _)); refine blk_far ?_ NB624_647.out _; (with_reducible repeat (first | refine blk_drewN ?_ _ | refine blk_drew ?_ | refine blk_alloc ?_ _)); refine blk_far ?_ NB624_647.out _; (with_reducible repeat (first | refine blk_drewN ?_ _ | refine blk_drew ?_ | refine blk_alloc ?_ _)); refine blk_far ?_ NB624_647.out _; (with_reducible repeat (first | refine blk_drewN ?_ _ | refine blk_drew ?_ | refine blk_alloc ?_ _)); exact BK624.out) hb); replace BK625 := Aside0.mk (blk_below (g := gb625) (o := .cells #[.bool a1_0, .string a1_1, .string a1_2] 27 (0, 0)) (by (with_reducible repeat (first | refine blk_drewN ?_ _ | refine blk_drew ?_ | refine blk_alloc ?_ _)); refine blk_far ?_ NB625_647.out _; (with_reducible repeat (first | refine blk_drewN ?_ _ | refine blk_drew ?_ | refine blk_alloc ?_ _)); refine blk_far ?_ NB625_647.out _; (with_reducible repeat (first | refine blk_drewN ?_ _ | refine blk_drew ?_ | refine blk_alloc ?_ _)); refine blk_far ?_ NB625_647.out _; (with_reducible repeat (first | refine blk_drewN ?_ _ | refine blk_drew ?_ | refine blk_alloc ?_ _)); exact BK625.out) hb); replace BK626 := Aside0.mk (blk_below (g := gb626) (o := .cells #[.bool a2_0, .string a2_1, .string a2_2] 27 (0, 0)) (by (with_reducible repeat (first | refine blk_drewN ?_ _ | refine blk_drew ?_ | refine blk_alloc ?_ _)); refine blk_far ?_ NB626_647.out _; (with_reducible repeat (first | refine blk_drewN ?_ _ | refine blk_drew ?_ | refine blk_alloc ?_ _)); refine blk_far ?_ NB626_647.out _; (with_reducible repeat (first | refine blk_drewN ?_ _ | refine blk_drew ?_ | refine blk_alloc ?_ _)); refine blk_far ?_ NB626_647.out _; (with_reducible repeat (first | refine blk_drewN ?_ _ | refine blk_drew ?_ | refine blk_alloc ?_ _)); exact BK626.out) hb); replace BK637 := Aside0.mk (blk_below (g := gb637) (o := .cells #[.bool t633, .string t634, .string t635] 27 (0, 0)) (by (with_reducible repeat (first | refine blk_drewN ?_ _ | refine blk_drew ?_ | refine blk_alloc ?_ _)); refine blk_far ?_ NB637_647.out _; (with_reducible repeat (first | refine blk_drewN ?_ _ | refine blk_drew ?_ | refine blk_alloc ?_ _)); refine blk_far ?_ NB637_647.out _; (with_reducible repeat (first | refine blk_drewN ?_ _ | refine blk_drew ?_ | refine blk_alloc ?_ _)); refine blk_far ?_ NB637_647.out _; (with_reducible repeat (first | refine blk_drewN ?_ _ | refine blk_drew ?_ | refine blk_alloc ?_ _)); exact BK637.out) hb); replace BK642 := Aside0.mk (blk_below (g := gb642) (o := .cells #[.bool t638, .string t639, .string t640] 27 (0, 0)) (by (with_reducible repeat (first | refine blk_drewN ?_ _ | refine blk_drew ?_ | refine blk_alloc ?_ _)); refine blk_far ?_ NB642_647.out _; (with_reducible repeat (first | refine blk_drewN ?_ _ | refine blk_drew ?_ | refine blk_alloc ?_ _)); refine blk_far ?_ NB642_647.out _; (with_reducible repeat (first | refine blk_drewN ?_ _ | refine blk_drew ?_ | refine blk_alloc ?_ _)); refine blk_far ?_ NB642_647.out _; (with_reducible repeat (first | refine blk_drewN ?_ _ | refine blk_drew ?_ | refine blk_alloc ?_ _)); exact BK642.out) hb); replace BK647 := Aside0.mk (blk_below (g := gb647) (o := .cells #[.bool t643, .string t644, .string t645] 27 (0, 0)) (by (with_reducible repeat (first | refine blk_drewN ?_ _ | refine blk_drew ?_ | refine blk_alloc ?_ _)); refine zP (cs := #[.bool t643, .string t644, .string (⟨#[]⟩ : ByteArray)]) ?_ 2 _; (with_reducible repeat (first | refine blk_drewN ?_ _ | refine blk_drew ?_ | refine blk_alloc ?_ _)); refine zP (cs := #[.bool t643, .string (⟨#[]⟩ : ByteArray), .string (⟨#[]⟩ : ByteArray)]) ?_ 1 _; (with_reducible repeat (first | refine blk_drewN ?_ _ | refine blk_drew ?_ | refine blk_alloc ?_ _)); refine zP (cs := #[.bool false, .string (⟨#[]⟩ : ByteArray), .string (⟨#[]⟩ : ByteArray)]) ?_ 0 _; (with_reducible repeat (first | refine blk_drewN ?_ _ | refine blk_drew ?_ | refine blk_alloc ?_ _)); exact BK647.out) hb); replace HB := zS HB hb; (try clear hb)))
        (try simp only [Act.put, List.setIfInBounds_toArray, List.set_cons_zero, List.set_cons_succ])
        go_cut [81] (fun v81 wc => ∃ (kq : Nat) (x81_40 : Bool), v81 = .bool x81_40 ∧ Aside0 (gussetlaw03_RatOrder.j1 kq t631 t648 x81_40 t633 t634 t635 t638 t639 t640 t643 t644 t645 = some r) ∧ Aside0 (kq ≤ kj3) ∧ Aside0 (wc.heap[gb624]? = some (.cells #[.bool a0_0, .string a0_1, .string a0_2] 27 (0, 0))) ∧ Aside0 (wc.heap[gb625]? = some (.cells #[.bool a1_0, .string a1_1, .string a1_2] 27 (0, 0))) ∧ Aside0 (wc.heap[gb626]? = some (.cells #[.bool a2_0, .string a2_1, .string a2_2] 27 (0, 0))) ∧ Aside0 (wc.heap[gb637]? = some (.cells #[.bool t633, .string t634, .string t635] 27 (0, 0))) ∧ Aside0 (wc.heap[gb642]? = some (.cells #[.bool t638, .string t639, .string t640] 27 (0, 0))) ∧ Aside0 (wc.heap[gb647]? = some (.cells #[.bool t643, .string t644, .string t645] 27 (0, 0))) ∧ Aside0 (Below w.heap.size w wc))
        case first =>
          have H := HC41.out
          clear HC41
          by_cases c77 : t632 = 0
          · rw [if_pos c77] at H
            have c77b0 : (t632 == 0) = true := beq_iff_eq.mpr c77
            have c77b1 : (t632 != 0) = false := bne_eq_false_iff_eq.mpr c77
            clear c77
            (first | rw [c77b0] | (simp only [i64_w, i32_w]; rw [c77b0]) | skip)
            by_cases c78 : t636 = 0
            · rw [if_pos c78] at H
              have c78b0 : (t636 == 0) = true := beq_iff_eq.mpr c78
              have c78b1 : (t636 != 0) = false := bne_eq_false_iff_eq.mpr c78
              clear c78
              by_cases c79 : t641 = 0
              · rw [if_pos c79] at H
                have c79b0 : (t641 == 0) = true := beq_iff_eq.mpr c79
                have c79b1 : (t641 != 0) = false := bne_eq_false_iff_eq.mpr c79
                clear c79
                by_cases c80 : t646 = 0
                · rw [if_pos c80] at H
                  have c80b0 : (t646 == 0) = true := beq_iff_eq.mpr c80
                  have c80b1 : (t646 != 0) = false := bne_eq_false_iff_eq.mpr c80
                  clear c80
                  have H' := Aside0.mk H
                  clear H
                  go_wp2
                  go_meet
                  case rel => exact ⟨_, ((t649 != 0)), zR, H', ⟨by have := HJ3.out; first | omega | exact Nat.le_refl _⟩, zK BK624, zK BK625, zK BK626, zK BK637, zK BK642, zK BK647, ⟨zT HB⟩⟩
                · rw [if_neg c80] at H
                  have c80b0 : (t646 == 0) = false := beq_eq_false_iff_ne.mpr c80
                  have c80b1 : (t646 != 0) = true := bne_iff_ne.mpr c80
                  have H' := Aside0.mk H
                  clear H
                  go_wp2
                  go_meet
                  case rel => exact ⟨_, (true), zR, H', ⟨by have := HJ3.out; first | omega | exact Nat.le_refl _⟩, zK BK624, zK BK625, zK BK626, zK BK637, zK BK642, zK BK647, ⟨zT HB⟩⟩
              · rw [if_neg c79] at H
                have c79b0 : (t641 == 0) = false := beq_eq_false_iff_ne.mpr c79
                have c79b1 : (t641 != 0) = true := bne_iff_ne.mpr c79
                have H' := Aside0.mk H
                clear H
                go_wp2
                go_meet
                case rel => exact ⟨_, (true), zR, H', ⟨by have := HJ3.out; first | omega | exact Nat.le_refl _⟩, zK BK624, zK BK625, zK BK626, zK BK637, zK BK642, zK BK647, ⟨zT HB⟩⟩
            · rw [if_neg c78] at H
              have c78b0 : (t636 == 0) = false := beq_eq_false_iff_ne.mpr c78
              have c78b1 : (t636 != 0) = true := bne_iff_ne.mpr c78
              have H' := Aside0.mk H
              clear H
              go_wp2
              go_meet
              case rel => exact ⟨_, (true), zR, H', ⟨by have := HJ3.out; first | omega | exact Nat.le_refl _⟩, zK BK624, zK BK625, zK BK626, zK BK637, zK BK642, zK BK647, ⟨zT HB⟩⟩
          · rw [if_neg c77] at H
            have c77b0 : (t632 == 0) = false := beq_eq_false_iff_ne.mpr c77
            have c77b1 : (t632 != 0) = true := bne_iff_ne.mpr c77
            (first | rw [c77b0] | (simp only [i64_w, i32_w]; rw [c77b0]) | skip)
            have H' := Aside0.mk H
            clear H
            go_wp2
            go_meet
            case rel => exact ⟨_, (true), zR, H', ⟨by have := HJ3.out; first | omega | exact Nat.le_refl _⟩, zK BK624, zK BK625, zK BK626, zK BK637, zK BK642, zK BK647, ⟨zT HB⟩⟩
        case rest =>
          clear HC41
          try clear c1; try clear c2; try clear p2; try clear c3; try clear c4; try clear c5; try clear c6; try clear c7; try clear c8; try clear c9; try clear c11; try clear c13; try clear c14; try clear c17; try clear c22; try clear c23; try clear c26; try clear c28; try clear c29; try clear c30; try clear c33; try clear c35; try clear c36; try clear c37; try clear c42; try clear c43; try clear c45; try clear c52; try clear c53; try clear c54; try clear c60; try clear c61; try clear c62; try clear c63; try clear c69; try clear c70; try clear c71; try clear c72; try clear c73; try clear c77; try clear c77b0; try clear c77b1; try clear c78; try clear c78b0; try clear c78b1; try clear c79; try clear c79b0; try clear c79b1; try clear c80; try clear c80b0; try clear c80b1; try clear hcz15_0; try clear hcz15_1; try clear hcz15_2; try clear hcz18_0; try clear hcz18_1; try clear hcz18_2; try clear hcz20_0; try clear hcz20_1; try clear hcz20_2; try clear hcz24_0; try clear hcz24_1; try clear hcz24_2; try clear hcz27_0; try clear hcz27_1; try clear hcz27_2; try clear hcz31_0; try clear hcz31_1; try clear hcz31_2; try clear hcz44_0; try clear hcz44_1; try clear hcz44_2; try clear hcz46_0; try clear hcz46_1; try clear hcz46_2; try clear hcz48_0; try clear hcz48_1; try clear hcz48_2; try clear hcz49_0; try clear hcz49_1; try clear hcz49_2; try clear hcz55_0; try clear hcz55_1; try clear hcz55_2; try clear hcz56_0; try clear hcz56_1; try clear hcz56_2; try clear hcz57_0; try clear hcz57_1; try clear hcz57_2; try clear hcz64_0; try clear hcz64_1; try clear hcz64_2; try clear hcz65_0; try clear hcz65_1; try clear hcz65_2; try clear hcz66_0; try clear hcz66_1; try clear hcz66_2; try clear hcz74_0; try clear hcz74_1; try clear hcz74_2; try clear hcz75_0; try clear hcz75_1; try clear hcz75_2; try clear hfz15_0; try clear hfz15_1; try clear hfz15_2; try clear hfz18_0; try clear hfz18_1; try clear hfz18_2; try clear hfz20_0; try clear hfz20_1; try clear hfz20_2; try clear hfz24_0; try clear hfz24_1; try clear hfz24_2; try clear hfz27_0; try clear hfz27_1; try clear hfz27_2; try clear hfz31_0; try clear hfz31_1; try clear hfz31_2; try clear hfz44_0; try clear hfz44_1; try clear hfz44_2; try clear hfz46_0; try clear hfz46_1; try clear hfz46_2; try clear hfz48_0; try clear hfz48_1; try clear hfz48_2; try clear hfz49_0; try clear hfz49_1; try clear hfz49_2; try clear hfz55_0; try clear hfz55_1; try clear hfz55_2; try clear hfz56_0; try clear hfz56_1; try clear hfz56_2; try clear hfz57_0; try clear hfz57_1; try clear hfz57_2; try clear hfz64_0; try clear hfz64_1; try clear hfz64_2; try clear hfz65_0; try clear hfz65_1; try clear hfz65_2; try clear hfz66_0; try clear hfz66_1; try clear hfz66_2; try clear hfz74_0; try clear hfz74_1; try clear hfz74_2; try clear hfz75_0; try clear hfz75_1; try clear hfz75_2; try clear p2
          obtain ⟨kq, x81_40, rfl, HA, HJ40, BK624, BK625, BK626, BK637, BK642, BK647, HB⟩ := hcut
          cases kq with
          | zero => exact absurd HA.out (by simp [gussetlaw03_RatOrder.j1])
          | succ kj40 =>
            have H := HA.out
            clear HA
            simp only [gussetlaw03_RatOrder.j1] at H
            by_cases c81 : x81_40 = true
            · subst c81
              have H1 : ((gussetlaw03_live.f kj40).bind fun t650 => (some t650)) = some r := by rw [if_pos rfl] at H; exact H
              clear H
              have H := H1
              clear H1
              replace H := Option.bind_eq_some_iff.mp H
              obtain ⟨t650, A820, H⟩ := H
              replace H : (some t650) = some r := H
              have A82 := Aside0.mk A820
              clear A820
              obtain rfl := Option.some.inj H
              go_wp2_with (first | ((with_reducible refine gate_callee (f := 13) rfl ?_); refine zC Tryz.func13 (by kernel_rfl) #[] ?_; (with_reducible refine (gussetlaw03_live.calls kj40  t650 _ A82.out).mono ?_); rintro e w83 ⟨rfl, hb⟩; refine ⟨_, rfl, ?_⟩; replace BK624 := zB BK624 hb; replace BK625 := zB BK625 hb; replace BK626 := zB BK626 hb; replace BK637 := zB BK637 hb; replace BK642 := zB BK642 hb; replace BK647 := zB BK647 hb; replace HB := zS HB hb; (try clear hb)))
              go_ret
              exact ⟨by first | rfl | (simp [errW_none, errW_some] <;> rfl) | (simp [*, errW_none, errW_some] <;> rfl), zT HB⟩
            · replace c81 := Bool.eq_false_iff.mpr c81
              subst c81
              have H1 : ((rat_Sign.f kj40 t633 t634 t635).bind fun bt651 => ((rat_Cmp.f kj40 t638 t639 t640 t643 t644 t645).bind fun bt653 => (if t631 = bt651.1 then (if bt651.2 = 0 then (if bt653.1 = (wrap64 (t631 * t648)) then (if bt653.2 = 0 then ((gussetlaw03_live.f kj40).bind fun t655 => (some t655)) else (none)) else (none)) else (none)) else (none)))) = some r := by rw [if_neg (show ¬ (false = true) by decide)] at H; exact H
              clear H
              have H := H1
              clear H1
              replace H := Option.bind_eq_some_iff.mp H
              obtain ⟨⟨t651, t652⟩, A840, H⟩ := H
              replace H : ((rat_Cmp.f kj40 t638 t639 t640 t643 t644 t645).bind fun bt653 => (if t631 = t651 then (if t652 = 0 then (if bt653.1 = (wrap64 (t631 * t648)) then (if bt653.2 = 0 then ((gussetlaw03_live.f kj40).bind fun t655 => (some t655)) else (none)) else (none)) else (none)) else (none))) = some r := H
              have A84 := Aside0.mk A840
              clear A840
              replace H := Option.bind_eq_some_iff.mp H
              obtain ⟨⟨t653, t654⟩, A850, H⟩ := H
              replace H : (if t631 = t651 then (if t652 = 0 then (if t653 = (wrap64 (t631 * t648)) then (if t654 = 0 then ((gussetlaw03_live.f kj40).bind fun t655 => (some t655)) else (none)) else (none)) else (none)) else (none)) = some r := H
              have A85 := Aside0.mk A850
              clear A850
              by_cases c86 : t631 = t651
              · rw [if_pos c86] at H
                have c86b0 : (t631 == t651) = true := beq_iff_eq.mpr c86
                have c86b1 : (t631 != t651) = false := bne_eq_false_iff_eq.mpr c86
                clear c86
                by_cases c87 : t652 = 0
                · rw [if_pos c87] at H
                  have c87b0 : (t652 == 0) = true := beq_iff_eq.mpr c87
                  have c87b1 : (t652 != 0) = false := bne_eq_false_iff_eq.mpr c87
                  clear c87
                  by_cases c88 : t653 = (wrap64 (t631 * t648))
                  · rw [if_pos c88] at H
                    have c88b0 : (t653 == (wrap64 (t631 * t648))) = true := beq_iff_eq.mpr c88
                    have c88b1 : (t653 != (wrap64 (t631 * t648))) = false := bne_eq_false_iff_eq.mpr c88
                    clear c88
                    by_cases c89 : t654 = 0
                    · rw [if_pos c89] at H
                      have c89b0 : (t654 == 0) = true := beq_iff_eq.mpr c89
                      have c89b1 : (t654 != 0) = false := bne_eq_false_iff_eq.mpr c89
                      clear c89
                      replace H := Option.bind_eq_some_iff.mp H
                      obtain ⟨t655, A900, H⟩ := H
                      replace H : (some t655) = some r := H
                      have A90 := Aside0.mk A900
                      clear A900
                      obtain rfl := Option.some.inj H
                      have hnb91 := NB637_624.out; have hnc91 := NB624_637.out; have hnb92 := NB637_625.out; have hnc92 := NB625_637.out; have hnb93 := NB637_626.out; have hnc93 := NB626_637.out; have hnb94 := NB637_642.out; have hnc94 := NB642_637.out; have hnb95 := NB637_647.out; have hnc95 := NB647_637.out; obtain ⟨hcz96_0, hcz96_1, hcz96_2, hfz96_0, hfz96_1, hfz96_2⟩ := z3 BK637
                      go_wp2_with (first | ((with_reducible refine gate_callee (f := 37) rfl ?_); refine zC Tryz.func37 (by kernel_rfl) #[.agg #[.bool t633, .string t634, .string t635]] ?_; (with_reducible refine (rat_Sign.calls kj40 t633 t634 t635 t651 t652 _ A84.out).mono ?_); rintro e w97 ⟨rfl, hb⟩; refine ⟨_, rfl, ?_⟩; replace BK624 := zB BK624 hb; replace BK625 := zB BK625 hb; replace BK626 := zB BK626 hb; replace BK637 := zB BK637 hb; replace BK642 := zB BK642 hb; replace BK647 := zB BK647 hb; replace HB := zS HB hb; (try clear hb); have hnb98 := NB642_624.out; have hnc98 := NB624_642.out; have hnb99 := NB642_625.out; have hnc99 := NB625_642.out; have hnb100 := NB642_626.out; have hnc100 := NB626_642.out; have hnb101 := NB642_647.out; have hnc101 := NB647_642.out; obtain ⟨hcz102_0, hcz102_1, hcz102_2, hfz102_0, hfz102_1, hfz102_2⟩ := z3 BK642; have hnb103 := NB647_624.out; have hnc103 := NB624_647.out; have hnb104 := NB647_625.out; have hnc104 := NB625_647.out; have hnb105 := NB647_626.out; have hnc105 := NB626_647.out; obtain ⟨hcz106_0, hcz106_1, hcz106_2, hfz106_0, hfz106_1, hfz106_2⟩ := z3 BK647) | ((with_reducible refine gate_callee (f := 35) rfl ?_); refine zC Tryz.func35 (by kernel_rfl) #[.agg #[.bool t638, .string t639, .string t640], .agg #[.bool t643, .string t644, .string t645]] ?_; (with_reducible refine (rat_Cmp.calls kj40 t638 t639 t640 t643 t644 t645 t653 t654 _ A85.out).mono ?_); rintro e w107 ⟨rfl, hb⟩; refine ⟨_, rfl, ?_⟩; replace BK624 := zB BK624 hb; replace BK625 := zB BK625 hb; replace BK626 := zB BK626 hb; replace BK637 := zB BK637 hb; replace BK642 := zB BK642 hb; replace BK647 := zB BK647 hb; replace HB := zS HB hb; (try clear hb)) | (go_at_call 13; (with_reducible refine (gussetlaw03_live.calls kj40  t655 _ A90.out).mono ?_); rintro e w108 ⟨rfl, hb⟩; replace BK624 := zB BK624 hb; replace BK625 := zB BK625 hb; replace BK626 := zB BK626 hb; replace BK637 := zB BK637 hb; replace BK642 := zB BK642 hb; replace BK647 := zB BK647 hb; replace HB := zS HB hb; (try clear hb)))
                      go_ret
                      exact ⟨by first | rfl | (simp [errW_none, errW_some] <;> rfl) | (simp [*, errW_none, errW_some] <;> rfl), zT HB⟩
                    · rw [if_neg c89] at H
                      exact absurd H (by simp)
                  · rw [if_neg c88] at H
                    exact absurd H (by simp)
                · rw [if_neg c87] at H
                  exact absurd H (by simp)
              · rw [if_neg c86] at H
                exact absurd H (by simp)

end Go.Proofs.YtoijlbcbbblbfaaGreatDoorH.R
