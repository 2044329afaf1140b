import Derived.Test.YtoijlbcbbblbfaaGreatDoorYG0x0
import Derived.Test.YtoijlbcbbblbfaaGreatDoorYG0x1
-- printed by hp.py
namespace Go.Proofs.YtoijlbcbbblbfaaGreatDoorH.R
open Go.RowKit Go.Proofs.YtoijlbcbbblbfaaGreatDoorH.Z Go.Proofs.YtoijlbcbbblbfaaGreatDoorW.PrintWords Go.Proofs.YtoijlbcbbblbfaaGreatDoorW.PrintLast Go.Proofs.YtoijlbcbbblbfaaGreatDoorW.PrintMore
attribute [local go_sem] max2_int min2_int max_two min_two max_three min_three max_four min_four   -- for this text's walks alone
set_option linter.unusedVariables false
set_option linter.unusedSimpArgs false

attribute [local go_sem high] eqA27
/-! ### gussetlaw03_RatProducts: function 6 -/
def gussetlaw03_RatProducts.j0 : Nat → Int → Bool → Bool → ByteArray → ByteArray → Bool → ByteArray → ByteArray → Bool → ByteArray → ByteArray → Option (Bool)
  | 0, _, _, _, _, _, _, _, _, _, _, _ => none
  | k + 1, x8, x34, x444000, x444001, x444002, x445000, x445001, x445002, x457000, x457001, x457002 => if x34 = true then (none) else ((gussetref03_Sign.f x445000 x445001 x445002).bind fun t460 => (if t460 = 0 then (if x8 = 3 then (if ((!x457000 && (x457001.toList == ([] : List UInt8))) && (x457002.toList == ([] : List UInt8))) = true then ((gussetlaw03_live.f k).bind fun t461 => (some t461)) else (none)) else (none)) else (if x8 = 0 then ((gussetref03_Over.f x444000 x444001 x444002 x445000 x445001 x445002).bind fun bt462 => (if ((x457000 == bt462.1 && (x457001.toList == bt462.2.1.toList)) && (x457002.toList == bt462.2.2.toList)) = true then ((gussetlaw03_live.f k).bind fun t465 => (some t465)) else (none))) else (none))))
def gussetlaw03_RatProducts.f (k : Nat) (a0_0 : Bool) (a0_1 : ByteArray) (a0_2 : ByteArray) (a1_0 : Bool) (a1_1 : ByteArray) (a1_2 : ByteArray) : Option (Bool) := (gussetlaw03_fine.f k a0_0 a0_1 a0_2 a1_0 a1_1 a1_2).bind fun t445 => (if t445 = true then ((rat_Mul.f k a0_0 a0_1 a0_2 a1_0 a1_1 a1_2).bind fun bt447 => ((rat_Div.f k a0_0 a0_1 a0_2 a1_0 a1_1 a1_2).bind fun bt452 => (if bt447.2.2.2 = 0 then ((gussetref03_Times.f k a0_0 a0_1 a0_2 a1_0 a1_1 a1_2).bind fun bt457 => (gussetlaw03_RatProducts.j0 k bt452.2.2.2 ((!(bt447.1 == bt457.1) || (!(bt447.2.1.toList == bt457.2.1.toList))) || (!(bt447.2.2.1.toList == bt457.2.2.toList))) a0_0 a0_1 a0_2 a1_0 a1_1 a1_2 bt452.1 bt452.2.1 bt452.2.2.1)) else (gussetlaw03_RatProducts.j0 k bt452.2.2.2 true a0_0 a0_1 a0_2 a1_0 a1_1 a1_2 bt452.1 bt452.2.1 bt452.2.2.1)))) else ((gussetlaw03_live.f k).bind fun t446 => (some t446)))
def gussetlaw03_RatProducts.T5 : Bool × List (List Nat × List Nat) := (true, [([], []), ([0], [0]), ([1], [1]), ([2], [2]), ([2], [2]), ([2], [2]), ([4, 5, 2, 2], [2, 4, 5]), ([3, 6, 2], [2, 3, 6]), ([2, 7], [2, 7])])
def gussetlaw03_RatProducts.B5 : List Nat := [0, 1, 3, 7, 7, 7, 55, 127, 255]
theorem gussetlaw03_RatProducts.tab5 : rtab .any (opsOf Tryz.f6 5) = gussetlaw03_RatProducts.T5 := by kernel_rfl
theorem gussetlaw03_RatProducts.bits5 : waitsOk gussetlaw03_RatProducts.T5.2 gussetlaw03_RatProducts.B5 = true := by kernel_rfl
def gussetlaw03_RatProducts.T9 : Bool × List (List Nat × List Nat) := (true, [([], []), ([0], [0]), ([1], [1]), ([2], [2]), ([2], [2]), ([2], [2]), ([4, 5, 2, 2], [2, 4, 5]), ([3, 6, 2], [2, 3, 6]), ([2, 7], [2, 7]), ([8, 6], [8]), ([9, 9], [9]), ([9, 10], [9, 10]), ([11, 10, 0, 1, 2, 3, 4, 5, 6, 7, 8, 9, 10, 11], [11])])
def gussetlaw03_RatProducts.B9 : List Nat := [0, 1, 3, 7, 7, 7, 55, 127, 255, 511, 1023, 2047, 4095]
theorem gussetlaw03_RatProducts.tab9 : rtab .any (opsOf Tryz.f6 9) = gussetlaw03_RatProducts.T9 := by kernel_rfl
theorem gussetlaw03_RatProducts.bits9 : waitsOk gussetlaw03_RatProducts.T9.2 gussetlaw03_RatProducts.B9 = true := by kernel_rfl
set_option maxHeartbeats 8000000 in
set_option maxRecDepth 100000 in
theorem gussetlaw03_RatProducts.calls (k : Nat) (a0_0 : Bool) (a0_1 : ByteArray) (a0_2 : ByteArray) (a1_0 : Bool) (a1_1 : ByteArray) (a1_2 : ByteArray) (r : Bool) (w : World) (h : gussetlaw03_RatProducts.f k a0_0 a0_1 a0_2 a1_0 a1_1 a1_2 = some r) :
    Calls Tryz.prog 6 #[.agg #[.bool a0_0, .string a0_1, .string a0_2], .agg #[.bool a1_0, .string a1_1, .string a1_2]] w fun e w' => e = .returned (.bool r) ∧ Below w.heap.size w w' := by
  have hu27 := Tryz.underlying27
  have HB := Aside0.mk (Below.refl w.heap.size w)
  have H : ((gussetlaw03_fine.f k a0_0 a0_1 a0_2 a1_0 a1_1 a1_2).bind fun t445 => (if t445 = true then ((rat_Mul.f k a0_0 a0_1 a0_2 a1_0 a1_1 a1_2).bind fun bt447 => ((rat_Div.f k a0_0 a0_1 a0_2 a1_0 a1_1 a1_2).bind fun bt452 => (if bt447.2.2.2 = 0 then ((gussetref03_Times.f k a0_0 a0_1 a0_2 a1_0 a1_1 a1_2).bind fun bt457 => (gussetlaw03_RatProducts.j0 k bt452.2.2.2 ((!(bt447.1 == bt457.1) || (!(bt447.2.1.toList == bt457.2.1.toList))) || (!(bt447.2.2.1.toList == bt457.2.2.toList))) a0_0 a0_1 a0_2 a1_0 a1_1 a1_2 bt452.1 bt452.2.1 bt452.2.2.1)) else (gussetlaw03_RatProducts.j0 k bt452.2.2.2 true a0_0 a0_1 a0_2 a1_0 a1_1 a1_2 bt452.1 bt452.2.1 bt452.2.2.1)))) else ((gussetlaw03_live.f k).bind fun t446 => (some t446)))) = some r := h
  clear h
  replace H := Option.bind_eq_some_iff.mp H
  obtain ⟨t445, A30, H⟩ := H
  replace H : (if t445 = true then ((rat_Mul.f k a0_0 a0_1 a0_2 a1_0 a1_1 a1_2).bind fun bt447 => ((rat_Div.f k a0_0 a0_1 a0_2 a1_0 a1_1 a1_2).bind fun bt452 => (if bt447.2.2.2 = 0 then ((gussetref03_Times.f k a0_0 a0_1 a0_2 a1_0 a1_1 a1_2).bind fun bt457 => (gussetlaw03_RatProducts.j0 k bt452.2.2.2 ((!(bt447.1 == bt457.1) || (!(bt447.2.1.toList == bt457.2.1.toList))) || (!(bt447.2.2.1.toList == bt457.2.2.toList))) a0_0 a0_1 a0_2 a1_0 a1_1 a1_2 bt452.1 bt452.2.1 bt452.2.2.1)) else (gussetlaw03_RatProducts.j0 k bt452.2.2.2 true a0_0 a0_1 a0_2 a1_0 a1_1 a1_2 bt452.1 bt452.2.1 bt452.2.2.1)))) else ((gussetlaw03_live.f k).bind fun t446 => (some t446))) = some r := H
  have A3 := Aside0.mk A30
  clear A30
  by_cases c4 : t445 = true
  · subst c4
    have H1 : ((rat_Mul.f k a0_0 a0_1 a0_2 a1_0 a1_1 a1_2).bind fun bt447 => ((rat_Div.f k a0_0 a0_1 a0_2 a1_0 a1_1 a1_2).bind fun bt452 => (if bt447.2.2.2 = 0 then ((gussetref03_Times.f k a0_0 a0_1 a0_2 a1_0 a1_1 a1_2).bind fun bt457 => (gussetlaw03_RatProducts.j0 k bt452.2.2.2 ((!(bt447.1 == bt457.1) || (!(bt447.2.1.toList == bt457.2.1.toList))) || (!(bt447.2.2.1.toList == bt457.2.2.toList))) a0_0 a0_1 a0_2 a1_0 a1_1 a1_2 bt452.1 bt452.2.1 bt452.2.2.1)) else (gussetlaw03_RatProducts.j0 k bt452.2.2.2 true a0_0 a0_1 a0_2 a1_0 a1_1 a1_2 bt452.1 bt452.2.1 bt452.2.2.1)))) = some r := by rw [if_pos rfl] at H; exact H
    clear H
    have H := H1
    clear H1
    replace H := Option.bind_eq_some_iff.mp H
    obtain ⟨⟨t447, t448, t449, t450⟩, A50, H⟩ := H
    replace H : ((rat_Div.f k a0_0 a0_1 a0_2 a1_0 a1_1 a1_2).bind fun bt452 => (if t450 = 0 then ((gussetref03_Times.f k a0_0 a0_1 a0_2 a1_0 a1_1 a1_2).bind fun bt457 => (gussetlaw03_RatProducts.j0 k bt452.2.2.2 ((!(t447 == bt457.1) || (!(t448.toList == bt457.2.1.toList))) || (!(t449.toList == bt457.2.2.toList))) a0_0 a0_1 a0_2 a1_0 a1_1 a1_2 bt452.1 bt452.2.1 bt452.2.2.1)) else (gussetlaw03_RatProducts.j0 k bt452.2.2.2 true a0_0 a0_1 a0_2 a1_0 a1_1 a1_2 bt452.1 bt452.2.1 bt452.2.2.1))) = some r := H
    have A5 := Aside0.mk A50
    clear A50
    replace H := Option.bind_eq_some_iff.mp H
    obtain ⟨⟨t452, t453, t454, t455⟩, A60, H⟩ := H
    replace H : (if t450 = 0 then ((gussetref03_Times.f k a0_0 a0_1 a0_2 a1_0 a1_1 a1_2).bind fun bt457 => (gussetlaw03_RatProducts.j0 k t455 ((!(t447 == bt457.1) || (!(t448.toList == bt457.2.1.toList))) || (!(t449.toList == bt457.2.2.toList))) a0_0 a0_1 a0_2 a1_0 a1_1 a1_2 t452 t453 t454)) else (gussetlaw03_RatProducts.j0 k t455 true a0_0 a0_1 a0_2 a1_0 a1_1 a1_2 t452 t453 t454)) = some r := H
    have A6 := Aside0.mk A60
    clear A60
    have HC7 := Aside0.mk H
    clear H
    go_enter Tryz.func6, Tryz.ntmps6
    go_upto_region 5 with (first | ((with_reducible refine gate_dst (N := 2) rfl ?_); refine box_event ?hg (N := 2) ?hd (cs := #[.bool a0_0, .string a0_1, .string a0_2]) (t := 27) ?hr ?_; (case hd => rfl); (case hg => rfl); (case hr => first | (go_simp; done) | (go_simp; rfl)); intro gb443 hg w8 hbox hb; have BK443 := Aside0.mk (hbox); have GW443 := zG hg HB; have GE443 := zG hg HB; replace HB := zS HB hb; clear hb hbox hg) | ((with_reducible refine gate_dst (N := 3) rfl ?_); refine box_event ?hg (N := 3) ?hd (cs := #[.bool a1_0, .string a1_1, .string a1_2]) (t := 27) ?hr ?_; (case hd => rfl); (case hg => rfl); (case hr => first | (go_simp; done) | (go_simp; rfl)); intro gb444 hg w9 hbox hb; have BK444 := Aside0.mk (hbox); have GW444 := zG hg HB; have GE444 := zG hg HB; have NB443_444 := zN hg BK443; have NB444_443 := zM hg BK443; replace BK443 := zB BK443 hb; replace HB := zS HB hb; clear hb hbox hg; have hnb10 := NB443_444.out; have hnc10 := NB444_443.out; obtain ⟨hcz11_0, hcz11_1, hcz11_2, hfz11_0, hfz11_1, hfz11_2⟩ := z3 BK443; obtain ⟨hcz12_0, hcz12_1, hcz12_2, hfz12_0, hfz12_1, hfz12_2⟩ := z3 BK444) | ((with_reducible refine gate_callee (f := 27) rfl ?_); refine zC Tryz.func27 (by kernel_rfl) #[.agg #[.bool a0_0, .string a0_1, .string a0_2], .agg #[.bool a1_0, .string a1_1, .string a1_2]] ?_; (with_reducible refine (gussetlaw03_fine.calls k a0_0 a0_1 a0_2 a1_0 a1_1 a1_2 true _ A3.out).mono ?_); rintro e w13 ⟨rfl, hb⟩; refine ⟨_, rfl, ?_⟩; replace BK443 := zB BK443 hb; replace BK444 := zB BK444 hb; replace HB := zS HB hb; (try clear hb); obtain ⟨hcz14_0, hcz14_1, hcz14_2, hfz14_0, hfz14_1, hfz14_2⟩ := z3 BK443; obtain ⟨hcz15_0, hcz15_1, hcz15_2, hfz15_0, hfz15_1, hfz15_2⟩ := z3 BK444) | ((with_reducible refine gate_callee (f := 28) rfl ?_); refine zC Tryz.func28 (by kernel_rfl) #[.agg #[.bool a0_0, .string a0_1, .string a0_2], .agg #[.bool a1_0, .string a1_1, .string a1_2]] ?_; (with_reducible refine (rat_Mul.calls k a0_0 a0_1 a0_2 a1_0 a1_1 a1_2 t447 t448 t449 t450 _ A5.out).mono ?_); rintro e w16 ⟨rfl, hb⟩; refine ⟨_, rfl, ?_⟩; replace BK443 := zB BK443 hb; replace BK444 := zB BK444 hb; replace HB := zS HB hb; (try clear hb)) | ((with_reducible refine gate_dst (N := 5) rfl ?_); refine box_event ?hg (N := 5) ?hd (cs := #[.bool false, .string (⟨#[]⟩ : ByteArray), .string (⟨#[]⟩ : ByteArray)]) (t := 27) ?hr ?_; (case hd => rfl); (case hg => rfl); (case hr => first | (go_simp; done) | (go_simp; rfl)); intro gb451 hg w17 hbox hb; have BK451 := Aside0.mk (hbox); have GW451 := zG hg HB; have GE451 := zG hg HB; have NB443_451 := zN hg BK443; have NB451_443 := zM hg BK443; have NB444_451 := zN hg BK444; have NB451_444 := zM hg BK444; replace BK443 := zB BK443 hb; replace BK444 := zB BK444 hb; replace HB := zS HB hb; clear hb hbox hg; have hnb18 := NB451_443.out; have hnc18 := NB443_451.out; have hnb19 := NB451_444.out; have hnc19 := NB444_451.out; obtain ⟨hcz20_0, hcz20_1, hcz20_2, hfz20_0, hfz20_1, hfz20_2⟩ := z3 BK451; obtain ⟨hcz21_0, hcz21_1, hcz21_2, hfz21_0, hfz21_1, hfz21_2⟩ := z3 BK443; obtain ⟨hcz22_0, hcz22_1, hcz22_2, hfz22_0, hfz22_1, hfz22_2⟩ := z3 BK444) | ((with_reducible refine gate_callee (f := 29) rfl ?_); refine zC Tryz.func29 (by kernel_rfl) #[.agg #[.bool a0_0, .string a0_1, .string a0_2], .agg #[.bool a1_0, .string a1_1, .string a1_2]] ?_; (with_reducible refine (rat_Div.calls k a0_0 a0_1 a0_2 a1_0 a1_1 a1_2 t452 t453 t454 t455 _ A6.out).mono ?_); rintro e w23 ⟨rfl, hb⟩; refine ⟨_, rfl, ?_⟩; replace BK443 := Aside0.mk (blk_below (g := gb443) (o := .cells #[.bool a0_0, .string a0_1, .string a0_2] 27 (0, 0)) (by (with_reducible repeat (first | refine blk_drewN ?_ _ | refine blk_drew ?_ | refine blk_alloc ?_ _)); refine blk_far ?_ NB443_451.out _; (with_reducible repeat (first | refine blk_drewN ?_ _ | refine blk_drew ?_ | refine blk_alloc ?_ _)); refine blk_far ?_ NB443_451.out _; (with_reducible repeat (first | refine blk_drewN ?_ _ | refine blk_drew ?_ | refine blk_alloc ?_ _)); refine blk_far ?_ NB443_451.out _; (with_reducible repeat (first | refine blk_drewN ?_ _ | refine blk_drew ?_ | refine blk_alloc ?_ _)); exact BK443.out) hb); replace BK444 := Aside0.mk (blk_below (g := gb444) (o := .cells #[.bool a1_0, .string a1_1, .string a1_2] 27 (0, 0)) (by (with_reducible repeat (first | refine blk_drewN ?_ _ | refine blk_drew ?_ | refine blk_alloc ?_ _)); refine blk_far ?_ NB444_451.out _; (with_reducible repeat (first | refine blk_drewN ?_ _ | refine blk_drew ?_ | refine blk_alloc ?_ _)); refine blk_far ?_ NB444_451.out _; (with_reducible repeat (first | refine blk_drewN ?_ _ | refine blk_drew ?_ | refine blk_alloc ?_ _)); refine blk_far ?_ NB444_451.out _; (with_reducible repeat (first | refine blk_drewN ?_ _ | refine blk_drew ?_ | refine blk_alloc ?_ _)); exact BK444.out) hb); replace BK451 := Aside0.mk (blk_below (g := gb451) (o := .cells #[.bool t447, .string t448, .string t449] 27 (0, 0)) (by (with_reducible repeat (first | refine blk_drewN ?_ _ | refine blk_drew ?_ | refine blk_alloc ?_ _)); refine zP (cs := #[.bool t447, .string t448, .string (⟨#[]⟩ : ByteArray)]) ?_ 2 _; (with_reducible repeat (first | refine blk_drewN ?_ _ | refine blk_drew ?_ | refine blk_alloc ?_ _)); refine zP (cs := #[.bool t447, .string (⟨#[]⟩ : ByteArray), .string (⟨#[]⟩ : ByteArray)]) ?_ 1 _; (with_reducible repeat (first | refine blk_drewN ?_ _ | refine blk_drew ?_ | refine blk_alloc ?_ _)); refine zP (cs := #[.bool false, .string (⟨#[]⟩ : ByteArray), .string (⟨#[]⟩ : ByteArray)]) ?_ 0 _; (with_reducible repeat (first | refine blk_drewN ?_ _ | refine blk_drew ?_ | refine blk_alloc ?_ _)); exact BK451.out) hb); replace HB := zS HB hb; (try clear hb)) | ((with_reducible refine gate_dst (N := 7) rfl ?_); refine box_event ?hg (N := 7) ?hd (cs := #[.bool false, .string (⟨#[]⟩ : ByteArray), .string (⟨#[]⟩ : ByteArray)]) (t := 27) ?hr ?_; (case hd => rfl); (case hg => rfl); (case hr => first | (go_simp; done) | (go_simp; rfl)); intro gb456 hg w24 hbox hb; have BK456 := Aside0.mk (hbox); have GW456 := zG hg HB; have GE456 := zG hg HB; have NB443_456 := zN hg BK443; have NB456_443 := zM hg BK443; have NB444_456 := zN hg BK444; have NB456_444 := zM hg BK444; have NB451_456 := zN hg BK451; have NB456_451 := zM hg BK451; replace BK443 := zB BK443 hb; replace BK444 := zB BK444 hb; replace BK451 := zB BK451 hb; replace HB := zS HB hb; clear hb hbox hg; have hnb25 := NB456_443.out; have hnc25 := NB443_456.out; have hnb26 := NB456_444.out; have hnc26 := NB444_456.out; have hnb27 := NB456_451.out; have hnc27 := NB451_456.out; obtain ⟨hcz28_0, hcz28_1, hcz28_2, hfz28_0, hfz28_1, hfz28_2⟩ := z3 BK456))
    (try simp only [Act.put, List.setIfInBounds_toArray, List.set_cons_zero, List.set_cons_succ])
    go_cut [34] (fun v34 wc => ∃ (kq : Nat) (x34_6 : Bool), v34 = .bool x34_6 ∧ Aside0 (gussetlaw03_RatProducts.j0 kq t455 x34_6 a0_0 a0_1 a0_2 a1_0 a1_1 a1_2 t452 t453 t454 = some r) ∧ Aside0 (kq ≤ k) ∧ Aside0 (wc.heap[gb443]? = some (.cells #[.bool a0_0, .string a0_1, .string a0_2] 27 (0, 0))) ∧ Aside0 (wc.heap[gb444]? = some (.cells #[.bool a1_0, .string a1_1, .string a1_2] 27 (0, 0))) ∧ Aside0 (wc.heap[gb451]? = some (.cells #[.bool t447, .string t448, .string t449] 27 (0, 0))) ∧ Aside0 (wc.heap[gb456]? = some (.cells #[.bool t452, .string t453, .string t454] 27 (0, 0))) ∧ Aside0 (Below w.heap.size w wc))
    case first =>
      have H := HC7.out
      clear HC7
      by_cases c29 : t450 = 0
      · rw [if_pos c29] at H
        have c29b0 : (t450 == 0) = true := beq_iff_eq.mpr c29
        have c29b1 : (t450 != 0) = false := bne_eq_false_iff_eq.mpr c29
        clear c29
        (first | rw [c29b0] | (simp only [i64_w, i32_w]; rw [c29b0]) | skip)
        replace H := Option.bind_eq_some_iff.mp H
        obtain ⟨⟨t457, t458, t459⟩, A300, H⟩ := H
        replace H : (gussetlaw03_RatProducts.j0 k t455 ((!(t447 == t457) || (!(t448.toList == t458.toList))) || (!(t449.toList == t459.toList))) a0_0 a0_1 a0_2 a1_0 a1_1 a1_2 t452 t453 t454) = some r := H
        have A30 := Aside0.mk A300
        clear A300
        have H' := Aside0.mk H
        clear H
        try go_wp2
        have n0_ : Aside0 ((((w24.setCell ⟨gb456, 0, none⟩ (.bool t452)).setCell ⟨gb456, 1, none⟩ (.string t453)).setCell ⟨gb456, 2, none⟩ (.string t454)).heap[gb443]? = some (.cells #[.bool a0_0, .string a0_1, .string a0_2] 27 (0, 0))) := ⟨by (with_reducible repeat (first | refine blk_drewN ?_ _ | refine blk_drew ?_ | refine blk_alloc ?_ _)); refine blk_far ?_ NB443_456.out _; (with_reducible repeat (first | refine blk_drewN ?_ _ | refine blk_drew ?_ | refine blk_alloc ?_ _)); refine blk_far ?_ NB443_456.out _; (with_reducible repeat (first | refine blk_drewN ?_ _ | refine blk_drew ?_ | refine blk_alloc ?_ _)); refine blk_far ?_ NB443_456.out _; (with_reducible repeat (first | refine blk_drewN ?_ _ | refine blk_drew ?_ | refine blk_alloc ?_ _)); exact BK443.out⟩; have n1_ : Aside0 ((((w24.setCell ⟨gb456, 0, none⟩ (.bool t452)).setCell ⟨gb456, 1, none⟩ (.string t453)).setCell ⟨gb456, 2, none⟩ (.string t454)).heap[gb444]? = some (.cells #[.bool a1_0, .string a1_1, .string a1_2] 27 (0, 0))) := ⟨by (with_reducible repeat (first | refine blk_drewN ?_ _ | refine blk_drew ?_ | refine blk_alloc ?_ _)); refine blk_far ?_ NB444_456.out _; (with_reducible repeat (first | refine blk_drewN ?_ _ | refine blk_drew ?_ | refine blk_alloc ?_ _)); refine blk_far ?_ NB444_456.out _; (with_reducible repeat (first | refine blk_drewN ?_ _ | refine blk_drew ?_ | refine blk_alloc ?_ _)); refine blk_far ?_ NB444_456.out _; (with_reducible repeat (first | refine blk_drewN ?_ _ | refine blk_drew ?_ | refine blk_alloc ?_ _)); exact BK444.out⟩; have n2_ : Aside0 ((((w24.setCell ⟨gb456, 0, none⟩ (.bool t452)).setCell ⟨gb456, 1, none⟩ (.string t453)).setCell ⟨gb456, 2, none⟩ (.string t454)).heap[gb451]? = some (.cells #[.bool t447, .string t448, .string t449] 27 (0, 0))) := ⟨by (with_reducible repeat (first | refine blk_drewN ?_ _ | refine blk_drew ?_ | refine blk_alloc ?_ _)); refine blk_far ?_ NB451_456.out _; (with_reducible repeat (first | refine blk_drewN ?_ _ | refine blk_drew ?_ | refine blk_alloc ?_ _)); refine blk_far ?_ NB451_456.out _; (with_reducible repeat (first | refine blk_drewN ?_ _ | refine blk_drew ?_ | refine blk_alloc ?_ _)); refine blk_far ?_ NB451_456.out _; (with_reducible repeat (first | refine blk_drewN ?_ _ | refine blk_drew ?_ | refine blk_alloc ?_ _)); exact BK451.out⟩; have n3_ : Aside0 ((((w24.setCell ⟨gb456, 0, none⟩ (.bool t452)).setCell ⟨gb456, 1, none⟩ (.string t453)).setCell ⟨gb456, 2, none⟩ (.string t454)).heap[gb456]? = some (.cells #[.bool t452, .string t453, .string t454] 27 (0, 0))) := ⟨by (with_reducible repeat (first | refine blk_drewN ?_ _ | refine blk_drew ?_ | refine blk_alloc ?_ _)); refine zP (cs := #[.bool t452, .string t453, .string (⟨#[]⟩ : ByteArray)]) ?_ 2 _; (with_reducible repeat (first | refine blk_drewN ?_ _ | refine blk_drew ?_ | refine blk_alloc ?_ _)); refine zP (cs := #[.bool t452, .string (⟨#[]⟩ : ByteArray), .string (⟨#[]⟩ : ByteArray)]) ?_ 1 _; (with_reducible repeat (first | refine blk_drewN ?_ _ | refine blk_drew ?_ | refine blk_alloc ?_ _)); refine zP (cs := #[.bool false, .string (⟨#[]⟩ : ByteArray), .string (⟨#[]⟩ : ByteArray)]) ?_ 0 _; (with_reducible repeat (first | refine blk_drewN ?_ _ | refine blk_drew ?_ | refine blk_alloc ?_ _)); exact BK456.out⟩; have n4_ : Aside0 (Below w.heap.size w (((w24.setCell ⟨gb456, 0, none⟩ (.bool t452)).setCell ⟨gb456, 1, none⟩ (.string t453)).setCell ⟨gb456, 2, none⟩ (.string t454))) := ⟨zT HB⟩
        (try clear BK443)
        (try clear BK444)
        (try clear BK451)
        (try clear BK456)
        (try clear HB)
        generalize (((w24.setCell ⟨gb456, 0, none⟩ (.bool t452)).setCell ⟨gb456, 1, none⟩ (.string t453)).setCell ⟨gb456, 2, none⟩ (.string t454)) = w31 at n0_ n1_ n2_ n3_ n4_ ⊢
        have BK443 := n0_; have BK444 := n1_
        have BK451 := n2_; have BK456 := n3_
        have HB := n4_; clear n0_ n1_ n2_ n3_ n4_
        replace BK443 := zD BK443; replace BK444 := zD BK444; replace BK451 := zD BK451; replace BK456 := zD BK456; replace HB := zF HB
        refine start_ (n := 9) (S := fun w' => w'.cell? ⟨gb451, 0, none⟩ = some (.bool t447) ∧ w'.cell? ⟨gb451, 1, none⟩ = some (.string t448) ∧ w'.cell? ⟨gb451, 2, none⟩ = some (.string t449) ∧ w'.cell? ⟨gb443, 0, none⟩ = some (.bool a0_0) ∧ w'.cell? ⟨gb443, 1, none⟩ = some (.string a0_1) ∧ w'.cell? ⟨gb443, 2, none⟩ = some (.string a0_2) ∧ w'.cell? ⟨gb444, 0, none⟩ = some (.bool a1_0) ∧ w'.cell? ⟨gb444, 1, none⟩ = some (.string a1_1) ∧ w'.cell? ⟨gb444, 2, none⟩ = some (.string a1_2)) (ds := []) #[false, false, false, false, false, false, false, false, false] (by kernel_rfl) rfl rfl ⟨(blk_cell BK451.out 0).trans rfl, (blk_cell BK451.out 1).trans rfl, (blk_cell BK451.out 2).trans rfl, (blk_cell BK443.out 0).trans rfl, (blk_cell BK443.out 1).trans rfl, (blk_cell BK443.out 2).trans rfl, (blk_cell BK444.out 0).trans rfl, (blk_cell BK444.out 1).trans rfl, (blk_cell BK444.out 2).trans rfl⟩ (fun hHeld => ?_); refine with_tabW gussetlaw03_RatProducts.tab5 gussetlaw03_RatProducts.bits5 (fun HT_ HW_ => ?_)
        generalize w31.drew = w32 at BK443 BK444 BK451 BK456 HB hHeld ⊢
        refine zU (i := 0) (N := some 26) #[true, false, false, false, false, false, false, false, false] (any_of HT_.out (by kernel_rfl)) ?_
        refine zU (i := 1) (N := some 27) #[true, true, false, false, false, false, false, false, false] (any_of HT_.out (by kernel_rfl)) ?_
        refine zU (i := 2) (N := some 28) #[true, true, true, false, false, false, false, false, false] (any_of HT_.out (by kernel_rfl)) ?_
        refine zV (i := 3) (N := some 29) #[true, true, true, true, false, false, false, false, false] (take_ofW HT_.out HW_.out (by kernel_rfl)) hHeld ?_
        refine zV (i := 4) (N := some 30) #[true, true, true, true, true, false, false, false, false] (take_ofW HT_.out HW_.out (by kernel_rfl)) hHeld ?_
        refine zV (i := 5) (N := some 31) #[true, true, true, true, true, true, false, false, false] (take_ofW HT_.out HW_.out (by kernel_rfl)) hHeld ?_
        refine one_ (i := 6) (N := some 32) #[true, true, true, true, true, true, true, false, false] rfl rfl (one_of HT_.out (by kernel_rfl)) (by decide) (fun K hK => ?_)
        refine zX Tryz.func30 (by kernel_rfl) #[.agg #[.bool a0_0, .string a0_1, .string a0_2], .agg #[.bool a1_0, .string a1_1, .string a1_2]] ?_
        with_reducible refine (gussetref03_Times.calls k a0_0 a0_1 a0_2 a1_0 a1_1 a1_2 t457 t458 t459 _ A30.out).mono ?_
        rintro e w33 ⟨rfl, hb⟩; refine ⟨_, rfl, ?_⟩
        replace BK443 := zB BK443 hb; replace BK444 := zB BK444 hb; replace BK451 := zB BK451 hb; replace BK456 := zB BK456 hb; replace HB := zS HB hb
        (try clear hb)
        refine hK.out _ _ ⟨(blk_cell BK451.out 0).trans rfl, (blk_cell BK451.out 1).trans rfl, (blk_cell BK451.out 2).trans rfl, (blk_cell BK443.out 0).trans rfl, (blk_cell BK443.out 1).trans rfl, (blk_cell BK443.out 2).trans rfl, (blk_cell BK444.out 0).trans rfl, (blk_cell BK444.out 1).trans rfl, (blk_cell BK444.out 2).trans rfl⟩ (fun hHeld => ?_)
        clear hK K
        refine zW (some 32) ?_
        refine zU (i := 7) (N := some 33) #[true, true, true, true, true, true, true, true, false] (any_of HT_.out (by kernel_rfl)) ?_
        refine zU (i := 8) (N := some 34) #[true, true, true, true, true, true, true, true, true] (any_of HT_.out (by kernel_rfl)) ?_
        refine done_ (done_of HT_.out (by kernel_rfl)) ?_
        try go_wp2
        go_meet
        case rel => exact ⟨_, (((!(t447 == t457) || (!(t448.toList == t458.toList))) || (!(t449.toList == t459.toList)))), (by first | rfl | (simp; done) | (simp [zne]; done) | (simp [*]; done)), H', ⟨by first | omega | exact Nat.le_refl _⟩, ⟨by (with_reducible repeat (first | refine blk_drewN ?_ _ | refine blk_drew ?_ | refine blk_alloc ?_ _)); exact BK443.out⟩, ⟨by (with_reducible repeat (first | refine blk_drewN ?_ _ | refine blk_drew ?_ | refine blk_alloc ?_ _)); exact BK444.out⟩, ⟨by (with_reducible repeat (first | refine blk_drewN ?_ _ | refine blk_drew ?_ | refine blk_alloc ?_ _)); exact BK451.out⟩, ⟨by (with_reducible repeat (first | refine blk_drewN ?_ _ | refine blk_drew ?_ | refine blk_alloc ?_ _)); exact BK456.out⟩, ⟨zT HB⟩⟩
      · rw [if_neg c29] at H
        have c29b0 : (t450 == 0) = false := beq_eq_false_iff_ne.mpr c29
        have c29b1 : (t450 != 0) = true := bne_iff_ne.mpr c29
        (first | rw [c29b0] | (simp only [i64_w, i32_w]; rw [c29b0]) | skip)
        have H' := Aside0.mk H
        clear H
        try go_wp2
        have n0_ : Aside0 ((((w24.setCell ⟨gb456, 0, none⟩ (.bool t452)).setCell ⟨gb456, 1, none⟩ (.string t453)).setCell ⟨gb456, 2, none⟩ (.string t454)).heap[gb443]? = some (.cells #[.bool a0_0, .string a0_1, .string a0_2] 27 (0, 0))) := ⟨by (with_reducible repeat (first | refine blk_drewN ?_ _ | refine blk_drew ?_ | refine blk_alloc ?_ _)); refine blk_far ?_ NB443_456.out _; (with_reducible repeat (first | refine blk_drewN ?_ _ | refine blk_drew ?_ | refine blk_alloc ?_ _)); refine blk_far ?_ NB443_456.out _; (with_reducible repeat (first | refine blk_drewN ?_ _ | refine blk_drew ?_ | refine blk_alloc ?_ _)); refine blk_far ?_ NB443_456.out _; (with_reducible repeat (first | refine blk_drewN ?_ _ | refine blk_drew ?_ | refine blk_alloc ?_ _)); exact BK443.out⟩; have n1_ : Aside0 ((((w24.setCell ⟨gb456, 0, none⟩ (.bool t452)).setCell ⟨gb456, 1, none⟩ (.string t453)).setCell ⟨gb456, 2, none⟩ (.string t454)).heap[gb444]? = some (.cells #[.bool a1_0, .string a1_1, .string a1_2] 27 (0, 0))) := ⟨by (with_reducible repeat (first | refine blk_drewN ?_ _ | refine blk_drew ?_ | refine blk_alloc ?_ _)); refine blk_far ?_ NB444_456.out _; (with_reducible repeat (first | refine blk_drewN ?_ _ | refine blk_drew ?_ | refine blk_alloc ?_ _)); refine blk_far ?_ NB444_456.out _; (with_reducible repeat (first | refine blk_drewN ?_ _ | refine blk_drew ?_ | refine blk_alloc ?_ _)); refine blk_far ?_ NB444_456.out _; (with_reducible repeat (first | refine blk_drewN ?_ _ | refine blk_drew ?_ | refine blk_alloc ?_ _)); exact BK444.out⟩; have n2_ : Aside0 ((((w24.setCell ⟨gb456, 0, none⟩ (.bool t452)).setCell ⟨gb456, 1, none⟩ (.string t453)).setCell ⟨gb456, 2, none⟩ (.string t454)).heap[gb451]? = some (.cells #[.bool t447, .string t448, .string t449] 27 (0, 0))) := ⟨by (with_reducible repeat (first | refine blk_drewN ?_ _ | refine blk_drew ?_ | refine blk_alloc ?_ _)); refine blk_far ?_ NB451_456.out _; (with_reducible repeat (first | refine blk_drewN ?_ _ | refine blk_drew ?_ | refine blk_alloc ?_ _)); refine blk_far ?_ NB451_456.out _; (with_reducible repeat (first | refine blk_drewN ?_ _ | refine blk_drew ?_ | refine blk_alloc ?_ _)); refine blk_far ?_ NB451_456.out _; (with_reducible repeat (first | refine blk_drewN ?_ _ | refine blk_drew ?_ | refine blk_alloc ?_ _)); exact BK451.out⟩; have n3_ : Aside0 ((((w24.setCell ⟨gb456, 0, none⟩ (.bool t452)).setCell ⟨gb456, 1, none⟩ (.string t453)).setCell ⟨gb456, 2, none⟩ (.string t454)).heap[gb456]? = some (.cells #[.bool t452, .string t453, .string t454] 27 (0, 0))) := ⟨by (with_reducible repeat (first | refine blk_drewN ?_ _ | refine blk_drew ?_ | refine blk_alloc ?_ _)); refine zP (cs := #[.bool t452, .string t453, .string (⟨#[]⟩ : ByteArray)]) ?_ 2 _; (with_reducible repeat (first | refine blk_drewN ?_ _ | refine blk_drew ?_ | refine blk_alloc ?_ _)); refine zP (cs := #[.bool t452, .string (⟨#[]⟩ : ByteArray), .string (⟨#[]⟩ : ByteArray)]) ?_ 1 _; (with_reducible repeat (first | refine blk_drewN ?_ _ | refine blk_drew ?_ | refine blk_alloc ?_ _)); refine zP (cs := #[.bool false, .string (⟨#[]⟩ : ByteArray), .string (⟨#[]⟩ : ByteArray)]) ?_ 0 _; (with_reducible repeat (first | refine blk_drewN ?_ _ | refine blk_drew ?_ | refine blk_alloc ?_ _)); exact BK456.out⟩; have n4_ : Aside0 (Below w.heap.size w (((w24.setCell ⟨gb456, 0, none⟩ (.bool t452)).setCell ⟨gb456, 1, none⟩ (.string t453)).setCell ⟨gb456, 2, none⟩ (.string t454))) := ⟨zT HB⟩
        (try clear BK443)
        (try clear BK444)
        (try clear BK451)
        (try clear BK456)
        (try clear HB)
        generalize (((w24.setCell ⟨gb456, 0, none⟩ (.bool t452)).setCell ⟨gb456, 1, none⟩ (.string t453)).setCell ⟨gb456, 2, none⟩ (.string t454)) = w34 at n0_ n1_ n2_ n3_ n4_ ⊢
        have BK443 := n0_; have BK444 := n1_
        have BK451 := n2_; have BK456 := n3_
        have HB := n4_; clear n0_ n1_ n2_ n3_ n4_
        replace BK443 := zD BK443; replace BK444 := zD BK444; replace BK451 := zD BK451; replace BK456 := zD BK456; replace HB := zF HB
        refine start_ (n := 9) (S := fun w' => True) (ds := []) #[false, false, false, false, false, false, false, false, false] (by kernel_rfl) rfl rfl trivial (fun hHeld => ?_); refine with_tabW gussetlaw03_RatProducts.tab5 gussetlaw03_RatProducts.bits5 (fun HT_ HW_ => ?_)
        generalize w34.drew = w35 at BK443 BK444 BK451 BK456 HB hHeld ⊢
        refine zU (i := 0) (N := some 26) #[true, false, false, false, false, false, false, false, false] (any_of HT_.out (by kernel_rfl)) ?_
        refine zU (i := 1) (N := some 27) #[true, true, false, false, false, false, false, false, false] (any_of HT_.out (by kernel_rfl)) ?_
        refine zU (i := 2) (N := some 28) #[true, true, true, false, false, false, false, false, false] (any_of HT_.out (by kernel_rfl)) ?_
        refine pure_ (i := 3) (N := some 29) (v := undef) (a' := ?_) #[true, true, true, true, false, false, false, false, false] rfl rfl (any_of HT_.out (by kernel_rfl)) (fun _ _ _ h => h) (Or.inr ⟨by rfl, rfl⟩) ?_ ?_
        rotate_left
        · simp only [Act.put, List.setIfInBounds_toArray, List.set_cons_zero, List.set_cons_succ, i64_w, i32_w]
          rfl
        refine pure_ (i := 4) (N := some 30) (v := undef) (a' := ?_) #[true, true, true, true, true, false, false, false, false] rfl rfl (any_of HT_.out (by kernel_rfl)) (fun _ _ _ h => h) (Or.inr ⟨by rfl, rfl⟩) ?_ ?_
        rotate_left
        · simp only [Act.put, List.setIfInBounds_toArray, List.set_cons_zero, List.set_cons_succ, i64_w, i32_w]
          rfl
        refine pure_ (i := 5) (N := some 31) (v := undef) (a' := ?_) #[true, true, true, true, true, true, false, false, false] rfl rfl (any_of HT_.out (by kernel_rfl)) (fun _ _ _ h => h) (Or.inr ⟨by rfl, rfl⟩) ?_ ?_
        rotate_left
        · simp only [Act.put, List.setIfInBounds_toArray, List.set_cons_zero, List.set_cons_succ, i64_w, i32_w]
          rfl
        refine pure_ (i := 6) (N := some 32) (v := undef) (a' := ?_) #[true, true, true, true, true, true, true, false, false] rfl rfl (any_of HT_.out (by kernel_rfl)) (fun _ _ _ h => h) (Or.inr ⟨by rfl, rfl⟩) ?_ ?_
        rotate_left
        · simp only [Act.put, List.setIfInBounds_toArray, List.set_cons_zero, List.set_cons_succ, i64_w, i32_w]
          rfl
        refine pure_ (i := 7) (N := some 33) (v := undef) (a' := ?_) #[true, true, true, true, true, true, true, true, false] rfl rfl (any_of HT_.out (by kernel_rfl)) (fun _ _ _ h => h) (Or.inr ⟨by rfl, rfl⟩) ?_ ?_
        rotate_left
        · simp only [Act.put, List.setIfInBounds_toArray, List.set_cons_zero, List.set_cons_succ, i64_w, i32_w]
          rfl
        refine zU (i := 8) (N := some 34) #[true, true, true, true, true, true, true, true, true] (any_of HT_.out (by kernel_rfl)) ?_
        refine done_ (done_of HT_.out (by kernel_rfl)) ?_
        try go_wp2
        go_meet
        case rel => exact ⟨_, (true), (by first | rfl | (simp; done) | (simp [zne]; done) | (simp [*]; done)), H', ⟨by first | omega | exact Nat.le_refl _⟩, ⟨by (with_reducible repeat (first | refine blk_drewN ?_ _ | refine blk_drew ?_ | refine blk_alloc ?_ _)); exact BK443.out⟩, ⟨by (with_reducible repeat (first | refine blk_drewN ?_ _ | refine blk_drew ?_ | refine blk_alloc ?_ _)); exact BK444.out⟩, ⟨by (with_reducible repeat (first | refine blk_drewN ?_ _ | refine blk_drew ?_ | refine blk_alloc ?_ _)); exact BK451.out⟩, ⟨by (with_reducible repeat (first | refine blk_drewN ?_ _ | refine blk_drew ?_ | refine blk_alloc ?_ _)); exact BK456.out⟩, ⟨zT HB⟩⟩
    case rest =>
      clear HC7
      try clear c1
      try clear c2
      try clear p2
      try clear c3
      try clear c4
      try clear c6
      try clear c10
      try clear c18
      try clear c19
      try clear c25
      try clear c26
      try clear c27
      try clear c28
      try clear c29
      try clear c29b0
      try clear c29b1
      try clear c30
      try clear hcz11_0
      try clear hcz11_1
      try clear hcz11_2
      try clear hcz12_0
      try clear hcz12_1
      try clear hcz12_2
      try clear hcz14_0
      try clear hcz14_1
      try clear hcz14_2
      try clear hcz15_0
      try clear hcz15_1
      try clear hcz15_2
      try clear hcz20_0
      try clear hcz20_1
      try clear hcz20_2
      try clear hcz21_0
      try clear hcz21_1
      try clear hcz21_2
      try clear hcz22_0
      try clear hcz22_1
      try clear hcz22_2
      try clear hcz28_0
      try clear hcz28_1
      try clear hcz28_2
      try clear hfz11_0
      try clear hfz11_1
      try clear hfz11_2
      try clear hfz12_0
      try clear hfz12_1
      try clear hfz12_2
      try clear hfz14_0
      try clear hfz14_1
      try clear hfz14_2
      try clear hfz15_0
      try clear hfz15_1
      try clear hfz15_2
      try clear hfz20_0
      try clear hfz20_1
      try clear hfz20_2
      try clear hfz21_0
      try clear hfz21_1
      try clear hfz21_2
      try clear hfz22_0
      try clear hfz22_1
      try clear hfz22_2
      try clear hfz28_0
      try clear hfz28_1
      try clear hfz28_2
      obtain ⟨kq, x34_6, rfl, HA, HJ6, BK443, BK444, BK451, BK456, HB⟩ := hcut
      cases kq with
      | zero => exact absurd HA.out (by simp [gussetlaw03_RatProducts.j0])
      | succ kj6 =>
        have H := HA.out
        clear HA
        simp only [gussetlaw03_RatProducts.j0] at H
        by_cases c36 : x34_6 = true
        · subst c36
          have H1 : (none) = some r := by rw [if_pos rfl] at H; exact H
          clear H
          have H := H1
          clear H1
          exact absurd H (by simp)
        · replace c36 := Bool.eq_false_iff.mpr c36
          subst c36
          have H1 : ((gussetref03_Sign.f a1_0 a1_1 a1_2).bind fun t460 => (if t460 = 0 then (if t455 = 3 then (if ((!t452 && (t453.toList == ([] : List UInt8))) && (t454.toList == ([] : List UInt8))) = true then ((gussetlaw03_live.f kj6).bind fun t461 => (some t461)) else (none)) else (none)) else (if t455 = 0 then ((gussetref03_Over.f a0_0 a0_1 a0_2 a1_0 a1_1 a1_2).bind fun bt462 => (if ((t452 == bt462.1 && (t453.toList == bt462.2.1.toList)) && (t454.toList == bt462.2.2.toList)) = true then ((gussetlaw03_live.f kj6).bind fun t465 => (some t465)) else (none))) else (none)))) = some r := by rw [if_neg (show ¬ (false = true) by decide)] at H; exact H
          clear H
          have H := H1
          clear H1
          replace H := Option.bind_eq_some_iff.mp H
          obtain ⟨t460, A370, H⟩ := H
          replace H : (if t460 = 0 then (if t455 = 3 then (if ((!t452 && (t453.toList == ([] : List UInt8))) && (t454.toList == ([] : List UInt8))) = true then ((gussetlaw03_live.f kj6).bind fun t461 => (some t461)) else (none)) else (none)) else (if t455 = 0 then ((gussetref03_Over.f a0_0 a0_1 a0_2 a1_0 a1_1 a1_2).bind fun bt462 => (if ((t452 == bt462.1 && (t453.toList == bt462.2.1.toList)) && (t454.toList == bt462.2.2.toList)) = true then ((gussetlaw03_live.f kj6).bind fun t465 => (some t465)) else (none))) else (none))) = some r := H
          have A37 := Aside0.mk A370
          clear A370
          by_cases c38 : t460 = 0
          · rw [if_pos c38] at H
            have c38b0 : (t460 == 0) = true := beq_iff_eq.mpr c38
            have c38b1 : (t460 != 0) = false := bne_eq_false_iff_eq.mpr c38
            clear c38
            by_cases c39 : t455 = 3
            · rw [if_pos c39] at H
              have c39b0 : (t455 == 3) = true := beq_iff_eq.mpr c39
              have c39b1 : (t455 != 3) = false := bne_eq_false_iff_eq.mpr c39
              clear c39
              by_cases c40 : ((!t452 && (t453.toList == ([] : List UInt8))) && (t454.toList == ([] : List UInt8))) = true
              · rw [if_pos c40] at H
                have c40b0 : ((!t452 && (t453.toList == ([] : List UInt8))) && (t454.toList == ([] : List UInt8))) = true := c40
                have c40q : (((t452 = false ∧ t453.toList = ([] : List UInt8)) ∧ t454.toList = ([] : List UInt8))) = True := eq_true (by simpa using c40b0)
                clear c40
                replace H := Option.bind_eq_some_iff.mp H
                obtain ⟨t461, A410, H⟩ := H
                replace H : (some t461) = some r := H
                have A41 := Aside0.mk A410
                clear A410
                obtain rfl := Option.some.inj H
                have hnb42 := NB444_443.out; have hnc42 := NB443_444.out; have hnb43 := NB444_451.out; have hnc43 := NB451_444.out; have hnb44 := NB444_456.out; have hnc44 := NB456_444.out; obtain ⟨hcz45_0, hcz45_1, hcz45_2, hfz45_0, hfz45_1, hfz45_2⟩ := z3 BK444
                go_wp2_with (first | ((with_reducible refine gate_callee (f := 31) rfl ?_); refine zC Tryz.func31 (by kernel_rfl) #[.agg #[.bool a1_0, .string a1_1, .string a1_2]] ?_; (with_reducible refine (gussetref03_Sign.calls a1_0 a1_1 a1_2 t460 _ A37.out).mono ?_); rintro e w46 ⟨rfl, hb⟩; refine ⟨_, rfl, ?_⟩; replace BK443 := zB BK443 hb; replace BK444 := zB BK444 hb; replace BK451 := zB BK451 hb; replace BK456 := zB BK456 hb; replace HB := zS HB hb; (try clear hb); have hnb47 := NB456_443.out; have hnc47 := NB443_456.out; have hnb48 := NB456_451.out; have hnc48 := NB451_456.out; obtain ⟨hcz49_0, hcz49_1, hcz49_2, hfz49_0, hfz49_1, hfz49_2⟩ := z3 BK456) | (go_at_call 13; (with_reducible refine (gussetlaw03_live.calls kj6  t461 _ A41.out).mono ?_); rintro e w50 ⟨rfl, hb⟩; replace BK443 := zB BK443 hb; replace BK444 := zB BK444 hb; replace BK451 := zB BK451 hb; replace BK456 := zB BK456 hb; replace HB := zS HB hb; (try clear hb)))
                go_ret
                exact ⟨by first | rfl | (simp [errW_none, errW_some] <;> rfl) | (simp [*, errW_none, errW_some] <;> rfl), zT HB⟩
              · rw [if_neg c40] at H
                exact absurd H (by simp)
            · rw [if_neg c39] at H
              exact absurd H (by simp)
          · rw [if_neg c38] at H
            have c38b0 : (t460 == 0) = false := beq_eq_false_iff_ne.mpr c38
            have c38b1 : (t460 != 0) = true := bne_iff_ne.mpr c38
            by_cases c51 : t455 = 0
            · rw [if_pos c51] at H
              have c51b0 : (t455 == 0) = true := beq_iff_eq.mpr c51
              have c51b1 : (t455 != 0) = false := bne_eq_false_iff_eq.mpr c51
              clear c51
              replace H := Option.bind_eq_some_iff.mp H
              obtain ⟨⟨t462, t463, t464⟩, A520, H⟩ := H
              replace H : (if ((t452 == t462 && (t453.toList == t463.toList)) && (t454.toList == t464.toList)) = true then ((gussetlaw03_live.f kj6).bind fun t465 => (some t465)) else (none)) = some r := H
              have A52 := Aside0.mk A520
              clear A520
              by_cases c53 : ((t452 == t462 && (t453.toList == t463.toList)) && (t454.toList == t464.toList)) = true
              · rw [if_pos c53] at H
                have c53b0 : ((t452 == t462 && (t453.toList == t463.toList)) && (t454.toList == t464.toList)) = true := c53
                clear c53
                replace H := Option.bind_eq_some_iff.mp H
                obtain ⟨t465, A540, H⟩ := H
                replace H : (some t465) = some r := H
                have A54 := Aside0.mk A540
                clear A540
                obtain rfl := Option.some.inj H
                have hnb55 := NB444_443.out; have hnc55 := NB443_444.out; have hnb56 := NB444_451.out; have hnc56 := NB451_444.out; have hnb57 := NB444_456.out; have hnc57 := NB456_444.out; obtain ⟨hcz58_0, hcz58_1, hcz58_2, hfz58_0, hfz58_1, hfz58_2⟩ := z3 BK444
                try go_wp2_with (first | ((with_reducible refine gate_callee (f := 31) rfl ?_); refine zC Tryz.func31 (by kernel_rfl) #[.agg #[.bool a1_0, .string a1_1, .string a1_2]] ?_; (with_reducible refine (gussetref03_Sign.calls a1_0 a1_1 a1_2 t460 _ A37.out).mono ?_); rintro e w59 ⟨rfl, hb⟩; refine ⟨_, rfl, ?_⟩; replace BK443 := zB BK443 hb; replace BK444 := zB BK444 hb; replace BK451 := zB BK451 hb; replace BK456 := zB BK456 hb; replace HB := zS HB hb; (try clear hb)))
                replace BK443 := zD BK443; replace BK444 := zD BK444; replace BK451 := zD BK451; replace BK456 := zD BK456; replace HB := zF HB
                refine start_ (n := 13) (S := fun w' => w'.cell? ⟨gb456, 0, none⟩ = some (.bool t452) ∧ w'.cell? ⟨gb456, 1, none⟩ = some (.string t453) ∧ w'.cell? ⟨gb456, 2, none⟩ = some (.string t454) ∧ w'.cell? ⟨gb443, 0, none⟩ = some (.bool a0_0) ∧ w'.cell? ⟨gb443, 1, none⟩ = some (.string a0_1) ∧ w'.cell? ⟨gb443, 2, none⟩ = some (.string a0_2) ∧ w'.cell? ⟨gb444, 0, none⟩ = some (.bool a1_0) ∧ w'.cell? ⟨gb444, 1, none⟩ = some (.string a1_1) ∧ w'.cell? ⟨gb444, 2, none⟩ = some (.string a1_2)) (ds := []) #[false, false, false, false, false, false, false, false, false, false, false, false, false] (by kernel_rfl) rfl rfl ⟨(blk_cell BK456.out 0).trans rfl, (blk_cell BK456.out 1).trans rfl, (blk_cell BK456.out 2).trans rfl, (blk_cell BK443.out 0).trans rfl, (blk_cell BK443.out 1).trans rfl, (blk_cell BK443.out 2).trans rfl, (blk_cell BK444.out 0).trans rfl, (blk_cell BK444.out 1).trans rfl, (blk_cell BK444.out 2).trans rfl⟩ (fun hHeld => ?_); refine with_tabW gussetlaw03_RatProducts.tab9 gussetlaw03_RatProducts.bits9 (fun HT_ HW_ => ?_)
                generalize w59.drew = w60 at BK443 BK444 BK451 BK456 HB hHeld ⊢
                refine zU (i := 0) (N := some 48) #[true, false, false, false, false, false, false, false, false, false, false, false, false] (any_of HT_.out (by kernel_rfl)) ?_
                refine zU (i := 1) (N := some 49) #[true, true, false, false, false, false, false, false, false, false, false, false, false] (any_of HT_.out (by kernel_rfl)) ?_
                refine zU (i := 2) (N := some 50) #[true, true, true, false, false, false, false, false, false, false, false, false, false] (any_of HT_.out (by kernel_rfl)) ?_
                refine zV (i := 3) (N := some 51) #[true, true, true, true, false, false, false, false, false, false, false, false, false] (take_ofW HT_.out HW_.out (by kernel_rfl)) hHeld ?_
                refine zV (i := 4) (N := some 52) #[true, true, true, true, true, false, false, false, false, false, false, false, false] (take_ofW HT_.out HW_.out (by kernel_rfl)) hHeld ?_
                refine zV (i := 5) (N := some 53) #[true, true, true, true, true, true, false, false, false, false, false, false, false] (take_ofW HT_.out HW_.out (by kernel_rfl)) hHeld ?_
                refine one_ (i := 6) (N := some 54) #[true, true, true, true, true, true, true, false, false, false, false, false, false] rfl rfl (one_of HT_.out (by kernel_rfl)) (by decide) (fun K hK => ?_)
                refine zX Tryz.func32 (by kernel_rfl) #[.agg #[.bool a0_0, .string a0_1, .string a0_2], .agg #[.bool a1_0, .string a1_1, .string a1_2]] ?_
                with_reducible refine (gussetref03_Over.calls a0_0 a0_1 a0_2 a1_0 a1_1 a1_2 t462 t463 t464 _ A52.out).mono ?_
                rintro e w61 ⟨rfl, hb⟩; refine ⟨_, rfl, ?_⟩
                replace BK443 := zB BK443 hb; replace BK444 := zB BK444 hb; replace BK451 := zB BK451 hb; replace BK456 := zB BK456 hb; replace HB := zS HB hb
                (try clear hb)
                refine hK.out _ _ ⟨(blk_cell BK456.out 0).trans rfl, (blk_cell BK456.out 1).trans rfl, (blk_cell BK456.out 2).trans rfl, (blk_cell BK443.out 0).trans rfl, (blk_cell BK443.out 1).trans rfl, (blk_cell BK443.out 2).trans rfl, (blk_cell BK444.out 0).trans rfl, (blk_cell BK444.out 1).trans rfl, (blk_cell BK444.out 2).trans rfl⟩ (fun hHeld => ?_)
                clear hK K
                refine zW (some 54) ?_
                refine zU (i := 7) (N := some 55) #[true, true, true, true, true, true, true, true, false, false, false, false, false] (any_of HT_.out (by kernel_rfl)) ?_
                refine zU (i := 8) (N := some 56) #[true, true, true, true, true, true, true, true, true, false, false, false, false] (any_of HT_.out (by kernel_rfl)) ?_
                refine zU (i := 9) (N := some 57) #[true, true, true, true, true, true, true, true, true, true, false, false, false] (any_of HT_.out (by kernel_rfl)) ?_
                refine one_ (i := 10) (N := some 58) #[true, true, true, true, true, true, true, true, true, true, true, false, false] rfl rfl (one_of HT_.out (by kernel_rfl)) (by decide) (fun K hK => ?_)
                refine zX Tryz.func13 (by kernel_rfl) #[] ?_
                with_reducible refine (gussetlaw03_live.calls kj6  t465 _ A54.out).mono ?_
                rintro e w62 ⟨rfl, hb⟩; refine ⟨_, rfl, ?_⟩
                replace BK443 := zB BK443 hb; replace BK444 := zB BK444 hb; replace BK451 := zB BK451 hb; replace BK456 := zB BK456 hb; replace HB := zS HB hb
                (try clear hb)
                refine hK.out _ _ ⟨(blk_cell BK456.out 0).trans rfl, (blk_cell BK456.out 1).trans rfl, (blk_cell BK456.out 2).trans rfl, (blk_cell BK443.out 0).trans rfl, (blk_cell BK443.out 1).trans rfl, (blk_cell BK443.out 2).trans rfl, (blk_cell BK444.out 0).trans rfl, (blk_cell BK444.out 1).trans rfl, (blk_cell BK444.out 2).trans rfl⟩ (fun hHeld => ?_)
                clear hK K
                refine zW (some 58) ?_
                refine zU (i := 11) (N := some 59) #[true, true, true, true, true, true, true, true, true, true, true, true, false] (any_of HT_.out (by kernel_rfl)) ?_
                refine zU (i := 12) (N := some 4) #[true, true, true, true, true, true, true, true, true, true, true, true, true] (any_of HT_.out (by kernel_rfl)) ?_
                refine done_ (done_of HT_.out (by kernel_rfl)) ?_
                try go_wp2
                go_ret
                exact ⟨by first | rfl | (simp [errW_none, errW_some] <;> rfl) | (simp [*, errW_none, errW_some] <;> rfl), zT HB⟩
              · rw [if_neg c53] at H
                have c53b0 : ((t452 == t462 && (t453.toList == t463.toList)) && (t454.toList == t464.toList)) = false := by simpa using c53
                clear c53
                exact absurd H (by simp)
            · rw [if_neg c51] at H
              have c51b0 : (t455 == 0) = false := beq_eq_false_iff_ne.mpr c51
              have c51b1 : (t455 != 0) = true := bne_iff_ne.mpr c51
              exact absurd H (by simp)
  · replace c4 := Bool.eq_false_iff.mpr c4
    subst c4
    have H1 : ((gussetlaw03_live.f k).bind fun t446 => (some t446)) = some r := by rw [if_neg (show ¬ (false = true) by decide)] at H; exact H
    clear H
    have H := H1
    clear H1
    replace H := Option.bind_eq_some_iff.mp H
    obtain ⟨t446, A630, H⟩ := H
    replace H : (some t446) = some r := H
    have A63 := Aside0.mk A630
    clear A630
    obtain rfl := Option.some.inj H
    go_enter Tryz.func6, Tryz.ntmps6
    go_wp2_with (first | ((with_reducible refine gate_dst (N := 2) rfl ?_); refine box_event ?hg (N := 2) ?hd (cs := #[.bool a0_0, .string a0_1, .string a0_2]) (t := 27) ?hr ?_; (case hd => rfl); (case hg => rfl); (case hr => first | (go_simp; done) | (go_simp; rfl)); intro gb443 hg w64 hbox hb; have BK443 := Aside0.mk (hbox); have GW443 := zG hg HB; have GE443 := zG hg HB; replace HB := zS HB hb; clear hb hbox hg) | ((with_reducible refine gate_dst (N := 3) rfl ?_); refine box_event ?hg (N := 3) ?hd (cs := #[.bool a1_0, .string a1_1, .string a1_2]) (t := 27) ?hr ?_; (case hd => rfl); (case hg => rfl); (case hr => first | (go_simp; done) | (go_simp; rfl)); intro gb444 hg w65 hbox hb; have BK444 := Aside0.mk (hbox); have GW444 := zG hg HB; have GE444 := zG hg HB; have NB443_444 := zN hg BK443; have NB444_443 := zM hg BK443; replace BK443 := zB BK443 hb; replace HB := zS HB hb; clear hb hbox hg; have hnb66 := NB443_444.out; have hnc66 := NB444_443.out; obtain ⟨hcz67_0, hcz67_1, hcz67_2, hfz67_0, hfz67_1, hfz67_2⟩ := z3 BK443; obtain ⟨hcz68_0, hcz68_1, hcz68_2, hfz68_0, hfz68_1, hfz68_2⟩ := z3 BK444) | ((with_reducible refine gate_callee (f := 27) rfl ?_); refine zC Tryz.func27 (by kernel_rfl) #[.agg #[.bool a0_0, .string a0_1, .string a0_2], .agg #[.bool a1_0, .string a1_1, .string a1_2]] ?_; (with_reducible refine (gussetlaw03_fine.calls k a0_0 a0_1 a0_2 a1_0 a1_1 a1_2 false _ A3.out).mono ?_); rintro e w69 ⟨rfl, hb⟩; refine ⟨_, rfl, ?_⟩; replace BK443 := zB BK443 hb; replace BK444 := zB BK444 hb; replace HB := zS HB hb; (try clear hb)) | ((with_reducible refine gate_callee (f := 13) rfl ?_); refine zC Tryz.func13 (by kernel_rfl) #[] ?_; (with_reducible refine (gussetlaw03_live.calls k  t446 _ A63.out).mono ?_); rintro e w70 ⟨rfl, hb⟩; refine ⟨_, rfl, ?_⟩; replace BK443 := zB BK443 hb; replace BK444 := zB BK444 hb; replace HB := zS HB hb; (try clear hb)))
    go_ret
    exact ⟨by first | rfl | (simp [errW_none, errW_some] <;> rfl) | (simp [*, errW_none, errW_some] <;> rfl), zT HB⟩

end Go.Proofs.YtoijlbcbbblbfaaGreatDoorH.R
