import Derived.Test.YtoijlbcbbblbfaaGreatDoorZzG0x0
import Derived.Test.YtoijlbcbbblbfaaGreatDoorZzG0x1
import Derived.Test.YtoijlbcbbblbfaaGreatDoorZzG8x0
-- printed by hp.py, sq3
namespace Go.Proofs.YtoijlbcbbblbfaaGreatDoorH.R
open Go.RowKit Go.Proofs.YtoijlbcbbblbfaaGreatDoorH.Z Go.Proofs.YtoijlbcbbblbfaaGreatDoorW.PrintWords Go.Proofs.YtoijlbcbbblbfaaGreatDoorW.PrintLast Go.Proofs.YtoijlbcbbblbfaaGreatDoorW.PrintMore
attribute [local go_sem] max2_int min2_int max_two min_two max_three min_three max_four min_four   -- for this text's walks alone
set_option linter.unusedVariables false
set_option linter.unusedSimpArgs false

/-! ### gussetref03_Decimal: function 21 -/
mutual
def gussetref03_Decimal.l0 : Nat → Int → Int → Bool → ByteArray → ByteArray → Bool → ByteArray → Option (ByteArray)
 | 0, _, _, _, _, _, _, _ => none
 | k + 1, x1, x6, x270000, x270001, x270002, x271000, x271001 => if x6 < x1 then ((gussetref02_Of.f 10).bind fun bt271 => ((gussetref02_Times.f x271000 x271001 bt271.1 bt271.2).bind fun bt273 => (gussetref03_Decimal.l0 k x1 (wrap64 (x6 + 1)) x270000 x270001 x270002 bt273.1 bt273.2))) else ((gussetref03_den.f x270000 x270001 x270002).bind fun bt275 => ((gussetref02_Quo.f x271000 x271001 bt275.1 bt275.2).bind fun bt277 => ((gussetref02_Sum.f bt277.2.2.1 bt277.2.2.2 bt277.2.2.1 bt277.2.2.2).bind fun bt283 => ((gussetref03_den.f x270000 x270001 x270002).bind fun bt285 => ((gussetref02_Order.f bt283.1 bt283.2 bt285.1 bt285.2).bind fun t287 => (if bt277.2.1.toList = ([] : List UInt8) then (gussetref03_Decimal.j1 k x1 t287 false x270000 x270001 x270002 bt277.1 bt277.2.1) else (if 0 ≤ (wrap64 ((bt277.2.1.size : Int) - 1)) then (if (wrap64 ((bt277.2.1.size : Int) - 1)) < (bt277.2.1.size : Int) then (gussetref03_Decimal.j1 k x1 t287 ((Int.tmod (bt bt277.2.1 (wrap64 ((bt277.2.1.size : Int) - 1))) 2) == 1) x270000 x270001 x270002 bt277.1 bt277.2.1) else (none)) else (none))))))))
def gussetref03_Decimal.j1 : Nat → Int → Int → Bool → Bool → ByteArray → ByteArray → Bool → ByteArray → Option (ByteArray)
 | 0, _, _, _, _, _, _, _, _ => none
 | k + 1, x1, x9, x10, x270000, x270001, x270002, x282000, x282001 => if x9 > 0 then (gussetref03_Decimal.j2 k x1 true x270000 x270001 x270002 x282000 x282001) else (if x9 = 0 then (gussetref03_Decimal.j2 k x1 x10 x270000 x270001 x270002 x282000 x282001) else (gussetref03_Decimal.j2 k x1 false x270000 x270001 x270002 x282000 x282001))
def gussetref03_Decimal.j2 : Nat → Int → Bool → Bool → ByteArray → ByteArray → Bool → ByteArray → Option (ByteArray)
 | 0, _, _, _, _, _, _, _ => none
 | k + 1, x1, x59, x270000, x270001, x270002, x282000, x282001 => if x59 = true then ((gussetref02_Of.f 1).bind fun bt288 => ((gussetref02_Sum.f x282000 x282001 bt288.1 bt288.2).bind fun bt290 => (gussetref03_Decimal.j3 k x1 x270000 x270001 x270002 bt290.1 bt290.2))) else (gussetref03_Decimal.j3 k x1 x270000 x270001 x270002 x282000 x282001)
def gussetref03_Decimal.j3 : Nat → Int → Bool → ByteArray → ByteArray → Bool → ByteArray → Option (ByteArray)
 | 0, _, _, _, _, _, _ => none
 | k + 1, x1, x270000, x270001, x270002, x282000, x282001 => (gussetref02_Text.f x282000 x282001).bind fun t292 => (gussetref03_Decimal.l1 k x1 t292 x270000 x270001 x270002 x282000 x282001)
def gussetref03_Decimal.l1 : Nat → Int → ByteArray → Bool → ByteArray → ByteArray → Bool → ByteArray → Option (ByteArray)
 | 0, _, _, _, _, _, _, _ => none
 | k + 1, x1, x11, x270000, x270001, x270002, x282000, x282001 => if (x11.size : Int) ≤ x1 then (if 1 + x11.size ≤ 9223372036854775807 then (gussetref03_Decimal.l1 k x1 ((⟨#[48]⟩ : ByteArray) ++ x11) x270000 x270001 x270002 x282000 x282001) else (none)) else (if x1 > 0 then (if 0 ≤ (wrap64 ((x11.size : Int) - x1)) then (if (wrap64 ((x11.size : Int) - x1)) ≤ (x11.size : Int) then (if (x11.extract 0 ((wrap64 ((x11.size : Int) - x1)) : Int).toNat).size + 1 ≤ 9223372036854775807 then (if ((x11.extract 0 ((wrap64 ((x11.size : Int) - x1)) : Int).toNat) ++ (⟨#[46]⟩ : ByteArray)).size + (x11.extract ((wrap64 ((x11.size : Int) - x1)) : Int).toNat x11.size).size ≤ 9223372036854775807 then (gussetref03_Decimal.j5 k (((x11.extract 0 ((wrap64 ((x11.size : Int) - x1)) : Int).toNat) ++ (⟨#[46]⟩ : ByteArray)) ++ (x11.extract ((wrap64 ((x11.size : Int) - x1)) : Int).toNat x11.size)) x270000 x270001 x270002 x282000 x282001) else (none)) else (none)) else (none)) else (none)) else (gussetref03_Decimal.j5 k x11 x270000 x270001 x270002 x282000 x282001))
def gussetref03_Decimal.j5 : Nat → ByteArray → Bool → ByteArray → ByteArray → Bool → ByteArray → Option (ByteArray)
 | 0, _, _, _, _, _, _ => none
 | k + 1, x11, x270000, x270001, x270002, x282000, x282001 => if x270000 = true then (gussetref03_Decimal.j6 k x11 (x282001.toList != ([] : List UInt8))) else (gussetref03_Decimal.j6 k x11 false)
def gussetref03_Decimal.j6 : Nat → ByteArray → Bool → Option (ByteArray)
 | 0, _, _ => none
 | k + 1, x11, x94 => if x94 = true then (if 1 + x11.size ≤ 9223372036854775807 then (some ((⟨#[45]⟩ : ByteArray) ++ x11)) else (none)) else (some x11)
end
def gussetref03_Decimal.f (k : Nat) (a0_0 : Bool) (a0_1 : ByteArray) (a0_2 : ByteArray) (a1 : Int) : Option (ByteArray) := gussetref03_Decimal.l0 k a1 0 a0_0 a0_1 a0_2 false a0_1
def gussetref03_Decimal.T6 : Bool × List (List Nat × List Nat) := (true, [([], []), ([], []), ([1], [1]), ([0, 2, 2], [0, 2]), ([3], [3]), ([4], [4]), ([4], [4]), ([], []), ([], []), ([7, 5, 3, 0, 1, 2, 3, 4, 5, 7, 8], [5, 7]), ([8, 6, 9, 0, 1, 2, 3, 4, 5, 6, 7, 8, 9], [6, 8])])
def gussetref03_Decimal.B6 : List Nat := [0, 0, 2, 7, 15, 31, 31, 0, 0, 447, 1023]
theorem gussetref03_Decimal.tab6 : rtab .any (opsOf Tryz.f21 6) = gussetref03_Decimal.T6 := by kernel_rfl
theorem gussetref03_Decimal.bits6 : waitsOk gussetref03_Decimal.T6.2 gussetref03_Decimal.B6 = true := by kernel_rfl
def gussetref03_Decimal.T15 : Bool × List (List Nat × List Nat) := (true, [([], []), ([], []), ([1], [1]), ([], []), ([2, 3], [2, 3]), ([0, 4], [0, 4]), ([5], [5]), ([], []), ([], []), ([8], [8]), ([], []), ([9, 10], [9, 10]), ([7, 11], [7, 11]), ([6, 12], [6, 12]), ([13, 0, 1, 2, 3, 4, 5, 6, 7, 8, 9, 10, 11, 12, 13], [0, 1, 7, 8, 13])])
def gussetref03_Decimal.B15 : List Nat := [0, 0, 2, 0, 14, 31, 63, 0, 0, 256, 0, 1792, 3968, 8191, 16383]
theorem gussetref03_Decimal.tab15 : rtab .any (opsOf Tryz.f21 15) = gussetref03_Decimal.T15 := by kernel_rfl
theorem gussetref03_Decimal.bits15 : waitsOk gussetref03_Decimal.T15.2 gussetref03_Decimal.B15 = true := by kernel_rfl
set_option maxHeartbeats 8000000 in
set_option maxRecDepth 100000 in
theorem gussetref03_Decimal.calls (k : Nat) (a0_0 : Bool) (a0_1 : ByteArray) (a0_2 : ByteArray) (a1 : Int) (r : ByteArray) (w : World) (h : gussetref03_Decimal.f k a0_0 a0_1 a0_2 a1 = some r) :
  Calls Tryz.prog 21 #[.agg #[.bool a0_0, .string a0_1, .string a0_2], .int .i64 a1] w fun e w' => e = .returned (.string r) ∧ Below w.heap.size w w' := by
 have hu27 := Tryz.underlying27
 have hu24 := Tryz.underlying24; have hf0 := zf240; have hf1 := zf241; have hf2 := zf270; have hf3 := zf271
 have HB := Aside0.mk (Below.refl w.heap.size w)
 unfold gussetref03_Decimal.f at h; have H := h; clear h
 have H' := Aside0.mk H
 clear H
 go_enter Tryz.func21, Tryz.ntmps21
 go_wp2_with (first | ((with_reducible refine gate_dst (N := 2) rfl ?_); (try (refine gate_guard (by rfl) ?_; dsimp only)); refine zY 2 #[.bool a0_0, .string a0_1, .string a0_2] 27 ?_; intro gb269 hg w3 hbox hb; have BK269 := Aside0.mk (hbox); have GW269 := zG hg HB; have GE269 := zG hg HB; replace HB := zS HB hb; clear hb hbox hg; obtain ⟨hcz4_0, hcz4_1, hcz4_2, hfz4_0, hfz4_1, hfz4_2⟩ := z3 BK269) | ((with_reducible refine gate_dst (N := 5) rfl ?_); (try (refine gate_guard (by rfl) ?_; dsimp only)); refine zY 5 #[.bool false, .string (⟨#[]⟩ : ByteArray)] 24 ?_; intro gb270 hg w5 hbox hb; have BK270 := Aside0.mk (hbox); have GW270 := zG hg HB; have GE270 := zG hg HB; obtain ⟨NB269_270, NB270_269⟩ := zQ hg BK269; replace BK269 := zB BK269 hb; replace HB := zS HB hb; clear hb hbox hg; have hnb6 := NB270_269.out; have hnc6 := NB269_270.out; obtain ⟨hcz7_0, hcz7_1, hfz7_0, hfz7_1⟩ := z2 BK270))
 go_loopg [6] k (fun kq v6 w' => ∃ (x6_1 : Int) (x271000_1 : Bool) (x271001_1 : ByteArray), v6 = .int .i64 x6_1 ∧ Aside0 (gussetref03_Decimal.l0 kq a1 x6_1 a0_0 a0_1 a0_2 x271000_1 x271001_1 = some r) ∧ Aside0 (kq ≤ k) ∧ Aside0 (w'.heap[gb269]? = some (.cells #[.bool a0_0, .string a0_1, .string a0_2] 27 (0, 0))) ∧ Aside0 (w'.heap[gb270]? = some (.cells #[.bool x271000_1, .string x271001_1] 24 (0, 0))) ∧ Aside0 (Below w.heap.size w w'))
 case atStart => exact ⟨(0), (false), (a0_1), zR, H', ⟨Nat.le_refl _⟩, zK BK269, ⟨by (with_reducible repeat (first | refine blk_drewN ?_ _ | refine blk_drew ?_ | refine blk_alloc ?_ _)); refine zP (cs := #[.bool false, .string (⟨#[]⟩ : ByteArray)]) ?_ 1 _; (with_reducible repeat (first | refine blk_drewN ?_ _ | refine blk_drew ?_ | refine blk_alloc ?_ _)); refine zP (cs := #[.bool false, .string (⟨#[]⟩ : ByteArray)]) ?_ 0 _; (with_reducible repeat (first | refine blk_drewN ?_ _ | refine blk_drew ?_ | refine blk_alloc ?_ _)); exact BK270.out⟩, ⟨zT HB⟩⟩
 case round =>
  clear H'
  try clear c2; try clear p2; try clear c6; try clear hcz4_0; try clear hcz4_1; try clear hcz4_2; try clear hcz7_0; try clear hcz7_1; try clear hfz4_0; try clear hfz4_1; try clear hfz4_2; try clear hfz7_0; try clear hfz7_1
  obtain ⟨x6_1, x271000_1, x271001_1, rfl, HA, HK1, BK269, BK270, HB⟩ := hrel
  cases gk with
  | zero => exact absurd HA.out (by simp [gussetref03_Decimal.l0])
  | succ k1 =>
   have H := HA.out
   clear HA
   simp only [gussetref03_Decimal.l0] at H
   by_cases c8 : x6_1 < a1
   ·rw [if_pos c8] at H
    have c8b0 := decide_eq_true c8
    clear c8
    obtain ⟨⟨t271, t272⟩, A9, H⟩ := zo H; try dsimp only at H
    obtain ⟨⟨t273, t274⟩, A10, H⟩ := zo H; try dsimp only at H
    have H' := Aside0.mk H
    clear H
    try go_wp2
    replace BK269 := zD BK269; replace BK270 := zD BK270; replace HB := zF HB
    refine start_ (n := 4) (S := fun w' => w'.cell? ⟨gb270, 0, none⟩ = some (.bool x271000_1) ∧ w'.cell? ⟨gb270, 1, none⟩ = some (.string x271001_1)) (ds := [3]) (zb 4 0) (by kernel_rfl) rfl rfl ⟨zc BK270 0, zc BK270 1⟩ (fun hHeld => ?_)
    generalize wr.drew = w11 at BK269 BK270 HB hHeld ⊢
    refine take_ (i := 0) (N := some 21) (v := ?_) (a' := ?_) (zb 4 1) rfl rfl (by kernel_rfl) (fun _ _ _ h => h) (Or.inl ⟨by rfl, ?_⟩) hHeld ?_ ?_
    rotate_left
    ·rintro w' ⟨s0, s1⟩
     go_simp
     with_reducible rfl
    rotate_left
    ·simp only [Act.put, List.setIfInBounds_toArray, List.set_cons_zero, List.set_cons_succ, i64_w, i32_w]
     rfl
    refine one_ (i := 1) (N := some 22) (zb 4 3) rfl rfl (by kernel_rfl) (by decide) (fun K hK => ?_)
    refine zJ Tryz.func23 (by kernel_rfl) (gussetref02_Of.calls 10 t271 t272 _ A9.out) fun w12 hb => ?_
    obtain ⟨BK269, BK270⟩ := zB2 BK269 BK270 hb; replace HB := zS HB hb
    (try clear hb)
    refine hK.out _ _ ⟨zc BK270 0, zc BK270 1⟩ (fun hHeld => ?_)
    clear hK K
    refine zW (some 22) ?_
    refine one_ (i := 2) (N := some 23) (zb 4 7) rfl rfl (by kernel_rfl) (by decide) (fun K hK => ?_)
    refine zJ Tryz.func24 (by kernel_rfl) (gussetref02_Times.calls x271000_1 x271001_1 t271 t272 t273 t274 _ A10.out) fun w13 hb => ?_
    obtain ⟨BK269, BK270⟩ := zB2 BK269 BK270 hb; replace HB := zS HB hb
    (try clear hb)
    refine hK.out _ _ ⟨zc BK270 0, zc BK270 1⟩ (fun hHeld => ?_)
    clear hK K
    refine zW (some 23) ?_
    refine last_ (i := 3) (N := none) (zb 4 15) rfl rfl (by kernel_rfl) (by decide) (fun K hK => ?_)
    have hs14 : w13.cell? ⟨gb270, 0, none⟩ = some (.bool x271000_1) := zc BK270 0
    have hfs14 := blk_frozen BK270.out 0
    have hns14_0 := NB269_270.out
    have hms14_0 := NB270_269.out
    have hs15 : w13.cell? ⟨gb270, 1, none⟩ = some (.string x271001_1) := zc BK270 1
    have hfs15 := blk_frozen BK270.out 1
    have hns15_0 := NB269_270.out
    have hms15_0 := NB270_269.out
    refine skip_ (w1 := ?_) (by rfl) rfl ?_ ?_
    rotate_left
    ·go_simp
     rfl
    refine hK.out _ _ ?_
    clear hK K
    refine done_ (by kernel_rfl) ?_
    try go_wp2
    go_roundg k1
    case measure => have := HK1.out; omega
    case rel => exact ⟨(wrap64 (x6_1 + 1)), (t273), (t274), zR, H', ⟨by have := HK1.out; omega⟩, zK BK269, ⟨by (with_reducible repeat (first | refine blk_drewN ?_ _ | refine blk_drew ?_ | refine blk_alloc ?_ _)); refine zP (cs := #[.bool t273, .string x271001_1]) ?_ 1 _; (with_reducible repeat (first | refine blk_drewN ?_ _ | refine blk_drew ?_ | refine blk_alloc ?_ _)); refine zP (cs := #[.bool x271000_1, .string x271001_1]) ?_ 0 _; (with_reducible repeat (first | refine blk_drewN ?_ _ | refine blk_drew ?_ | refine blk_alloc ?_ _)); exact BK270.out⟩, ⟨zT HB⟩⟩
   ·rw [if_neg c8] at H
    have c8b0 := decide_eq_false c8
    clear c8
    obtain ⟨⟨t275, t276⟩, A16, H⟩ := zo H; try dsimp only at H
    obtain ⟨⟨t277, t278, t279, t280⟩, A17, H⟩ := zo H; try dsimp only at H
    obtain ⟨⟨t283, t284⟩, A18, H⟩ := zo H; try dsimp only at H
    obtain ⟨⟨t285, t286⟩, A19, H⟩ := zo H; try dsimp only at H
    obtain ⟨t287, A20, H⟩ := zo H
    have HC21 := Aside0.mk H
    clear H
    try go_wp2
    replace BK269 := zD BK269; replace BK270 := zD BK270; replace HB := zF HB
    refine start_ (n := 11) (S := fun w' => w'.cell? ⟨gb270, 0, none⟩ = some (.bool x271000_1) ∧ w'.cell? ⟨gb270, 1, none⟩ = some (.string x271001_1) ∧ w'.cell? ⟨gb269, 0, none⟩ = some (.bool a0_0) ∧ w'.cell? ⟨gb269, 1, none⟩ = some (.string a0_1) ∧ w'.cell? ⟨gb269, 2, none⟩ = some (.string a0_2)) (ds := []) (zb 11 0) (by kernel_rfl) rfl rfl ⟨zc BK270 0, zc BK270 1, zc BK269 0, zc BK269 1, zc BK269 2⟩ (fun hHeld => ?_); refine with_tabW gussetref03_Decimal.tab6 gussetref03_Decimal.bits6 (fun HT_ HW_ => ?_)
    generalize wr.drew = w22 at BK269 BK270 HB hHeld ⊢
    refine zV (i := 0) (N := some 25) (zb 11 1) (take_ofW HT_.out HW_.out (by kernel_rfl)) hHeld ?_
    refine zV (i := 1) (N := some 26) (zb 11 3) (take_ofW HT_.out HW_.out (by kernel_rfl)) hHeld ?_
    refine join_ (σ := Nat × Nat) 2 (zb 11 511) (fun s_ => [(27, .agg #[.bool t275, .string t276]), (28, .tuple #[.agg #[.bool t277, .string t278], .agg #[.bool t279, .string t280]]), (7, .pointer (some ⟨s_.1, 0, none⟩)), (8, .pointer (some ⟨s_.2, 0, none⟩)), (24, .tuple #[.agg #[.bool t277, .string t278], .agg #[.bool t279, .string t280]]), (29, .agg #[.bool t277, .string t278]), (30, .agg #[.bool t279, .string t280])]) (fun s_ w' => (w'.cell? ⟨gb270, 0, none⟩ = some (.bool x271000_1) ∧ w'.cell? ⟨gb270, 1, none⟩ = some (.string x271001_1) ∧ w'.cell? ⟨gb269, 0, none⟩ = some (.bool a0_0) ∧ w'.cell? ⟨gb269, 1, none⟩ = some (.string a0_1) ∧ w'.cell? ⟨gb269, 2, none⟩ = some (.string a0_2)) ∧ (w'.heap[gb269]? = some (.cells #[.bool a0_0, .string a0_1, .string a0_2] 27 (0, 0))) ∧ (w'.heap[gb270]? = some (.cells #[.bool x271000_1, .string x271001_1] 24 (0, 0))) ∧ (w'.heap[s_.1]? = some (.cells #[.bool false, .string (⟨#[]⟩ : ByteArray)] 24 (0, 0))) ∧ (w'.heap[s_.2]? = some (.cells #[.bool false, .string (⟨#[]⟩ : ByteArray)] 24 (0, 0))) ∧ (w.heap.size ≤ s_.1) ∧ (w.heap.size ≤ s_.1) ∧ (gb269 ≠ s_.1) ∧ (s_.1 ≠ gb269) ∧ (gb270 ≠ s_.1) ∧ (s_.1 ≠ gb270) ∧ (s_.2 ≠ s_.1) ∧ (s_.1 ≠ s_.2) ∧ (w.heap.size ≤ s_.2) ∧ (w.heap.size ≤ s_.2) ∧ (gb269 ≠ s_.2) ∧ (s_.2 ≠ gb269) ∧ (gb270 ≠ s_.2) ∧ (s_.2 ≠ gb270) ∧ (Below w.heap.size w w')) ?_ ?_
    rotate_left
    ·intro hJ2_3_7_8
     refine join_ (σ := Nat) 3 (zb 11 255) (fun s_ => [(27, .agg #[.bool t275, .string t276]), (28, .tuple #[.agg #[.bool t277, .string t278], .agg #[.bool t279, .string t280]]), (7, .pointer (some ⟨s_, 0, none⟩)), (24, .tuple #[.agg #[.bool t277, .string t278], .agg #[.bool t279, .string t280]]), (29, .agg #[.bool t277, .string t278]), (30, .agg #[.bool t279, .string t280])]) (fun s_ w' => (w'.cell? ⟨gb270, 0, none⟩ = some (.bool x271000_1) ∧ w'.cell? ⟨gb270, 1, none⟩ = some (.string x271001_1) ∧ w'.cell? ⟨gb269, 0, none⟩ = some (.bool a0_0) ∧ w'.cell? ⟨gb269, 1, none⟩ = some (.string a0_1) ∧ w'.cell? ⟨gb269, 2, none⟩ = some (.string a0_2)) ∧ (w'.heap[gb269]? = some (.cells #[.bool a0_0, .string a0_1, .string a0_2] 27 (0, 0))) ∧ (w'.heap[gb270]? = some (.cells #[.bool x271000_1, .string x271001_1] 24 (0, 0))) ∧ (w'.heap[s_]? = some (.cells #[.bool false, .string (⟨#[]⟩ : ByteArray)] 24 (0, 0))) ∧ (w.heap.size ≤ s_) ∧ (w.heap.size ≤ s_) ∧ (gb269 ≠ s_) ∧ (s_ ≠ gb269) ∧ (gb270 ≠ s_) ∧ (s_ ≠ gb270) ∧ (Below w.heap.size w w')) ?_ ?_
     rotate_left
     ·intro hJ2_3_7
      refine join_ (σ := Nat) 3 (zb 11 383) (fun s_ => [(27, .agg #[.bool t275, .string t276]), (28, .tuple #[.agg #[.bool t277, .string t278], .agg #[.bool t279, .string t280]]), (8, .pointer (some ⟨s_, 0, none⟩)), (24, .tuple #[.agg #[.bool t277, .string t278], .agg #[.bool t279, .string t280]]), (29, .agg #[.bool t277, .string t278]), (30, .agg #[.bool t279, .string t280])]) (fun s_ w' => (w'.cell? ⟨gb270, 0, none⟩ = some (.bool x271000_1) ∧ w'.cell? ⟨gb270, 1, none⟩ = some (.string x271001_1) ∧ w'.cell? ⟨gb269, 0, none⟩ = some (.bool a0_0) ∧ w'.cell? ⟨gb269, 1, none⟩ = some (.string a0_1) ∧ w'.cell? ⟨gb269, 2, none⟩ = some (.string a0_2)) ∧ (w'.heap[gb269]? = some (.cells #[.bool a0_0, .string a0_1, .string a0_2] 27 (0, 0))) ∧ (w'.heap[gb270]? = some (.cells #[.bool x271000_1, .string x271001_1] 24 (0, 0))) ∧ (w'.heap[s_]? = some (.cells #[.bool false, .string (⟨#[]⟩ : ByteArray)] 24 (0, 0))) ∧ (w.heap.size ≤ s_) ∧ (w.heap.size ≤ s_) ∧ (gb269 ≠ s_) ∧ (s_ ≠ gb269) ∧ (gb270 ≠ s_) ∧ (s_ ≠ gb270) ∧ (Below w.heap.size w w')) ?_ ?_
      rotate_left
      ·intro hJ2_3_8
       refine join_ (σ := Nat × Nat) 6 (zb 11 391) (fun s_ => [(27, .agg #[.bool t275, .string t276]), (7, .pointer (some ⟨s_.1, 0, none⟩)), (8, .pointer (some ⟨s_.2, 0, none⟩))]) (fun s_ w' => (w'.cell? ⟨gb270, 0, none⟩ = some (.bool x271000_1) ∧ w'.cell? ⟨gb270, 1, none⟩ = some (.string x271001_1) ∧ w'.cell? ⟨gb269, 0, none⟩ = some (.bool a0_0) ∧ w'.cell? ⟨gb269, 1, none⟩ = some (.string a0_1) ∧ w'.cell? ⟨gb269, 2, none⟩ = some (.string a0_2)) ∧ (w'.heap[gb269]? = some (.cells #[.bool a0_0, .string a0_1, .string a0_2] 27 (0, 0))) ∧ (w'.heap[gb270]? = some (.cells #[.bool x271000_1, .string x271001_1] 24 (0, 0))) ∧ (w'.heap[s_.1]? = some (.cells #[.bool false, .string (⟨#[]⟩ : ByteArray)] 24 (0, 0))) ∧ (w'.heap[s_.2]? = some (.cells #[.bool false, .string (⟨#[]⟩ : ByteArray)] 24 (0, 0))) ∧ (w.heap.size ≤ s_.1) ∧ (w.heap.size ≤ s_.1) ∧ (gb269 ≠ s_.1) ∧ (s_.1 ≠ gb269) ∧ (gb270 ≠ s_.1) ∧ (s_.1 ≠ gb270) ∧ (s_.2 ≠ s_.1) ∧ (s_.1 ≠ s_.2) ∧ (w.heap.size ≤ s_.2) ∧ (w.heap.size ≤ s_.2) ∧ (gb269 ≠ s_.2) ∧ (s_.2 ≠ gb269) ∧ (gb270 ≠ s_.2) ∧ (s_.2 ≠ gb270) ∧ (Below w.heap.size w w')) ?_ ?_
       rotate_left
       ·intro hJ2_7_8
        refine join_ (σ := Unit) 4 (zb 11 127) (fun s_ => [(27, .agg #[.bool t275, .string t276]), (28, .tuple #[.agg #[.bool t277, .string t278], .agg #[.bool t279, .string t280]]), (24, .tuple #[.agg #[.bool t277, .string t278], .agg #[.bool t279, .string t280]]), (29, .agg #[.bool t277, .string t278]), (30, .agg #[.bool t279, .string t280])]) (fun s_ w' => (w'.cell? ⟨gb270, 0, none⟩ = some (.bool x271000_1) ∧ w'.cell? ⟨gb270, 1, none⟩ = some (.string x271001_1) ∧ w'.cell? ⟨gb269, 0, none⟩ = some (.bool a0_0) ∧ w'.cell? ⟨gb269, 1, none⟩ = some (.string a0_1) ∧ w'.cell? ⟨gb269, 2, none⟩ = some (.string a0_2)) ∧ (w'.heap[gb269]? = some (.cells #[.bool a0_0, .string a0_1, .string a0_2] 27 (0, 0))) ∧ (w'.heap[gb270]? = some (.cells #[.bool x271000_1, .string x271001_1] 24 (0, 0))) ∧ (Below w.heap.size w w')) ?_ ?_
        rotate_left
        ·intro hJ2_3
         refine join_ (σ := Nat) 7 (zb 11 135) (fun s_ => [(27, .agg #[.bool t275, .string t276]), (7, .pointer (some ⟨s_, 0, none⟩))]) (fun s_ w' => (w'.cell? ⟨gb270, 0, none⟩ = some (.bool x271000_1) ∧ w'.cell? ⟨gb270, 1, none⟩ = some (.string x271001_1) ∧ w'.cell? ⟨gb269, 0, none⟩ = some (.bool a0_0) ∧ w'.cell? ⟨gb269, 1, none⟩ = some (.string a0_1) ∧ w'.cell? ⟨gb269, 2, none⟩ = some (.string a0_2)) ∧ (w'.heap[gb269]? = some (.cells #[.bool a0_0, .string a0_1, .string a0_2] 27 (0, 0))) ∧ (w'.heap[gb270]? = some (.cells #[.bool x271000_1, .string x271001_1] 24 (0, 0))) ∧ (w'.heap[s_]? = some (.cells #[.bool false, .string (⟨#[]⟩ : ByteArray)] 24 (0, 0))) ∧ (w.heap.size ≤ s_) ∧ (w.heap.size ≤ s_) ∧ (gb269 ≠ s_) ∧ (s_ ≠ gb269) ∧ (gb270 ≠ s_) ∧ (s_ ≠ gb270) ∧ (Below w.heap.size w w')) ?_ ?_
         rotate_left
         ·intro hJ2_7
          refine join_ (σ := Nat) 7 (zb 11 263) (fun s_ => [(27, .agg #[.bool t275, .string t276]), (8, .pointer (some ⟨s_, 0, none⟩))]) (fun s_ w' => (w'.cell? ⟨gb270, 0, none⟩ = some (.bool x271000_1) ∧ w'.cell? ⟨gb270, 1, none⟩ = some (.string x271001_1) ∧ w'.cell? ⟨gb269, 0, none⟩ = some (.bool a0_0) ∧ w'.cell? ⟨gb269, 1, none⟩ = some (.string a0_1) ∧ w'.cell? ⟨gb269, 2, none⟩ = some (.string a0_2)) ∧ (w'.heap[gb269]? = some (.cells #[.bool a0_0, .string a0_1, .string a0_2] 27 (0, 0))) ∧ (w'.heap[gb270]? = some (.cells #[.bool x271000_1, .string x271001_1] 24 (0, 0))) ∧ (w'.heap[s_]? = some (.cells #[.bool false, .string (⟨#[]⟩ : ByteArray)] 24 (0, 0))) ∧ (w.heap.size ≤ s_) ∧ (w.heap.size ≤ s_) ∧ (gb269 ≠ s_) ∧ (s_ ≠ gb269) ∧ (gb270 ≠ s_) ∧ (s_ ≠ gb270) ∧ (Below w.heap.size w w')) ?_ ?_
          rotate_left
          ·intro hJ2_8
           refine join_ (σ := Nat × Nat) 7 (zb 11 387) (fun s_ => [(7, .pointer (some ⟨s_.1, 0, none⟩)), (8, .pointer (some ⟨s_.2, 0, none⟩))]) (fun s_ w' => (w'.cell? ⟨gb270, 0, none⟩ = some (.bool x271000_1) ∧ w'.cell? ⟨gb270, 1, none⟩ = some (.string x271001_1) ∧ w'.cell? ⟨gb269, 0, none⟩ = some (.bool a0_0) ∧ w'.cell? ⟨gb269, 1, none⟩ = some (.string a0_1) ∧ w'.cell? ⟨gb269, 2, none⟩ = some (.string a0_2)) ∧ (w'.heap[gb269]? = some (.cells #[.bool a0_0, .string a0_1, .string a0_2] 27 (0, 0))) ∧ (w'.heap[gb270]? = some (.cells #[.bool x271000_1, .string x271001_1] 24 (0, 0))) ∧ (w'.heap[s_.1]? = some (.cells #[.bool false, .string (⟨#[]⟩ : ByteArray)] 24 (0, 0))) ∧ (w'.heap[s_.2]? = some (.cells #[.bool false, .string (⟨#[]⟩ : ByteArray)] 24 (0, 0))) ∧ (w.heap.size ≤ s_.1) ∧ (w.heap.size ≤ s_.1) ∧ (gb269 ≠ s_.1) ∧ (s_.1 ≠ gb269) ∧ (gb270 ≠ s_.1) ∧ (s_.1 ≠ gb270) ∧ (s_.2 ≠ s_.1) ∧ (s_.1 ≠ s_.2) ∧ (w.heap.size ≤ s_.2) ∧ (w.heap.size ≤ s_.2) ∧ (gb269 ≠ s_.2) ∧ (s_.2 ≠ gb269) ∧ (gb270 ≠ s_.2) ∧ (s_.2 ≠ gb270) ∧ (Below w.heap.size w w')) ?_ ?_
           rotate_left
           ·intro hJ7_8
            refine join_ (σ := Unit) 8 (zb 11 7) (fun s_ => [(27, .agg #[.bool t275, .string t276])]) (fun s_ w' => (w'.cell? ⟨gb270, 0, none⟩ = some (.bool x271000_1) ∧ w'.cell? ⟨gb270, 1, none⟩ = some (.string x271001_1) ∧ w'.cell? ⟨gb269, 0, none⟩ = some (.bool a0_0) ∧ w'.cell? ⟨gb269, 1, none⟩ = some (.string a0_1) ∧ w'.cell? ⟨gb269, 2, none⟩ = some (.string a0_2)) ∧ (w'.heap[gb269]? = some (.cells #[.bool a0_0, .string a0_1, .string a0_2] 27 (0, 0))) ∧ (w'.heap[gb270]? = some (.cells #[.bool x271000_1, .string x271001_1] 24 (0, 0))) ∧ (Below w.heap.size w w')) ?_ ?_
            rotate_left
            ·intro hJ2
             refine join_ (σ := Nat) 8 (zb 11 131) (fun s_ => [(7, .pointer (some ⟨s_, 0, none⟩))]) (fun s_ w' => (w'.cell? ⟨gb270, 0, none⟩ = some (.bool x271000_1) ∧ w'.cell? ⟨gb270, 1, none⟩ = some (.string x271001_1) ∧ w'.cell? ⟨gb269, 0, none⟩ = some (.bool a0_0) ∧ w'.cell? ⟨gb269, 1, none⟩ = some (.string a0_1) ∧ w'.cell? ⟨gb269, 2, none⟩ = some (.string a0_2)) ∧ (w'.heap[gb269]? = some (.cells #[.bool a0_0, .string a0_1, .string a0_2] 27 (0, 0))) ∧ (w'.heap[gb270]? = some (.cells #[.bool x271000_1, .string x271001_1] 24 (0, 0))) ∧ (w'.heap[s_]? = some (.cells #[.bool false, .string (⟨#[]⟩ : ByteArray)] 24 (0, 0))) ∧ (w.heap.size ≤ s_) ∧ (w.heap.size ≤ s_) ∧ (gb269 ≠ s_) ∧ (s_ ≠ gb269) ∧ (gb270 ≠ s_) ∧ (s_ ≠ gb270) ∧ (Below w.heap.size w w')) ?_ ?_
             rotate_left
             ·intro hJ7
              refine join_ (σ := Nat) 8 (zb 11 259) (fun s_ => [(8, .pointer (some ⟨s_, 0, none⟩))]) (fun s_ w' => (w'.cell? ⟨gb270, 0, none⟩ = some (.bool x271000_1) ∧ w'.cell? ⟨gb270, 1, none⟩ = some (.string x271001_1) ∧ w'.cell? ⟨gb269, 0, none⟩ = some (.bool a0_0) ∧ w'.cell? ⟨gb269, 1, none⟩ = some (.string a0_1) ∧ w'.cell? ⟨gb269, 2, none⟩ = some (.string a0_2)) ∧ (w'.heap[gb269]? = some (.cells #[.bool a0_0, .string a0_1, .string a0_2] 27 (0, 0))) ∧ (w'.heap[gb270]? = some (.cells #[.bool x271000_1, .string x271001_1] 24 (0, 0))) ∧ (w'.heap[s_]? = some (.cells #[.bool false, .string (⟨#[]⟩ : ByteArray)] 24 (0, 0))) ∧ (w.heap.size ≤ s_) ∧ (w.heap.size ≤ s_) ∧ (gb269 ≠ s_) ∧ (s_ ≠ gb269) ∧ (gb270 ≠ s_) ∧ (s_ ≠ gb270) ∧ (Below w.heap.size w w')) ?_ ?_
              rotate_left
              ·intro hJ8
               refine three_ (i := 2) (j := 7) (k := 8) (Ni := some 27) (Nj := some 7) (Nk := some 8) #[true, true, true, false, false, false, false, false, false, false, false] #[true, true, false, false, false, false, false, true, false, false, false] #[true, true, false, false, false, false, false, false, true, false, false] rfl rfl rfl rfl rfl rfl (three_of HT_.out (by kernel_rfl)) (by decide) (by decide) (by decide) (fun K hK => ?_) (fun K hK => ?_) (fun K hK => ?_)
               ·skip
                refine zJ Tryz.func56 (by kernel_rfl) (gussetref03_den.calls a0_0 a0_1 a0_2 t275 t276 _ A16.out) fun w23 hb => ?_
                obtain ⟨BK269, BK270⟩ := zB2 BK269 BK270 hb; replace HB := zS HB hb
                (try clear hb)
                refine hK.out _ _ ⟨zc BK270 0, zc BK270 1, zc BK269 0, zc BK269 1, zc BK269 2⟩ (fun hHeld => ?_)
                clear hK K
                refine zW (some 27) ?_
                exact zA (hJ2 () _ ⟨hHeld, (zK BK269).out, (zK BK270).out, (zT HB)⟩)
               ·skip
                refine box_step ?hg (N := 7) ?hd (cs := #[.bool false, .string (⟨#[]⟩ : ByteArray)]) (t := 24) ?hr ?_; (case hd => rfl); (case hg => rfl); (case hr => first | (go_simp; done) | (go_simp; rfl))
                intro gb281 hg w23 hbox hb
                have BK281 := Aside0.mk (hbox); have GW281 := zG hg HB; have GE281 := zG hg HB; obtain ⟨NB269_281, NB281_269⟩ := zQ hg BK269; obtain ⟨NB270_281, NB281_270⟩ := zQ hg BK270; obtain ⟨BK269, BK270⟩ := zB2 BK269 BK270 hb; replace HB := zS HB hb; clear hb hbox hg
                refine hK.out _ _ ⟨zc BK270 0, zc BK270 1, zc BK269 0, zc BK269 1, zc BK269 2⟩ (fun hHeld => ?_)
                clear hK K
                refine zW (some 7) ?_
                exact zA (hJ7 (gb281) _ ⟨hHeld, (zK BK269).out, (zK BK270).out, (zK BK281).out, GW281.out, GE281.out, NB269_281.out, NB281_269.out, NB270_281.out, NB281_270.out, (zT HB)⟩)
               ·skip
                refine box_step ?hg (N := 8) ?hd (cs := #[.bool false, .string (⟨#[]⟩ : ByteArray)]) (t := 24) ?hr ?_; (case hd => rfl); (case hg => rfl); (case hr => first | (go_simp; done) | (go_simp; rfl))
                intro gb282 hg w23 hbox hb
                have BK282 := Aside0.mk (hbox); have GW282 := zG hg HB; have GE282 := zG hg HB; obtain ⟨NB269_282, NB282_269⟩ := zQ hg BK269; obtain ⟨NB270_282, NB282_270⟩ := zQ hg BK270; obtain ⟨BK269, BK270⟩ := zB2 BK269 BK270 hb; replace HB := zS HB hb; clear hb hbox hg
                refine hK.out _ _ ⟨zc BK270 0, zc BK270 1, zc BK269 0, zc BK269 1, zc BK269 2⟩ (fun hHeld => ?_)
                clear hK K
                refine zW (some 8) ?_
                exact zA (hJ8 (gb282) _ ⟨hHeld, (zK BK269).out, (zK BK270).out, (zK BK282).out, GW282.out, GE282.out, NB269_282.out, NB282_269.out, NB270_282.out, NB282_270.out, (zT HB)⟩)
              ·skip
               rintro gb282 w24 ⟨hS_, h0_, h1_, h2_, h3_, h4_, h5_, h6_, h7_, h8_, h9_⟩
               replace BK269 := Aside0.mk h0_; replace BK270 := Aside0.mk h1_; have BK282 := Aside0.mk h2_; have GW282 := Aside0.mk h3_; have GE282 := Aside0.mk h4_; have NB269_282 := Aside0.mk h5_; have NB282_269 := Aside0.mk h6_; have NB270_282 := Aside0.mk h7_; have NB282_270 := Aside0.mk h8_; replace HB := Aside0.mk h9_; clear h0_ h1_ h2_ h3_ h4_ h5_ h6_ h7_ h8_ h9_
               have hHeld := hS_
               refine norm_ (a' := ?_) ?_ ?_
               rotate_left
               ·simp only [putAll, Act.put, List.setIfInBounds_toArray, List.set_cons_zero, List.set_cons_succ]
                rfl
               refine two_ (i := 2) (j := 7) (Ni := some 27) (Nj := some 7) (zb 11 263) (zb 11 387) rfl rfl rfl rfl (two_of HT_.out (by kernel_rfl)) (by decide) (by decide) (fun K hK => ?_) (fun K hK => ?_)
               ·skip
                refine zJ Tryz.func56 (by kernel_rfl) (gussetref03_den.calls a0_0 a0_1 a0_2 t275 t276 _ A16.out) fun w25 hb => ?_
                obtain ⟨BK269, BK270, BK282⟩ := zB3 BK269 BK270 BK282 hb; replace HB := zS HB hb
                (try clear hb)
                refine hK.out _ _ ⟨zc BK270 0, zc BK270 1, zc BK269 0, zc BK269 1, zc BK269 2⟩ (fun hHeld => ?_)
                clear hK K
                refine zW (some 27) ?_
                exact zA (hJ2_8 (gb282) _ ⟨hHeld, (zK BK269).out, (zK BK270).out, (zK BK282).out, GW282.out, GE282.out, NB269_282.out, NB282_269.out, NB270_282.out, NB282_270.out, (zT HB)⟩)
               ·skip
                refine box_step ?hg (N := 7) ?hd (cs := #[.bool false, .string (⟨#[]⟩ : ByteArray)]) (t := 24) ?hr ?_; (case hd => rfl); (case hg => rfl); (case hr => first | (go_simp; done) | (go_simp; rfl))
                intro gb281 hg w25 hbox hb
                have BK281 := Aside0.mk (hbox); have GW281 := zG hg HB; have GE281 := zG hg HB; obtain ⟨NB269_281, NB281_269⟩ := zQ hg BK269; obtain ⟨NB270_281, NB281_270⟩ := zQ hg BK270; obtain ⟨NB282_281, NB281_282⟩ := zQ hg BK282; obtain ⟨BK269, BK270, BK282⟩ := zB3 BK269 BK270 BK282 hb; replace HB := zS HB hb; clear hb hbox hg
                refine hK.out _ _ ⟨zc BK270 0, zc BK270 1, zc BK269 0, zc BK269 1, zc BK269 2⟩ (fun hHeld => ?_)
                clear hK K
                refine zW (some 7) ?_
                exact zA (hJ7_8 (gb281, gb282) _ ⟨hHeld, (zK BK269).out, (zK BK270).out, (zK BK281).out, (zK BK282).out, GW281.out, GE281.out, NB269_281.out, NB281_269.out, NB270_281.out, NB281_270.out, NB282_281.out, NB281_282.out, GW282.out, GE282.out, NB269_282.out, NB282_269.out, NB270_282.out, NB282_270.out, (zT HB)⟩)
             ·skip
              rintro gb281 w24 ⟨hS_, h0_, h1_, h2_, h3_, h4_, h5_, h6_, h7_, h8_, h9_⟩
              replace BK269 := Aside0.mk h0_; replace BK270 := Aside0.mk h1_; have BK281 := Aside0.mk h2_; have GW281 := Aside0.mk h3_; have GE281 := Aside0.mk h4_; have NB269_281 := Aside0.mk h5_; have NB281_269 := Aside0.mk h6_; have NB270_281 := Aside0.mk h7_; have NB281_270 := Aside0.mk h8_; replace HB := Aside0.mk h9_; clear h0_ h1_ h2_ h3_ h4_ h5_ h6_ h7_ h8_ h9_
              have hHeld := hS_
              refine norm_ (a' := ?_) ?_ ?_
              rotate_left
              ·simp only [putAll, Act.put, List.setIfInBounds_toArray, List.set_cons_zero, List.set_cons_succ]
               rfl
              refine two_ (i := 2) (j := 8) (Ni := some 27) (Nj := some 8) (zb 11 135) (zb 11 387) rfl rfl rfl rfl (two_of HT_.out (by kernel_rfl)) (by decide) (by decide) (fun K hK => ?_) (fun K hK => ?_)
              ·skip
               refine zJ Tryz.func56 (by kernel_rfl) (gussetref03_den.calls a0_0 a0_1 a0_2 t275 t276 _ A16.out) fun w25 hb => ?_
               obtain ⟨BK269, BK270, BK281⟩ := zB3 BK269 BK270 BK281 hb; replace HB := zS HB hb
               (try clear hb)
               refine hK.out _ _ ⟨zc BK270 0, zc BK270 1, zc BK269 0, zc BK269 1, zc BK269 2⟩ (fun hHeld => ?_)
               clear hK K
               refine zW (some 27) ?_
               exact zA (hJ2_7 (gb281) _ ⟨hHeld, (zK BK269).out, (zK BK270).out, (zK BK281).out, GW281.out, GE281.out, NB269_281.out, NB281_269.out, NB270_281.out, NB281_270.out, (zT HB)⟩)
              ·skip
               refine box_step ?hg (N := 8) ?hd (cs := #[.bool false, .string (⟨#[]⟩ : ByteArray)]) (t := 24) ?hr ?_; (case hd => rfl); (case hg => rfl); (case hr => first | (go_simp; done) | (go_simp; rfl))
               intro gb282 hg w25 hbox hb
               have BK282 := Aside0.mk (hbox); have GW282 := zG hg HB; have GE282 := zG hg HB; obtain ⟨NB269_282, NB282_269⟩ := zQ hg BK269; obtain ⟨NB270_282, NB282_270⟩ := zQ hg BK270; obtain ⟨NB281_282, NB282_281⟩ := zQ hg BK281; obtain ⟨BK269, BK270, BK281⟩ := zB3 BK269 BK270 BK281 hb; replace HB := zS HB hb; clear hb hbox hg
               refine hK.out _ _ ⟨zc BK270 0, zc BK270 1, zc BK269 0, zc BK269 1, zc BK269 2⟩ (fun hHeld => ?_)
               clear hK K
               refine zW (some 8) ?_
               exact zA (hJ7_8 (gb281, gb282) _ ⟨hHeld, (zK BK269).out, (zK BK270).out, (zK BK281).out, (zK BK282).out, GW281.out, GE281.out, NB269_281.out, NB281_269.out, NB270_281.out, NB281_270.out, NB282_281.out, NB281_282.out, GW282.out, GE282.out, NB269_282.out, NB282_269.out, NB270_282.out, NB282_270.out, (zT HB)⟩)
            ·skip
             rintro _ w24 ⟨hS_, h0_, h1_, h2_⟩
             replace BK269 := Aside0.mk h0_; replace BK270 := Aside0.mk h1_; replace HB := Aside0.mk h2_; clear h0_ h1_ h2_
             have hHeld := hS_
             refine norm_ (a' := ?_) ?_ ?_
             rotate_left
             ·simp only [putAll, Act.put, List.setIfInBounds_toArray, List.set_cons_zero, List.set_cons_succ]
              rfl
             refine three_ (i := 3) (j := 7) (k := 8) (Ni := some 28) (Nj := some 7) (Nk := some 8) #[true, true, true, true, false, false, false, false, false, false, false] #[true, true, true, false, false, false, false, true, false, false, false] #[true, true, true, false, false, false, false, false, true, false, false] rfl rfl rfl rfl rfl rfl (three_of HT_.out (by kernel_rfl)) (by decide) (by decide) (by decide) (fun K hK => ?_) (fun K hK => ?_) (fun K hK => ?_)
             ·skip
              refine zJ Tryz.func63 (by kernel_rfl) (gussetref02_Quo.calls x271000_1 x271001_1 t275 t276 t277 t278 t279 t280 _ A17.out) fun w25 hb => ?_
              obtain ⟨BK269, BK270⟩ := zB2 BK269 BK270 hb; replace HB := zS HB hb
              (try clear hb)
              refine hK.out _ _ ⟨zc BK270 0, zc BK270 1, zc BK269 0, zc BK269 1, zc BK269 2⟩ (fun hHeld => ?_)
              clear hK K
              refine zW (some 28) ?_
              refine zU (i := 4) (N := some 24) (zb 11 31) (any_of HT_.out (by kernel_rfl)) ?_
              refine zU (i := 5) (N := some 29) (zb 11 63) (any_of HT_.out (by kernel_rfl)) ?_
              refine zU (i := 6) (N := some 30) (zb 11 127) (any_of HT_.out (by kernel_rfl)) ?_
              exact zA (hJ2_3 () _ ⟨hHeld, (zK BK269).out, (zK BK270).out, (zT HB)⟩)
             ·skip
              refine box_step ?hg (N := 7) ?hd (cs := #[.bool false, .string (⟨#[]⟩ : ByteArray)]) (t := 24) ?hr ?_; (case hd => rfl); (case hg => rfl); (case hr => first | (go_simp; done) | (go_simp; rfl))
              intro gb281 hg w25 hbox hb
              have BK281 := Aside0.mk (hbox); have GW281 := zG hg HB; have GE281 := zG hg HB; obtain ⟨NB269_281, NB281_269⟩ := zQ hg BK269; obtain ⟨NB270_281, NB281_270⟩ := zQ hg BK270; obtain ⟨BK269, BK270⟩ := zB2 BK269 BK270 hb; replace HB := zS HB hb; clear hb hbox hg
              refine hK.out _ _ ⟨zc BK270 0, zc BK270 1, zc BK269 0, zc BK269 1, zc BK269 2⟩ (fun hHeld => ?_)
              clear hK K
              refine zW (some 7) ?_
              exact zA (hJ2_7 (gb281) _ ⟨hHeld, (zK BK269).out, (zK BK270).out, (zK BK281).out, GW281.out, GE281.out, NB269_281.out, NB281_269.out, NB270_281.out, NB281_270.out, (zT HB)⟩)
             ·skip
              refine box_step ?hg (N := 8) ?hd (cs := #[.bool false, .string (⟨#[]⟩ : ByteArray)]) (t := 24) ?hr ?_; (case hd => rfl); (case hg => rfl); (case hr => first | (go_simp; done) | (go_simp; rfl))
              intro gb282 hg w25 hbox hb
              have BK282 := Aside0.mk (hbox); have GW282 := zG hg HB; have GE282 := zG hg HB; obtain ⟨NB269_282, NB282_269⟩ := zQ hg BK269; obtain ⟨NB270_282, NB282_270⟩ := zQ hg BK270; obtain ⟨BK269, BK270⟩ := zB2 BK269 BK270 hb; replace HB := zS HB hb; clear hb hbox hg
              refine hK.out _ _ ⟨zc BK270 0, zc BK270 1, zc BK269 0, zc BK269 1, zc BK269 2⟩ (fun hHeld => ?_)
              clear hK K
              refine zW (some 8) ?_
              exact zA (hJ2_8 (gb282) _ ⟨hHeld, (zK BK269).out, (zK BK270).out, (zK BK282).out, GW282.out, GE282.out, NB269_282.out, NB282_269.out, NB270_282.out, NB282_270.out, (zT HB)⟩)
           ·skip
            rintro ⟨gb281, gb282⟩ w25 ⟨hS_, h0_, h1_, h2_, h3_, h4_, h5_, h6_, h7_, h8_, h9_, h10_, h11_, h12_, h13_, h14_, h15_, h16_, h17_, h18_⟩
            replace BK269 := Aside0.mk h0_; replace BK270 := Aside0.mk h1_; have BK281 := Aside0.mk h2_; have BK282 := Aside0.mk h3_; have GW281 := Aside0.mk h4_; have GE281 := Aside0.mk h5_; have NB269_281 := Aside0.mk h6_; have NB281_269 := Aside0.mk h7_; have NB270_281 := Aside0.mk h8_; have NB281_270 := Aside0.mk h9_; have NB282_281 := Aside0.mk h10_; have NB281_282 := Aside0.mk h11_; have GW282 := Aside0.mk h12_; have GE282 := Aside0.mk h13_; have NB269_282 := Aside0.mk h14_; have NB282_269 := Aside0.mk h15_; have NB270_282 := Aside0.mk h16_; have NB282_270 := Aside0.mk h17_; replace HB := Aside0.mk h18_; clear h0_ h1_ h2_ h3_ h4_ h5_ h6_ h7_ h8_ h9_ h10_ h11_ h12_ h13_ h14_ h15_ h16_ h17_ h18_
            have hHeld := hS_
            refine norm_ (a' := ?_) ?_ ?_
            rotate_left
            ·simp only [putAll, Act.put, List.setIfInBounds_toArray, List.set_cons_zero, List.set_cons_succ]
             rfl
            refine one_ (i := 2) (N := some 27) (zb 11 391) rfl rfl (one_of HT_.out (by kernel_rfl)) (by decide) (fun K hK => ?_)
            refine zJ Tryz.func56 (by kernel_rfl) (gussetref03_den.calls a0_0 a0_1 a0_2 t275 t276 _ A16.out) fun w26 hb => ?_
            obtain ⟨BK269, BK270, BK281, BK282⟩ := zB4 BK269 BK270 BK281 BK282 hb; replace HB := zS HB hb
            (try clear hb)
            refine hK.out _ _ ⟨zc BK270 0, zc BK270 1, zc BK269 0, zc BK269 1, zc BK269 2⟩ (fun hHeld => ?_)
            clear hK K
            refine zW (some 27) ?_
            exact zA (hJ2_7_8 (gb281, gb282) _ ⟨hHeld, (zK BK269).out, (zK BK270).out, (zK BK281).out, (zK BK282).out, GW281.out, GE281.out, NB269_281.out, NB281_269.out, NB270_281.out, NB281_270.out, NB282_281.out, NB281_282.out, GW282.out, GE282.out, NB269_282.out, NB282_269.out, NB270_282.out, NB282_270.out, (zT HB)⟩)
          ·skip
           rintro gb282 w25 ⟨hS_, h0_, h1_, h2_, h3_, h4_, h5_, h6_, h7_, h8_, h9_⟩
           replace BK269 := Aside0.mk h0_; replace BK270 := Aside0.mk h1_; have BK282 := Aside0.mk h2_; have GW282 := Aside0.mk h3_; have GE282 := Aside0.mk h4_; have NB269_282 := Aside0.mk h5_; have NB282_269 := Aside0.mk h6_; have NB270_282 := Aside0.mk h7_; have NB282_270 := Aside0.mk h8_; replace HB := Aside0.mk h9_; clear h0_ h1_ h2_ h3_ h4_ h5_ h6_ h7_ h8_ h9_
           have hHeld := hS_
           refine norm_ (a' := ?_) ?_ ?_
           rotate_left
           ·simp only [putAll, Act.put, List.setIfInBounds_toArray, List.set_cons_zero, List.set_cons_succ]
            rfl
           refine two_ (i := 3) (j := 7) (Ni := some 28) (Nj := some 7) (zb 11 271) (zb 11 391) rfl rfl rfl rfl (two_of HT_.out (by kernel_rfl)) (by decide) (by decide) (fun K hK => ?_) (fun K hK => ?_)
           ·skip
            refine zJ Tryz.func63 (by kernel_rfl) (gussetref02_Quo.calls x271000_1 x271001_1 t275 t276 t277 t278 t279 t280 _ A17.out) fun w26 hb => ?_
            obtain ⟨BK269, BK270, BK282⟩ := zB3 BK269 BK270 BK282 hb; replace HB := zS HB hb
            (try clear hb)
            refine hK.out _ _ ⟨zc BK270 0, zc BK270 1, zc BK269 0, zc BK269 1, zc BK269 2⟩ (fun hHeld => ?_)
            clear hK K
            refine zW (some 28) ?_
            refine zU (i := 4) (N := some 24) (zb 11 287) (any_of HT_.out (by kernel_rfl)) ?_
            refine zU (i := 5) (N := some 29) (zb 11 319) (any_of HT_.out (by kernel_rfl)) ?_
            refine zU (i := 6) (N := some 30) (zb 11 383) (any_of HT_.out (by kernel_rfl)) ?_
            exact zA (hJ2_3_8 (gb282) _ ⟨hHeld, (zK BK269).out, (zK BK270).out, (zK BK282).out, GW282.out, GE282.out, NB269_282.out, NB282_269.out, NB270_282.out, NB282_270.out, (zT HB)⟩)
           ·skip
            refine box_step ?hg (N := 7) ?hd (cs := #[.bool false, .string (⟨#[]⟩ : ByteArray)]) (t := 24) ?hr ?_; (case hd => rfl); (case hg => rfl); (case hr => first | (go_simp; done) | (go_simp; rfl))
            intro gb281 hg w26 hbox hb
            have BK281 := Aside0.mk (hbox); have GW281 := zG hg HB; have GE281 := zG hg HB; obtain ⟨NB269_281, NB281_269⟩ := zQ hg BK269; obtain ⟨NB270_281, NB281_270⟩ := zQ hg BK270; obtain ⟨NB282_281, NB281_282⟩ := zQ hg BK282; obtain ⟨BK269, BK270, BK282⟩ := zB3 BK269 BK270 BK282 hb; replace HB := zS HB hb; clear hb hbox hg
            refine hK.out _ _ ⟨zc BK270 0, zc BK270 1, zc BK269 0, zc BK269 1, zc BK269 2⟩ (fun hHeld => ?_)
            clear hK K
            refine zW (some 7) ?_
            exact zA (hJ2_7_8 (gb281, gb282) _ ⟨hHeld, (zK BK269).out, (zK BK270).out, (zK BK281).out, (zK BK282).out, GW281.out, GE281.out, NB269_281.out, NB281_269.out, NB270_281.out, NB281_270.out, NB282_281.out, NB281_282.out, GW282.out, GE282.out, NB269_282.out, NB282_269.out, NB270_282.out, NB282_270.out, (zT HB)⟩)
         ·skip
          rintro gb281 w25 ⟨hS_, h0_, h1_, h2_, h3_, h4_, h5_, h6_, h7_, h8_, h9_⟩
          replace BK269 := Aside0.mk h0_; replace BK270 := Aside0.mk h1_; have BK281 := Aside0.mk h2_; have GW281 := Aside0.mk h3_; have GE281 := Aside0.mk h4_; have NB269_281 := Aside0.mk h5_; have NB281_269 := Aside0.mk h6_; have NB270_281 := Aside0.mk h7_; have NB281_270 := Aside0.mk h8_; replace HB := Aside0.mk h9_; clear h0_ h1_ h2_ h3_ h4_ h5_ h6_ h7_ h8_ h9_
          have hHeld := hS_
          refine norm_ (a' := ?_) ?_ ?_
          rotate_left
          ·simp only [putAll, Act.put, List.setIfInBounds_toArray, List.set_cons_zero, List.set_cons_succ]
           rfl
          refine two_ (i := 3) (j := 8) (Ni := some 28) (Nj := some 8) (zb 11 143) (zb 11 391) rfl rfl rfl rfl (two_of HT_.out (by kernel_rfl)) (by decide) (by decide) (fun K hK => ?_) (fun K hK => ?_)
          ·skip
           refine zJ Tryz.func63 (by kernel_rfl) (gussetref02_Quo.calls x271000_1 x271001_1 t275 t276 t277 t278 t279 t280 _ A17.out) fun w26 hb => ?_
           obtain ⟨BK269, BK270, BK281⟩ := zB3 BK269 BK270 BK281 hb; replace HB := zS HB hb
           (try clear hb)
           refine hK.out _ _ ⟨zc BK270 0, zc BK270 1, zc BK269 0, zc BK269 1, zc BK269 2⟩ (fun hHeld => ?_)
           clear hK K
           refine zW (some 28) ?_
           refine zU (i := 4) (N := some 24) (zb 11 159) (any_of HT_.out (by kernel_rfl)) ?_
           refine zU (i := 5) (N := some 29) (zb 11 191) (any_of HT_.out (by kernel_rfl)) ?_
           refine zU (i := 6) (N := some 30) (zb 11 255) (any_of HT_.out (by kernel_rfl)) ?_
           exact zA (hJ2_3_7 (gb281) _ ⟨hHeld, (zK BK269).out, (zK BK270).out, (zK BK281).out, GW281.out, GE281.out, NB269_281.out, NB281_269.out, NB270_281.out, NB281_270.out, (zT HB)⟩)
          ·skip
           refine box_step ?hg (N := 8) ?hd (cs := #[.bool false, .string (⟨#[]⟩ : ByteArray)]) (t := 24) ?hr ?_; (case hd => rfl); (case hg => rfl); (case hr => first | (go_simp; done) | (go_simp; rfl))
           intro gb282 hg w26 hbox hb
           have BK282 := Aside0.mk (hbox); have GW282 := zG hg HB; have GE282 := zG hg HB; obtain ⟨NB269_282, NB282_269⟩ := zQ hg BK269; obtain ⟨NB270_282, NB282_270⟩ := zQ hg BK270; obtain ⟨NB281_282, NB282_281⟩ := zQ hg BK281; obtain ⟨BK269, BK270, BK281⟩ := zB3 BK269 BK270 BK281 hb; replace HB := zS HB hb; clear hb hbox hg
           refine hK.out _ _ ⟨zc BK270 0, zc BK270 1, zc BK269 0, zc BK269 1, zc BK269 2⟩ (fun hHeld => ?_)
           clear hK K
           refine zW (some 8) ?_
           exact zA (hJ2_7_8 (gb281, gb282) _ ⟨hHeld, (zK BK269).out, (zK BK270).out, (zK BK281).out, (zK BK282).out, GW281.out, GE281.out, NB269_281.out, NB281_269.out, NB270_281.out, NB281_270.out, NB282_281.out, NB281_282.out, GW282.out, GE282.out, NB269_282.out, NB282_269.out, NB270_282.out, NB282_270.out, (zT HB)⟩)
        ·skip
         rintro _ w25 ⟨hS_, h0_, h1_, h2_⟩
         replace BK269 := Aside0.mk h0_; replace BK270 := Aside0.mk h1_; replace HB := Aside0.mk h2_; clear h0_ h1_ h2_
         have hHeld := hS_
         refine norm_ (a' := ?_) ?_ ?_
         rotate_left
         ·simp only [putAll, Act.put, List.setIfInBounds_toArray, List.set_cons_zero, List.set_cons_succ]
          rfl
         refine two_ (i := 7) (j := 8) (Ni := some 7) (Nj := some 8) (zb 11 255) (zb 11 383) rfl rfl rfl rfl (two_of HT_.out (by kernel_rfl)) (by decide) (by decide) (fun K hK => ?_) (fun K hK => ?_)
         ·skip
          refine box_step ?hg (N := 7) ?hd (cs := #[.bool false, .string (⟨#[]⟩ : ByteArray)]) (t := 24) ?hr ?_; (case hd => rfl); (case hg => rfl); (case hr => first | (go_simp; done) | (go_simp; rfl))
          intro gb281 hg w26 hbox hb
          have BK281 := Aside0.mk (hbox); have GW281 := zG hg HB; have GE281 := zG hg HB; obtain ⟨NB269_281, NB281_269⟩ := zQ hg BK269; obtain ⟨NB270_281, NB281_270⟩ := zQ hg BK270; obtain ⟨BK269, BK270⟩ := zB2 BK269 BK270 hb; replace HB := zS HB hb; clear hb hbox hg
          refine hK.out _ _ ⟨zc BK270 0, zc BK270 1, zc BK269 0, zc BK269 1, zc BK269 2⟩ (fun hHeld => ?_)
          clear hK K
          refine zW (some 7) ?_
          exact zA (hJ2_3_7 (gb281) _ ⟨hHeld, (zK BK269).out, (zK BK270).out, (zK BK281).out, GW281.out, GE281.out, NB269_281.out, NB281_269.out, NB270_281.out, NB281_270.out, (zT HB)⟩)
         ·skip
          refine box_step ?hg (N := 8) ?hd (cs := #[.bool false, .string (⟨#[]⟩ : ByteArray)]) (t := 24) ?hr ?_; (case hd => rfl); (case hg => rfl); (case hr => first | (go_simp; done) | (go_simp; rfl))
          intro gb282 hg w26 hbox hb
          have BK282 := Aside0.mk (hbox); have GW282 := zG hg HB; have GE282 := zG hg HB; obtain ⟨NB269_282, NB282_269⟩ := zQ hg BK269; obtain ⟨NB270_282, NB282_270⟩ := zQ hg BK270; obtain ⟨BK269, BK270⟩ := zB2 BK269 BK270 hb; replace HB := zS HB hb; clear hb hbox hg
          refine hK.out _ _ ⟨zc BK270 0, zc BK270 1, zc BK269 0, zc BK269 1, zc BK269 2⟩ (fun hHeld => ?_)
          clear hK K
          refine zW (some 8) ?_
          exact zA (hJ2_3_8 (gb282) _ ⟨hHeld, (zK BK269).out, (zK BK270).out, (zK BK282).out, GW282.out, GE282.out, NB269_282.out, NB282_269.out, NB270_282.out, NB282_270.out, (zT HB)⟩)
       ·skip
        rintro ⟨gb281, gb282⟩ w26 ⟨hS_, h0_, h1_, h2_, h3_, h4_, h5_, h6_, h7_, h8_, h9_, h10_, h11_, h12_, h13_, h14_, h15_, h16_, h17_, h18_⟩
        replace BK269 := Aside0.mk h0_; replace BK270 := Aside0.mk h1_; have BK281 := Aside0.mk h2_; have BK282 := Aside0.mk h3_; have GW281 := Aside0.mk h4_; have GE281 := Aside0.mk h5_; have NB269_281 := Aside0.mk h6_; have NB281_269 := Aside0.mk h7_; have NB270_281 := Aside0.mk h8_; have NB281_270 := Aside0.mk h9_; have NB282_281 := Aside0.mk h10_; have NB281_282 := Aside0.mk h11_; have GW282 := Aside0.mk h12_; have GE282 := Aside0.mk h13_; have NB269_282 := Aside0.mk h14_; have NB282_269 := Aside0.mk h15_; have NB270_282 := Aside0.mk h16_; have NB282_270 := Aside0.mk h17_; replace HB := Aside0.mk h18_; clear h0_ h1_ h2_ h3_ h4_ h5_ h6_ h7_ h8_ h9_ h10_ h11_ h12_ h13_ h14_ h15_ h16_ h17_ h18_
        have hHeld := hS_
        refine norm_ (a' := ?_) ?_ ?_
        rotate_left
        ·simp only [putAll, Act.put, List.setIfInBounds_toArray, List.set_cons_zero, List.set_cons_succ]
         rfl
        refine one_ (i := 3) (N := some 28) (zb 11 399) rfl rfl (one_of HT_.out (by kernel_rfl)) (by decide) (fun K hK => ?_)
        refine zJ Tryz.func63 (by kernel_rfl) (gussetref02_Quo.calls x271000_1 x271001_1 t275 t276 t277 t278 t279 t280 _ A17.out) fun w27 hb => ?_
        obtain ⟨BK269, BK270, BK281, BK282⟩ := zB4 BK269 BK270 BK281 BK282 hb; replace HB := zS HB hb
        (try clear hb)
        refine hK.out _ _ ⟨zc BK270 0, zc BK270 1, zc BK269 0, zc BK269 1, zc BK269 2⟩ (fun hHeld => ?_)
        clear hK K
        refine zW (some 28) ?_
        refine zU (i := 4) (N := some 24) (zb 11 415) (any_of HT_.out (by kernel_rfl)) ?_
        refine zU (i := 5) (N := some 29) (zb 11 447) (any_of HT_.out (by kernel_rfl)) ?_
        refine zU (i := 6) (N := some 30) (zb 11 511) (any_of HT_.out (by kernel_rfl)) ?_
        exact zA (hJ2_3_7_8 (gb281, gb282) _ ⟨hHeld, (zK BK269).out, (zK BK270).out, (zK BK281).out, (zK BK282).out, GW281.out, GE281.out, NB269_281.out, NB281_269.out, NB270_281.out, NB281_270.out, NB282_281.out, NB281_282.out, GW282.out, GE282.out, NB269_282.out, NB282_269.out, NB270_282.out, NB282_270.out, (zT HB)⟩)
      ·skip
       rintro gb282 w26 ⟨hS_, h0_, h1_, h2_, h3_, h4_, h5_, h6_, h7_, h8_, h9_⟩
       replace BK269 := Aside0.mk h0_; replace BK270 := Aside0.mk h1_; have BK282 := Aside0.mk h2_; have GW282 := Aside0.mk h3_; have GE282 := Aside0.mk h4_; have NB269_282 := Aside0.mk h5_; have NB282_269 := Aside0.mk h6_; have NB270_282 := Aside0.mk h7_; have NB282_270 := Aside0.mk h8_; replace HB := Aside0.mk h9_; clear h0_ h1_ h2_ h3_ h4_ h5_ h6_ h7_ h8_ h9_
       have hHeld := hS_
       refine norm_ (a' := ?_) ?_ ?_
       rotate_left
       ·simp only [putAll, Act.put, List.setIfInBounds_toArray, List.set_cons_zero, List.set_cons_succ]
        rfl
       refine one_ (i := 7) (N := some 7) (zb 11 511) rfl rfl (one_of HT_.out (by kernel_rfl)) (by decide) (fun K hK => ?_)
       refine box_step ?hg (N := 7) ?hd (cs := #[.bool false, .string (⟨#[]⟩ : ByteArray)]) (t := 24) ?hr ?_; (case hd => rfl); (case hg => rfl); (case hr => first | (go_simp; done) | (go_simp; rfl))
       intro gb281 hg w27 hbox hb
       have BK281 := Aside0.mk (hbox); have GW281 := zG hg HB; have GE281 := zG hg HB; obtain ⟨NB269_281, NB281_269⟩ := zQ hg BK269; obtain ⟨NB270_281, NB281_270⟩ := zQ hg BK270; obtain ⟨NB282_281, NB281_282⟩ := zQ hg BK282; obtain ⟨BK269, BK270, BK282⟩ := zB3 BK269 BK270 BK282 hb; replace HB := zS HB hb; clear hb hbox hg
       refine hK.out _ _ ⟨zc BK270 0, zc BK270 1, zc BK269 0, zc BK269 1, zc BK269 2⟩ (fun hHeld => ?_)
       clear hK K
       refine zW (some 7) ?_
       exact zA (hJ2_3_7_8 (gb281, gb282) _ ⟨hHeld, (zK BK269).out, (zK BK270).out, (zK BK281).out, (zK BK282).out, GW281.out, GE281.out, NB269_281.out, NB281_269.out, NB270_281.out, NB281_270.out, NB282_281.out, NB281_282.out, GW282.out, GE282.out, NB269_282.out, NB282_269.out, NB270_282.out, NB282_270.out, (zT HB)⟩)
     ·skip
      rintro gb281 w26 ⟨hS_, h0_, h1_, h2_, h3_, h4_, h5_, h6_, h7_, h8_, h9_⟩
      replace BK269 := Aside0.mk h0_; replace BK270 := Aside0.mk h1_; have BK281 := Aside0.mk h2_; have GW281 := Aside0.mk h3_; have GE281 := Aside0.mk h4_; have NB269_281 := Aside0.mk h5_; have NB281_269 := Aside0.mk h6_; have NB270_281 := Aside0.mk h7_; have NB281_270 := Aside0.mk h8_; replace HB := Aside0.mk h9_; clear h0_ h1_ h2_ h3_ h4_ h5_ h6_ h7_ h8_ h9_
      have hHeld := hS_
      refine norm_ (a' := ?_) ?_ ?_
      rotate_left
      ·simp only [putAll, Act.put, List.setIfInBounds_toArray, List.set_cons_zero, List.set_cons_succ]
       rfl
      refine one_ (i := 8) (N := some 8) (zb 11 511) rfl rfl (one_of HT_.out (by kernel_rfl)) (by decide) (fun K hK => ?_)
      refine box_step ?hg (N := 8) ?hd (cs := #[.bool false, .string (⟨#[]⟩ : ByteArray)]) (t := 24) ?hr ?_; (case hd => rfl); (case hg => rfl); (case hr => first | (go_simp; done) | (go_simp; rfl))
      intro gb282 hg w27 hbox hb
      have BK282 := Aside0.mk (hbox); have GW282 := zG hg HB; have GE282 := zG hg HB; obtain ⟨NB269_282, NB282_269⟩ := zQ hg BK269; obtain ⟨NB270_282, NB282_270⟩ := zQ hg BK270; obtain ⟨NB281_282, NB282_281⟩ := zQ hg BK281; obtain ⟨BK269, BK270, BK281⟩ := zB3 BK269 BK270 BK281 hb; replace HB := zS HB hb; clear hb hbox hg
      refine hK.out _ _ ⟨zc BK270 0, zc BK270 1, zc BK269 0, zc BK269 1, zc BK269 2⟩ (fun hHeld => ?_)
      clear hK K
      refine zW (some 8) ?_
      exact zA (hJ2_3_7_8 (gb281, gb282) _ ⟨hHeld, (zK BK269).out, (zK BK270).out, (zK BK281).out, (zK BK282).out, GW281.out, GE281.out, NB269_281.out, NB281_269.out, NB270_281.out, NB281_270.out, NB282_281.out, NB281_282.out, GW282.out, GE282.out, NB269_282.out, NB282_269.out, NB270_282.out, NB282_270.out, (zT HB)⟩)
    rintro ⟨gb281, gb282⟩ w27 ⟨hS_, h0_, h1_, h2_, h3_, h4_, h5_, h6_, h7_, h8_, h9_, h10_, h11_, h12_, h13_, h14_, h15_, h16_, h17_, h18_⟩
    replace BK269 := Aside0.mk h0_; replace BK270 := Aside0.mk h1_; have BK281 := Aside0.mk h2_; have BK282 := Aside0.mk h3_; have GW281 := Aside0.mk h4_; have GE281 := Aside0.mk h5_; have NB269_281 := Aside0.mk h6_; have NB281_269 := Aside0.mk h7_; have NB270_281 := Aside0.mk h8_; have NB281_270 := Aside0.mk h9_; have NB282_281 := Aside0.mk h10_; have NB281_282 := Aside0.mk h11_; have GW282 := Aside0.mk h12_; have GE282 := Aside0.mk h13_; have NB269_282 := Aside0.mk h14_; have NB282_269 := Aside0.mk h15_; have NB270_282 := Aside0.mk h16_; have NB282_270 := Aside0.mk h17_; replace HB := Aside0.mk h18_; clear h0_ h1_ h2_ h3_ h4_ h5_ h6_ h7_ h8_ h9_ h10_ h11_ h12_ h13_ h14_ h15_ h16_ h17_ h18_
    have hHeld := hS_
    refine norm_ (a' := ?_) ?_ ?_
    rotate_left
    ·simp only [putAll, Act.put, List.setIfInBounds_toArray, List.set_cons_zero, List.set_cons_succ]
     rfl
    refine one_ (i := 9) (N := none) (zb 11 1023) rfl rfl (one_of HT_.out (by kernel_rfl)) (by decide) (fun K hK => ?_)
    have hs28 : w27.cell? ⟨gb281, 0, none⟩ = some (.bool false) := zc BK281 0
    have hfs28 := blk_frozen BK281.out 0
    have hns28_0 := NB269_281.out
    have hns28_1 := NB270_281.out
    have hns28_3 := NB282_281.out
    have hms28_0 := NB281_269.out
    have hms28_1 := NB281_270.out
    have hms28_3 := NB281_282.out
    have hs29 : w27.cell? ⟨gb281, 1, none⟩ = some (.string (⟨#[]⟩ : ByteArray)) := zc BK281 1
    have hfs29 := blk_frozen BK281.out 1
    have hns29_0 := NB269_281.out
    have hns29_1 := NB270_281.out
    have hns29_3 := NB282_281.out
    have hms29_0 := NB281_269.out
    have hms29_1 := NB281_270.out
    have hms29_3 := NB281_282.out
    refine skip_ (w1 := ?_) (by rfl) rfl ?_ ?_
    rotate_left
    ·go_simp
     rfl
    refine hK.out _ _ ⟨((cell_far (p := ⟨gb281, _, none⟩) NB270_281.out _).trans (((cell_far (p := ⟨gb281, _, none⟩) NB270_281.out _).trans (hHeld.1)))), ((cell_far (p := ⟨gb281, _, none⟩) NB270_281.out _).trans (((cell_far (p := ⟨gb281, _, none⟩) NB270_281.out _).trans (hHeld.2.1)))), ((cell_far (p := ⟨gb281, _, none⟩) NB269_281.out _).trans (((cell_far (p := ⟨gb281, _, none⟩) NB269_281.out _).trans (hHeld.2.2.1)))), ((cell_far (p := ⟨gb281, _, none⟩) NB269_281.out _).trans (((cell_far (p := ⟨gb281, _, none⟩) NB269_281.out _).trans (hHeld.2.2.2.1)))), ((cell_far (p := ⟨gb281, _, none⟩) NB269_281.out _).trans (((cell_far (p := ⟨gb281, _, none⟩) NB269_281.out _).trans (hHeld.2.2.2.2))))⟩ (fun hHeld => ?_)
    clear hK K
    refine one_ (i := 10) (N := none) (zb 11 2047) rfl rfl (one_of HT_.out (by kernel_rfl)) (by decide) (fun K hK => ?_)
    have hs30 : w27.cell? ⟨gb282, 0, none⟩ = some (.bool false) := zc BK282 0
    have hfs30 := blk_frozen BK282.out 0
    have hns30_0 := NB269_282.out
    have hns30_1 := NB270_282.out
    have hns30_2 := NB281_282.out
    have hms30_0 := NB282_269.out
    have hms30_1 := NB282_270.out
    have hms30_2 := NB282_281.out
    have hs31 : w27.cell? ⟨gb282, 1, none⟩ = some (.string (⟨#[]⟩ : ByteArray)) := zc BK282 1
    have hfs31 := blk_frozen BK282.out 1
    have hns31_0 := NB269_282.out
    have hns31_1 := NB270_282.out
    have hns31_2 := NB281_282.out
    have hms31_0 := NB282_269.out
    have hms31_1 := NB282_270.out
    have hms31_2 := NB282_281.out
    refine skip_ (w1 := ?_) (by rfl) rfl ?_ ?_
    rotate_left
    ·go_simp
     rfl
    refine hK.out _ _ ⟨((cell_far (p := ⟨gb282, _, none⟩) NB270_282.out _).trans (((cell_far (p := ⟨gb282, _, none⟩) NB270_282.out _).trans (hHeld.1)))), ((cell_far (p := ⟨gb282, _, none⟩) NB270_282.out _).trans (((cell_far (p := ⟨gb282, _, none⟩) NB270_282.out _).trans (hHeld.2.1)))), ((cell_far (p := ⟨gb282, _, none⟩) NB269_282.out _).trans (((cell_far (p := ⟨gb282, _, none⟩) NB269_282.out _).trans (hHeld.2.2.1)))), ((cell_far (p := ⟨gb282, _, none⟩) NB269_282.out _).trans (((cell_far (p := ⟨gb282, _, none⟩) NB269_282.out _).trans (hHeld.2.2.2.1)))), ((cell_far (p := ⟨gb282, _, none⟩) NB269_282.out _).trans (((cell_far (p := ⟨gb282, _, none⟩) NB269_282.out _).trans (hHeld.2.2.2.2))))⟩ (fun hHeld => ?_)
    clear hK K
    refine done_ (done_of HT_.out (by kernel_rfl)) ?_
    try go_wp2
    have n0_ : Aside0 (((((w27.setCell ⟨gb281, 0, none⟩ (.bool t277)).setCell ⟨gb281, 1, none⟩ (.string t278)).setCell ⟨gb282, 0, none⟩ (.bool t279)).setCell ⟨gb282, 1, none⟩ (.string t280)).heap[gb269]? = some (.cells #[.bool a0_0, .string a0_1, .string a0_2] 27 (0, 0))) := zK BK269; have n1_ : Aside0 (((((w27.setCell ⟨gb281, 0, none⟩ (.bool t277)).setCell ⟨gb281, 1, none⟩ (.string t278)).setCell ⟨gb282, 0, none⟩ (.bool t279)).setCell ⟨gb282, 1, none⟩ (.string t280)).heap[gb270]? = some (.cells #[.bool x271000_1, .string x271001_1] 24 (0, 0))) := zK BK270; have n2_ : Aside0 (((((w27.setCell ⟨gb281, 0, none⟩ (.bool t277)).setCell ⟨gb281, 1, none⟩ (.string t278)).setCell ⟨gb282, 0, none⟩ (.bool t279)).setCell ⟨gb282, 1, none⟩ (.string t280)).heap[gb281]? = some (.cells #[.bool t277, .string t278] 24 (0, 0))) := ⟨by (with_reducible repeat (first | refine blk_drewN ?_ _ | refine blk_drew ?_ | refine blk_alloc ?_ _)); refine blk_far ?_ NB281_282.out _; (with_reducible repeat (first | refine blk_drewN ?_ _ | refine blk_drew ?_ | refine blk_alloc ?_ _)); refine blk_far ?_ NB281_282.out _; (with_reducible repeat (first | refine blk_drewN ?_ _ | refine blk_drew ?_ | refine blk_alloc ?_ _)); refine zP (cs := #[.bool t277, .string (⟨#[]⟩ : ByteArray)]) ?_ 1 _; (with_reducible repeat (first | refine blk_drewN ?_ _ | refine blk_drew ?_ | refine blk_alloc ?_ _)); refine zP (cs := #[.bool false, .string (⟨#[]⟩ : ByteArray)]) ?_ 0 _; (with_reducible repeat (first | refine blk_drewN ?_ _ | refine blk_drew ?_ | refine blk_alloc ?_ _)); exact BK281.out⟩; have n3_ : Aside0 (((((w27.setCell ⟨gb281, 0, none⟩ (.bool t277)).setCell ⟨gb281, 1, none⟩ (.string t278)).setCell ⟨gb282, 0, none⟩ (.bool t279)).setCell ⟨gb282, 1, none⟩ (.string t280)).heap[gb282]? = some (.cells #[.bool t279, .string t280] 24 (0, 0))) := ⟨by (with_reducible repeat (first | refine blk_drewN ?_ _ | refine blk_drew ?_ | refine blk_alloc ?_ _)); refine zP (cs := #[.bool t279, .string (⟨#[]⟩ : ByteArray)]) ?_ 1 _; (with_reducible repeat (first | refine blk_drewN ?_ _ | refine blk_drew ?_ | refine blk_alloc ?_ _)); refine zP (cs := #[.bool false, .string (⟨#[]⟩ : ByteArray)]) ?_ 0 _; (with_reducible repeat (first | refine blk_drewN ?_ _ | refine blk_drew ?_ | refine blk_alloc ?_ _)); refine blk_far ?_ NB282_281.out _; (with_reducible repeat (first | refine blk_drewN ?_ _ | refine blk_drew ?_ | refine blk_alloc ?_ _)); refine blk_far ?_ NB282_281.out _; (with_reducible repeat (first | refine blk_drewN ?_ _ | refine blk_drew ?_ | refine blk_alloc ?_ _)); exact BK282.out⟩; have n4_ : Aside0 (Below w.heap.size w ((((w27.setCell ⟨gb281, 0, none⟩ (.bool t277)).setCell ⟨gb281, 1, none⟩ (.string t278)).setCell ⟨gb282, 0, none⟩ (.bool t279)).setCell ⟨gb282, 1, none⟩ (.string t280))) := ⟨zT HB⟩
    (try clear BK269)
    (try clear BK270)
    (try clear BK281)
    (try clear BK282)
    (try clear HB)
    generalize ((((w27.setCell ⟨gb281, 0, none⟩ (.bool t277)).setCell ⟨gb281, 1, none⟩ (.string t278)).setCell ⟨gb282, 0, none⟩ (.bool t279)).setCell ⟨gb282, 1, none⟩ (.string t280)) = w32 at n0_ n1_ n2_ n3_ n4_ ⊢
    have BK269 := n0_; have BK270 := n1_
    have BK281 := n2_; have BK282 := n3_
    have HB := n4_; clear n0_ n1_ n2_ n3_ n4_
    replace BK269 := zD BK269; replace BK270 := zD BK270; replace BK281 := zD BK281; replace BK282 := zD BK282; replace HB := zF HB
    refine start_ (n := 7) (S := fun w' => w'.cell? ⟨gb282, 0, none⟩ = some (.bool t279) ∧ w'.cell? ⟨gb282, 1, none⟩ = some (.string t280) ∧ w'.cell? ⟨gb269, 0, none⟩ = some (.bool a0_0) ∧ w'.cell? ⟨gb269, 1, none⟩ = some (.string a0_1) ∧ w'.cell? ⟨gb269, 2, none⟩ = some (.string a0_2)) (ds := []) (zb 7 0) (by kernel_rfl) rfl rfl ⟨zc BK282 0, zc BK282 1, zc BK269 0, zc BK269 1, zc BK269 2⟩ (fun hHeld => ?_)
    generalize w32.drew = w33 at BK269 BK270 BK281 BK282 HB hHeld ⊢
    refine take_ (i := 0) (N := some 31) (v := ?_) (a' := ?_) (zb 7 1) rfl rfl (by kernel_rfl) (fun _ _ _ h => h) (Or.inl ⟨by rfl, ?_⟩) hHeld ?_ ?_
    rotate_left
    ·rintro w' ⟨s0, s1, s2, s3, s4⟩
     go_simp
     with_reducible rfl
    rotate_left
    ·simp only [Act.put, List.setIfInBounds_toArray, List.set_cons_zero, List.set_cons_succ, i64_w, i32_w]
     rfl
    refine take_ (i := 1) (N := some 32) (v := ?_) (a' := ?_) (zb 7 3) rfl rfl (by kernel_rfl) (fun _ _ _ h => h) (Or.inl ⟨by rfl, ?_⟩) hHeld ?_ ?_
    rotate_left
    ·rintro w' ⟨s0, s1, s2, s3, s4⟩
     go_simp
     with_reducible rfl
    rotate_left
    ·simp only [Act.put, List.setIfInBounds_toArray, List.set_cons_zero, List.set_cons_succ, i64_w, i32_w]
     rfl
    refine take_ (i := 3) (N := some 34) (v := ?_) (a' := ?_) (zb 7 11) rfl rfl (by kernel_rfl) (fun _ _ _ h => h) (Or.inl ⟨by rfl, ?_⟩) hHeld ?_ ?_
    rotate_left
    ·rintro w' ⟨s0, s1, s2, s3, s4⟩
     go_simp
     with_reducible rfl
    rotate_left
    ·simp only [Act.put, List.setIfInBounds_toArray, List.set_cons_zero, List.set_cons_succ, i64_w, i32_w]
     rfl
    refine one_ (i := 2) (N := some 33) (zb 7 15) rfl rfl (by kernel_rfl) (by decide) (fun K hK => ?_)
    refine zJ Tryz.func65 (by kernel_rfl) (gussetref02_Sum.calls t279 t280 t279 t280 t283 t284 _ A18.out) fun w34 hb => ?_
    obtain ⟨BK269, BK270, BK281, BK282⟩ := zB4 BK269 BK270 BK281 BK282 hb; replace HB := zS HB hb
    (try clear hb)
    refine hK.out _ _ ⟨zc BK282 0, zc BK282 1, zc BK269 0, zc BK269 1, zc BK269 2⟩ (fun hHeld => ?_)
    clear hK K
    refine zW (some 33) ?_
    refine one_ (i := 4) (N := some 35) (zb 7 31) rfl rfl (by kernel_rfl) (by decide) (fun K hK => ?_)
    refine zJ Tryz.func56 (by kernel_rfl) (gussetref03_den.calls a0_0 a0_1 a0_2 t285 t286 _ A19.out) fun w35 hb => ?_
    obtain ⟨BK269, BK270, BK281, BK282⟩ := zB4 BK269 BK270 BK281 BK282 hb; replace HB := zS HB hb
    (try clear hb)
    refine hK.out _ _ ⟨zc BK282 0, zc BK282 1, zc BK269 0, zc BK269 1, zc BK269 2⟩ (fun hHeld => ?_)
    clear hK K
    refine zW (some 35) ?_
    refine one_ (i := 5) (N := some 36) (zb 7 63) rfl rfl (by kernel_rfl) (by decide) (fun K hK => ?_)
    refine zJ Tryz.func64 (by kernel_rfl) (gussetref02_Order.calls t283 t284 t285 t286 t287 _ A20.out) fun w36 hb => ?_
    obtain ⟨BK269, BK270, BK281, BK282⟩ := zB4 BK269 BK270 BK281 BK282 hb; replace HB := zS HB hb
    (try clear hb)
    refine hK.out _ _ ⟨zc BK282 0, zc BK282 1, zc BK269 0, zc BK269 1, zc BK269 2⟩ (fun hHeld => ?_)
    clear hK K
    refine zW (some 36) ?_
    refine pure_ (i := 6) (N := some 9) (v := ?_) (a' := ?_) (zb 7 127) rfl rfl (by kernel_rfl) (fun _ _ _ h => h) (Or.inl ⟨by rfl, ?_⟩) ?_ ?_
    rotate_left
    ·intro w'
     go_simp
     with_reducible rfl
    rotate_left
    ·simp only [Act.put, List.setIfInBounds_toArray, List.set_cons_zero, List.set_cons_succ, i64_w, i32_w]
     rfl
    refine done_ (by kernel_rfl) ?_
    go_upto_region 8 with (fail)
    go_cut [10] (fun v10 wc => ∃ (kq : Nat) (x10_20 : Bool), v10 = .bool x10_20 ∧ Aside0 (gussetref03_Decimal.j1 kq a1 t287 x10_20 a0_0 a0_1 a0_2 t277 t278 = some r) ∧ Aside0 (kq ≤ k1) ∧ Aside0 (wc.heap[gb269]? = some (.cells #[.bool a0_0, .string a0_1, .string a0_2] 27 (0, 0))) ∧ Aside0 (wc.heap[gb270]? = some (.cells #[.bool x271000_1, .string x271001_1] 24 (0, 0))) ∧ Aside0 (wc.heap[gb281]? = some (.cells #[.bool t277, .string t278] 24 (0, 0))) ∧ Aside0 (wc.heap[gb282]? = some (.cells #[.bool t279, .string t280] 24 (0, 0))) ∧ Aside0 (Below w.heap.size w wc))
    case first =>
     have H := HC21.out
     clear HC21
     by_cases c37 : t278.toList = ([] : List UInt8)
     ·rw [if_pos c37] at H
      have c37b0 := beq_iff_eq.mpr c37
      have c37b1 := bne_eq_false_iff_eq.mpr c37
      clear c37
      (first | rw [c37b0] | (simp only [i64_w, i32_w]; rw [c37b0]) | skip)
      have H' := Aside0.mk H
      clear H; have hnb38 := NB281_269.out; have hnc38 := NB269_281.out; have hnb39 := NB281_270.out; have hnc39 := NB270_281.out; have hnb40 := NB281_282.out; have hnc40 := NB282_281.out; obtain ⟨hcz41_0, hcz41_1, hfz41_0, hfz41_1⟩ := z2 BK281
      go_wp2
      go_meet
      case rel => exact ⟨_, (false), zR, H', ⟨by have := HK1.out; first | omega | exact Nat.le_refl _⟩, zK BK269, zK BK270, zK BK281, zK BK282, ⟨zT HB⟩⟩
     ·rw [if_neg c37] at H
      have c37b0 := beq_eq_false_iff_ne.mpr c37
      have c37b1 := bne_iff_ne.mpr c37
      (first | rw [c37b0] | (simp only [i64_w, i32_w]; rw [c37b0]) | skip)
      obtain ⟨ji42, hji42⟩ : ∃ j_ : Int, (wrap64 ((t278.size : Int) - 1)) = j_ := ⟨_, rfl⟩
      replace H : (if 0 ≤ (ji42) then (if (ji42) < (t278.size : Int) then (gussetref03_Decimal.j1 k1 a1 t287 ((Int.tmod (bt t278 (ji42)) 2) == 1) a0_0 a0_1 a0_2 t277 t278) else (none)) else (none)) = some r := by first | (rw [hji42] at H; exact H) | (simp only [hji42] at H ⊢; exact H)
      have hji42w : (IntKind.i64.wrap ((t278.size : Int) - 1)) = ji42 := (i64_w _).trans hji42
      by_cases c43 : 0 ≤ (ji42)
      ·rw [if_pos c43] at H
       have c43b0 := decide_eq_true c43
       clear c43
       by_cases c44 : (ji42) < (t278.size : Int)
       ·rw [if_pos c44] at H
        have c44b0 := decide_eq_true c44
        clear c44
        have H' := Aside0.mk H
        clear H; have hnb46 := NB281_269.out; have hnc46 := NB269_281.out; have hnb47 := NB281_270.out; have hnc47 := NB270_281.out; have hnb48 := NB281_282.out; have hnc48 := NB282_281.out; obtain ⟨hcz49_0, hcz49_1, hfz49_0, hfz49_1⟩ := z2 BK281
        have p45 : 0 ≤ ((ji42) : Int) := of_decide_eq_true (by first | (with_reducible assumption) | assumption)
        have q45 : (ji42) < (t278.size : Int) := of_decide_eq_true (by first | (with_reducible assumption) | assumption)
        have hx45 := bt_at t278 (ji42)
        replace p45 := eq_true p45
        replace q45 := eq_true q45
        go_wp2
        go_meet
        case rel => exact ⟨_, (((Int.tmod (bt t278 (ji42)) 2) == 1)), (by first | rfl | (simp; done) | (simp only [← hji42] <;> (first | rfl | simp)) | (simp [*]; done)), H', ⟨by have := HK1.out; first | omega | exact Nat.le_refl _⟩, zK BK269, zK BK270, zK BK281, zK BK282, ⟨zT HB⟩⟩
       ·rw [if_neg c44] at H
        exact absurd H (by simp)
      ·rw [if_neg c43] at H
       exact absurd H (by simp)
    case rest =>
     clear HC21
     try clear p2; try clear c3; try clear c4; try clear p4; try clear q4; try clear hx4; try clear c5; try clear c6; try clear p6; try clear c37; try clear c37b0; try clear c37b1; try clear c38; try clear c39; try clear c40; try clear c43; try clear c43b0; try clear c44; try clear c44b0; try clear p45; try clear q45; try clear hx45; try clear c46; try clear c47; try clear c48; try clear hcz41_0; try clear hcz41_1; try clear hcz49_0; try clear hcz49_1; try clear hfz41_0; try clear hfz41_1; try clear hfz49_0; try clear hfz49_1; try clear p45; try clear q45
     obtain ⟨kq, x10_20, rfl, HA, HJ20, BK269, BK270, BK281, BK282, HB⟩ := hcut
     cases kq with
     | zero => exact absurd HA.out (by simp [gussetref03_Decimal.j1])
     | succ kj20 =>
      have H := HA.out
      clear HA
      simp only [gussetref03_Decimal.j1] at H
      have HC50 := Aside0.mk H
      clear H
      go_upto_region 9 with (fail)
      go_cut [59] (fun v59 wc => ∃ (kq : Nat) (x59_49 : Bool), v59 = .bool x59_49 ∧ Aside0 (gussetref03_Decimal.j2 kq a1 x59_49 a0_0 a0_1 a0_2 t277 t278 = some r) ∧ Aside0 (kq ≤ kj20) ∧ Aside0 (wc.heap[gb269]? = some (.cells #[.bool a0_0, .string a0_1, .string a0_2] 27 (0, 0))) ∧ Aside0 (wc.heap[gb270]? = some (.cells #[.bool x271000_1, .string x271001_1] 24 (0, 0))) ∧ Aside0 (wc.heap[gb281]? = some (.cells #[.bool t277, .string t278] 24 (0, 0))) ∧ Aside0 (wc.heap[gb282]? = some (.cells #[.bool t279, .string t280] 24 (0, 0))) ∧ Aside0 (Below w.heap.size w wc))
      case first =>
       have H := HC50.out
       clear HC50
       by_cases c51 : t287 > 0
       ·rw [if_pos c51] at H
        have c51b0 := decide_eq_true c51
        clear c51
        (first | rw [c51b0] | (simp only [i64_w, i32_w]; rw [c51b0]) | skip)
        have H' := Aside0.mk H
        clear H
        go_wp2
        go_meet
        case rel => exact ⟨_, (true), zR, H', ⟨by have := HK1.out; have := HJ20.out; first | omega | exact Nat.le_refl _⟩, zK BK269, zK BK270, zK BK281, zK BK282, ⟨zT HB⟩⟩
       ·rw [if_neg c51] at H
        have c51b0 := decide_eq_false c51
        clear c51
        (first | rw [c51b0] | (simp only [i64_w, i32_w]; rw [c51b0]) | skip)
        by_cases c52 : t287 = 0
        ·rw [if_pos c52] at H
         have c52b0 := beq_iff_eq.mpr c52
         have c52b1 := bne_eq_false_iff_eq.mpr c52
         clear c52
         have H' := Aside0.mk H
         clear H
         go_wp2
         go_meet
         case rel => exact ⟨_, (x10_20), zR, H', ⟨by have := HK1.out; have := HJ20.out; first | omega | exact Nat.le_refl _⟩, zK BK269, zK BK270, zK BK281, zK BK282, ⟨zT HB⟩⟩
        ·rw [if_neg c52] at H
         have c52b0 := beq_eq_false_iff_ne.mpr c52
         have c52b1 := bne_iff_ne.mpr c52
         have H' := Aside0.mk H
         clear H
         go_wp2
         go_meet
         case rel => exact ⟨_, (false), zR, H', ⟨by have := HK1.out; have := HJ20.out; first | omega | exact Nat.le_refl _⟩, zK BK269, zK BK270, zK BK281, zK BK282, ⟨zT HB⟩⟩
      case rest =>
       clear HC50
       try clear p2; try clear c3; try clear c4; try clear p4; try clear q4; try clear hx4; try clear c5; try clear c6; try clear p6; try clear c37; try clear c37b0; try clear c37b1; try clear c38; try clear c39; try clear c40; try clear c43; try clear c43b0; try clear c44; try clear c44b0; try clear p45; try clear q45; try clear hx45; try clear c46; try clear c47; try clear c48; try clear c51; try clear c51b0; try clear c52; try clear c52b0; try clear c52b1; try clear hcz41_0; try clear hcz41_1; try clear hcz49_0; try clear hcz49_1; try clear hfz41_0; try clear hfz41_1; try clear hfz49_0; try clear hfz49_1; try clear p2; try clear p4; try clear p45; try clear p6; try clear q4; try clear q45
       obtain ⟨kq, x59_49, rfl, HA, HJ49, BK269, BK270, BK281, BK282, HB⟩ := hcut
       cases kq with
       | zero => exact absurd HA.out (by simp [gussetref03_Decimal.j2])
       | succ kj49 =>
        have H := HA.out
        clear HA
        simp only [gussetref03_Decimal.j2] at H
        have HC53 := Aside0.mk H
        clear H
        go_upto_if 59 with (fail)
        go_cut [] (fun wc => ∃ (kq : Nat) (x282000_52 : Bool) (x282001_52 : ByteArray), Aside0 (gussetref03_Decimal.j3 kq a1 a0_0 a0_1 a0_2 x282000_52 x282001_52 = some r) ∧ Aside0 (kq ≤ kj49) ∧ Aside0 (wc.heap[gb269]? = some (.cells #[.bool a0_0, .string a0_1, .string a0_2] 27 (0, 0))) ∧ Aside0 (wc.heap[gb270]? = some (.cells #[.bool x271000_1, .string x271001_1] 24 (0, 0))) ∧ Aside0 (wc.heap[gb281]? = some (.cells #[.bool x282000_52, .string x282001_52] 24 (0, 0))) ∧ Aside0 (wc.heap[gb282]? = some (.cells #[.bool t279, .string t280] 24 (0, 0))) ∧ Aside0 (Below w.heap.size w wc))
        case first =>
         have H := HC53.out
         clear HC53
         by_cases c54 : x59_49 = true
         ·subst c54
          rw [if_pos rfl] at H
          obtain ⟨⟨t288, t289⟩, A55, H⟩ := zo H; try dsimp only at H
          obtain ⟨⟨t290, t291⟩, A56, H⟩ := zo H; try dsimp only at H
          have H' := Aside0.mk H
          clear H
          try go_wp2
          replace BK269 := zD BK269; replace BK270 := zD BK270; replace BK281 := zD BK281; replace BK282 := zD BK282; replace HB := zF HB
          refine start_ (n := 4) (S := fun w' => w'.cell? ⟨gb281, 0, none⟩ = some (.bool t277) ∧ w'.cell? ⟨gb281, 1, none⟩ = some (.string t278)) (ds := [3]) (zb 4 0) (by kernel_rfl) rfl rfl ⟨zc BK281 0, zc BK281 1⟩ (fun hHeld => ?_)
          generalize wc.drew = w57 at BK269 BK270 BK281 BK282 HB hHeld ⊢
          refine take_ (i := 0) (N := some 60) (v := ?_) (a' := ?_) (zb 4 1) rfl rfl (by kernel_rfl) (fun _ _ _ h => h) (Or.inl ⟨by rfl, ?_⟩) hHeld ?_ ?_
          rotate_left
          ·rintro w' ⟨s0, s1⟩
           go_simp
           with_reducible rfl
          rotate_left
          ·simp only [Act.put, List.setIfInBounds_toArray, List.set_cons_zero, List.set_cons_succ, i64_w, i32_w]
           rfl
          refine one_ (i := 1) (N := some 61) (zb 4 3) rfl rfl (by kernel_rfl) (by decide) (fun K hK => ?_)
          refine zJ Tryz.func23 (by kernel_rfl) (gussetref02_Of.calls 1 t288 t289 _ A55.out) fun w58 hb => ?_
          obtain ⟨BK269, BK270, BK281, BK282⟩ := zB4 BK269 BK270 BK281 BK282 hb; replace HB := zS HB hb
          (try clear hb)
          refine hK.out _ _ ⟨zc BK281 0, zc BK281 1⟩ (fun hHeld => ?_)
          clear hK K
          refine zW (some 61) ?_
          refine one_ (i := 2) (N := some 62) (zb 4 7) rfl rfl (by kernel_rfl) (by decide) (fun K hK => ?_)
          refine zJ Tryz.func65 (by kernel_rfl) (gussetref02_Sum.calls t277 t278 t288 t289 t290 t291 _ A56.out) fun w59 hb => ?_
          obtain ⟨BK269, BK270, BK281, BK282⟩ := zB4 BK269 BK270 BK281 BK282 hb; replace HB := zS HB hb
          (try clear hb)
          refine hK.out _ _ ⟨zc BK281 0, zc BK281 1⟩ (fun hHeld => ?_)
          clear hK K
          refine zW (some 62) ?_
          refine last_ (i := 3) (N := none) (zb 4 15) rfl rfl (by kernel_rfl) (by decide) (fun K hK => ?_)
          have hs60 : w59.cell? ⟨gb281, 0, none⟩ = some (.bool t277) := zc BK281 0
          have hfs60 := blk_frozen BK281.out 0
          have hns60_0 := NB269_281.out
          have hns60_1 := NB270_281.out
          have hns60_3 := NB282_281.out
          have hms60_0 := NB281_269.out
          have hms60_1 := NB281_270.out
          have hms60_3 := NB281_282.out
          have hs61 : w59.cell? ⟨gb281, 1, none⟩ = some (.string t278) := zc BK281 1
          have hfs61 := blk_frozen BK281.out 1
          have hns61_0 := NB269_281.out
          have hns61_1 := NB270_281.out
          have hns61_3 := NB282_281.out
          have hms61_0 := NB281_269.out
          have hms61_1 := NB281_270.out
          have hms61_3 := NB281_282.out
          refine skip_ (w1 := ?_) (by rfl) rfl ?_ ?_
          rotate_left
          ·go_simp
           rfl
          refine hK.out _ _ ?_
          clear hK K
          refine done_ (by kernel_rfl) ?_
          try go_wp2
          go_meet
          case rel => exact ⟨_, (t290), (t291), H', ⟨by have := HK1.out; have := HJ20.out; have := HJ49.out; first | omega | exact Nat.le_refl _⟩, zK BK269, zK BK270, ⟨by (with_reducible repeat (first | refine blk_drewN ?_ _ | refine blk_drew ?_ | refine blk_alloc ?_ _)); refine zP (cs := #[.bool t290, .string t278]) ?_ 1 _; (with_reducible repeat (first | refine blk_drewN ?_ _ | refine blk_drew ?_ | refine blk_alloc ?_ _)); refine zP (cs := #[.bool t277, .string t278]) ?_ 0 _; (with_reducible repeat (first | refine blk_drewN ?_ _ | refine blk_drew ?_ | refine blk_alloc ?_ _)); exact BK281.out⟩, zK BK282, ⟨zT HB⟩⟩
         ·replace c54 := Bool.eq_false_iff.mpr c54
          subst c54
          rw [if_neg zn] at H
          have H' := Aside0.mk H
          clear H
          go_wp2
          go_meet
          case rel => exact ⟨_, (t277), (t278), H', ⟨by have := HK1.out; have := HJ20.out; have := HJ49.out; first | omega | exact Nat.le_refl _⟩, zK BK269, zK BK270, zK BK281, zK BK282, ⟨zT HB⟩⟩
        case rest =>
         clear HC53
         try clear c2; try clear p2; try clear c3; try clear c4; try clear p4; try clear q4; try clear hx4; try clear c5; try clear c6; try clear p6; try clear c23; try clear c37; try clear c37b0; try clear c37b1; try clear c38; try clear c39; try clear c40; try clear c43; try clear c43b0; try clear c44; try clear c44b0; try clear p45; try clear q45; try clear hx45; try clear c46; try clear c47; try clear c48; try clear c51; try clear c51b0; try clear c52; try clear c52b0; try clear c52b1; try clear c54; try clear c56; try clear hcz41_0; try clear hcz41_1; try clear hcz49_0; try clear hcz49_1; try clear hfz41_0; try clear hfz41_1; try clear hfz49_0; try clear hfz49_1; try clear p2; try clear p4; try clear p45; try clear p6; try clear q4; try clear q45
         obtain ⟨kq, x282000_52, x282001_52, HA, HJ52, BK269, BK270, BK281, BK282, HB⟩ := hcut
         cases kq with
         | zero => exact absurd HA.out (by simp [gussetref03_Decimal.j3])
         | succ kj52 =>
          have H := HA.out
          clear HA
          simp only [gussetref03_Decimal.j3] at H
          obtain ⟨t292, A62, H⟩ := zo H
          have H' := Aside0.mk H
          clear H; have hnb63 := NB281_269.out; have hnc63 := NB269_281.out; have hnb64 := NB281_270.out; have hnc64 := NB270_281.out; have hnb65 := NB281_282.out; have hnc65 := NB282_281.out; obtain ⟨hcz66_0, hcz66_1, hfz66_0, hfz66_1⟩ := z2 BK281
          go_wp2_with (first | ((with_reducible refine gate_callee (f := 66) rfl ?_); refine zO Tryz.func66 (by kernel_rfl) (gussetref02_Text.calls x282000_52 x282001_52 t292 _ A62.out) fun w67 hb => ?_; obtain ⟨BK269, BK270, BK281, BK282⟩ := zB4 BK269 BK270 BK281 BK282 hb; replace HB := zS HB hb; (try clear hb)))
          go_loopg [11] kj52 (fun kq v11 w' => ∃ (x11_5 : ByteArray), v11 = .string x11_5 ∧ Aside0 (gussetref03_Decimal.l1 kq a1 x11_5 a0_0 a0_1 a0_2 x282000_52 x282001_52 = some r) ∧ Aside0 (kq ≤ kj52) ∧ Aside0 (w'.heap[gb269]? = some (.cells #[.bool a0_0, .string a0_1, .string a0_2] 27 (0, 0))) ∧ Aside0 (w'.heap[gb270]? = some (.cells #[.bool x271000_1, .string x271001_1] 24 (0, 0))) ∧ Aside0 (w'.heap[gb281]? = some (.cells #[.bool x282000_52, .string x282001_52] 24 (0, 0))) ∧ Aside0 (w'.heap[gb282]? = some (.cells #[.bool t279, .string t280] 24 (0, 0))) ∧ Aside0 (Below w.heap.size w w'))
          case atStart => exact ⟨(t292), zR, H', ⟨Nat.le_refl _⟩, zK BK269, zK BK270, zK BK281, zK BK282, ⟨zT HB⟩⟩
          case round =>
           clear H'
           try clear c2; try clear p2; try clear c3; try clear c4; try clear p4; try clear q4; try clear hx4; try clear c5; try clear c6; try clear p6; try clear c23; try clear c37; try clear c37b0; try clear c37b1; try clear c38; try clear c39; try clear c40; try clear c43; try clear c43b0; try clear c44; try clear c44b0; try clear p45; try clear q45; try clear hx45; try clear c46; try clear c47; try clear c48; try clear c51; try clear c51b0; try clear c52; try clear c52b0; try clear c52b1; try clear c54; try clear c56; try clear c63; try clear c64; try clear p64; try clear c65; try clear c66; try clear hcz41_0; try clear hcz41_1; try clear hcz49_0; try clear hcz49_1; try clear hcz66_0; try clear hcz66_1; try clear hfz41_0; try clear hfz41_1; try clear hfz49_0; try clear hfz49_1; try clear hfz66_0; try clear hfz66_1; try clear p2; try clear p4; try clear p45; try clear p6; try clear q4; try clear q45
           obtain ⟨x11_5, rfl, HA, HK5, BK269, BK270, BK281, BK282, HB⟩ := hrel
           cases gk with
           | zero => exact absurd HA.out (by simp [gussetref03_Decimal.l1])
           | succ k5 =>
            have H := HA.out
            clear HA
            simp only [gussetref03_Decimal.l1] at H
            by_cases c68 : (x11_5.size : Int) ≤ a1
            ·rw [if_pos c68] at H
             have c68b0 := decide_eq_true c68
             clear c68
             by_cases c69 : 1 + x11_5.size ≤ 9223372036854775807
             ·rw [if_pos c69] at H
              have c69b0 := eq_true c69
              have c69b1 := decide_eq_true c69
              try have c69b2 : (9223372036854775807 < 1 + x11_5.size) = False := eq_false (Nat.not_lt.2 c69)
              have H' := Aside0.mk H
              clear H
              go_wp2
              go_roundg k5
              case measure => have := HK1.out; have := HJ20.out; have := HJ49.out; have := HJ52.out; have := HK5.out; omega
              case rel => exact ⟨((⟨#[48]⟩ : ByteArray) ++ x11_5), zR, H', ⟨by have := HK1.out; have := HJ20.out; have := HJ49.out; have := HJ52.out; have := HK5.out; omega⟩, zK BK269, zK BK270, zK BK281, zK BK282, ⟨zT HB⟩⟩
             ·rw [if_neg c69] at H
              exact absurd H (by simp)
            ·rw [if_neg c68] at H
             have c68b0 := decide_eq_false c68
             clear c68
             have HC70 := Aside0.mk H
             clear H
             go_upto_if 72 with (fail)
             go_cut [11] (fun v11 wc => ∃ (kq : Nat) (x11_69 : ByteArray), v11 = .string x11_69 ∧ Aside0 (gussetref03_Decimal.j5 kq x11_69 a0_0 a0_1 a0_2 x282000_52 x282001_52 = some r) ∧ Aside0 (kq ≤ k5) ∧ Aside0 (wc.heap[gb269]? = some (.cells #[.bool a0_0, .string a0_1, .string a0_2] 27 (0, 0))) ∧ Aside0 (wc.heap[gb270]? = some (.cells #[.bool x271000_1, .string x271001_1] 24 (0, 0))) ∧ Aside0 (wc.heap[gb281]? = some (.cells #[.bool x282000_52, .string x282001_52] 24 (0, 0))) ∧ Aside0 (wc.heap[gb282]? = some (.cells #[.bool t279, .string t280] 24 (0, 0))) ∧ Aside0 (Below w.heap.size w wc))
             case first =>
              have H := HC70.out
              clear HC70
              by_cases c71 : a1 > 0
              ·rw [if_pos c71] at H
               have c71b0 := decide_eq_true c71
               clear c71
               (first | rw [c71b0] | (simp only [i64_w, i32_w]; rw [c71b0]) | skip)
               obtain ⟨ji72, hji72⟩ : ∃ j_ : Int, (wrap64 ((x11_5.size : Int) - a1)) = j_ := ⟨_, rfl⟩
               replace H : (if 0 ≤ (ji72) then (if (ji72) ≤ (x11_5.size : Int) then (if (x11_5.extract 0 ((ji72) : Int).toNat).size + 1 ≤ 9223372036854775807 then (if ((x11_5.extract 0 ((ji72) : Int).toNat) ++ (⟨#[46]⟩ : ByteArray)).size + (x11_5.extract ((ji72) : Int).toNat x11_5.size).size ≤ 9223372036854775807 then (gussetref03_Decimal.j5 k5 (((x11_5.extract 0 ((ji72) : Int).toNat) ++ (⟨#[46]⟩ : ByteArray)) ++ (x11_5.extract ((ji72) : Int).toNat x11_5.size)) a0_0 a0_1 a0_2 x282000_52 x282001_52) else (none)) else (none)) else (none)) else (none)) = some r := by first | (rw [hji72] at H; exact H) | (simp only [hji72] at H ⊢; exact H)
               have hji72w : (IntKind.i64.wrap ((x11_5.size : Int) - a1)) = ji72 := (i64_w _).trans hji72
               by_cases c73 : 0 ≤ (ji72)
               ·rw [if_pos c73] at H
                have c73b0 := eq_true c73
                have c73b1 := decide_eq_true c73
                clear c73
                by_cases c74 : (ji72) ≤ (x11_5.size : Int)
                ·rw [if_pos c74] at H
                 have c74b0 := eq_true c74
                 have c74b1 := decide_eq_true c74
                 clear c74
                 by_cases c75 : (x11_5.extract 0 ((ji72) : Int).toNat).size + 1 ≤ 9223372036854775807
                 ·rw [if_pos c75] at H
                  have c75b0 := eq_true c75
                  have c75b1 := decide_eq_true c75
                  try have c75b2 : (9223372036854775807 < (x11_5.extract 0 ((ji72) : Int).toNat).size + 1) = False := eq_false (Nat.not_lt.2 c75)
                  try have c75b3 : (9223372036854775807 < ji72.toNat + 1) = False := eq_false (by have h := c75; have h1 : 0 ≤ ji72 := of_decide_eq_true (by assumption); have h2 : ji72 ≤ (x11_5.size : Int) := of_decide_eq_true (by assumption); rw [ByteArray.size_extract] at h; omega)
                  have c76b0 := eq_true (of_decide_eq_true (by first | (with_reducible assumption) | assumption) : 0 ≤ (ji72))
                  have c77b0 := eq_true (of_decide_eq_true (by first | (with_reducible assumption) | assumption) : (ji72) ≤ (x11_5.size : Int))
                  by_cases c78 : ((x11_5.extract 0 ((ji72) : Int).toNat) ++ (⟨#[46]⟩ : ByteArray)).size + (x11_5.extract ((ji72) : Int).toNat x11_5.size).size ≤ 9223372036854775807
                  ·rw [if_pos c78] at H
                   have c78b0 := eq_true c78
                   have c78b1 := decide_eq_true c78
                   try have c78b2 : (9223372036854775807 < ((x11_5.extract 0 ((ji72) : Int).toNat) ++ (⟨#[46]⟩ : ByteArray)).size + (x11_5.extract ((ji72) : Int).toNat x11_5.size).size) = False := eq_false (Nat.not_lt.2 c78)
                   try have c78b3 : (9223372036854775807 < ji72.toNat + 1 + (x11_5.size - ji72.toNat)) = False := eq_false (by have h := c78; have h1 : 0 ≤ ji72 := of_decide_eq_true (by assumption); have h2 : ji72 ≤ (x11_5.size : Int) := of_decide_eq_true (by assumption); rw [ByteArray.size_append, ByteArray.size_extract, ByteArray.size_extract] at h; have h3 : (⟨#[46]⟩ : ByteArray).size = 1 := rfl; omega)
                   have H' := Aside0.mk H
                   clear H
                   try go_wp2
                   replace BK269 := zD BK269; replace BK270 := zD BK270; replace BK281 := zD BK281; replace BK282 := zD BK282; replace HB := zF HB
                   refine start_ (n := 15) (S := fun w' => True) (ds := []) (zb 15 0) (by kernel_rfl) rfl rfl trivial (fun hHeld => ?_); refine with_tabW gussetref03_Decimal.tab15 gussetref03_Decimal.bits15 (fun HT_ HW_ => ?_)
                   generalize wr.drew = w79 at BK269 BK270 BK281 BK282 HB hHeld ⊢
                   refine zU (i := 0) (N := some 73) (zb 15 1) (any_of HT_.out (by kernel_rfl)) ?_
                   refine zU (i := 1) (N := some 74) (zb 15 3) (any_of HT_.out (by kernel_rfl)) ?_
                   refine zU (i := 2) (N := some 75) (zb 15 7) (any_of HT_.out (by kernel_rfl)) ?_
                   refine zU (i := 3) (N := some 76) (zb 15 15) (any_of HT_.out (by kernel_rfl)) ?_
                   refine zU (i := 4) (N := some 77) (zb 15 31) (any_of HT_.out (by kernel_rfl)) ?_
                   refine zU (i := 5) (N := some 78) (zb 15 63) (any_of HT_.out (by kernel_rfl)) ?_
                   refine zU (i := 6) (N := some 79) (zb 15 127) (any_of HT_.out (by kernel_rfl)) ?_
                   refine zU (i := 7) (N := some 80) (zb 15 255) (any_of HT_.out (by kernel_rfl)) ?_
                   refine zU (i := 8) (N := some 81) (zb 15 511) (any_of HT_.out (by kernel_rfl)) ?_
                   refine zU (i := 9) (N := some 82) (zb 15 1023) (any_of HT_.out (by kernel_rfl)) ?_
                   refine zU (i := 10) (N := some 83) (zb 15 2047) (any_of HT_.out (by kernel_rfl)) ?_
                   refine zU (i := 11) (N := some 84) (zb 15 4095) (any_of HT_.out (by kernel_rfl)) ?_
                   refine zU (i := 12) (N := some 85) (zb 15 8191) (any_of HT_.out (by kernel_rfl)) ?_
                   refine zU (i := 13) (N := some 86) (zb 15 16383) (any_of HT_.out (by kernel_rfl)) ?_
                   refine zU (i := 14) (N := some 11) (zb 15 32767) (any_of HT_.out (by kernel_rfl)) ?_
                   refine done_ (done_of HT_.out (by kernel_rfl)) ?_
                   try go_wp2
                   go_meet
                   case rel => exact ⟨_, (((x11_5.extract 0 ((ji72) : Int).toNat) ++ (⟨#[46]⟩ : ByteArray)) ++ (x11_5.extract ((ji72) : Int).toNat x11_5.size)), (by first | rfl | (simp; done) | (simp only [← hji72] <;> (first | rfl | simp)) | (simp [*]; done)), H', ⟨by have := HK1.out; have := HJ20.out; have := HJ49.out; have := HJ52.out; have := HK5.out; first | omega | exact Nat.le_refl _⟩, zK BK269, zK BK270, zK BK281, zK BK282, ⟨zT HB⟩⟩
                  ·rw [if_neg c78] at H
                   exact absurd H (by simp)
                 ·rw [if_neg c75] at H
                  exact absurd H (by simp)
                ·rw [if_neg c74] at H
                 exact absurd H (by simp)
               ·rw [if_neg c73] at H
                exact absurd H (by simp)
              ·rw [if_neg c71] at H
               have c71b0 := decide_eq_false c71
               clear c71
               (first | rw [c71b0] | (simp only [i64_w, i32_w]; rw [c71b0]) | skip)
               have H' := Aside0.mk H
               clear H
               go_wp2
               go_meet
               case rel => exact ⟨_, (x11_5), zR, H', ⟨by have := HK1.out; have := HJ20.out; have := HJ49.out; have := HJ52.out; have := HK5.out; first | omega | exact Nat.le_refl _⟩, zK BK269, zK BK270, zK BK281, zK BK282, ⟨zT HB⟩⟩
             case rest =>
              clear HC70
              try clear c2; try clear p2; try clear c3; try clear c4; try clear p4; try clear q4; try clear hx4; try clear c5; try clear c6; try clear p6; try clear c7; try clear c23; try clear c37; try clear c37b0; try clear c37b1; try clear c38; try clear c39; try clear c40; try clear c43; try clear c43b0; try clear c44; try clear c44b0; try clear p45; try clear q45; try clear hx45; try clear c46; try clear c47; try clear c48; try clear c51; try clear c51b0; try clear c52; try clear c52b0; try clear c52b1; try clear c54; try clear c56; try clear c63; try clear c64; try clear p64; try clear c65; try clear c66; try clear c68; try clear c68b0; try clear c69; try clear c69b0; try clear c69b1; try clear c69b2; try clear c71; try clear c71b0; try clear c73; try clear c73b0; try clear c73b1; try clear c74; try clear c74b0; try clear c74b1; try clear c75; try clear c75b0; try clear c75b1; try clear c75b2; try clear c76; try clear c76b0; try clear c77; try clear c77b0; try clear c78; try clear c78b0; try clear c78b1; try clear c78b2; try clear hcz41_0; try clear hcz41_1; try clear hcz49_0; try clear hcz49_1; try clear hcz66_0; try clear hcz66_1; try clear hfz41_0; try clear hfz41_1; try clear hfz49_0; try clear hfz49_1; try clear hfz66_0; try clear hfz66_1; try clear p2; try clear p4; try clear p45; try clear p6; try clear p64; try clear q4; try clear q45
              obtain ⟨kq, x11_69, rfl, HA, HJ69, BK269, BK270, BK281, BK282, HB⟩ := hcut
              cases kq with
              | zero => exact absurd HA.out (by simp [gussetref03_Decimal.j5])
              | succ kj69 =>
               have H := HA.out
               clear HA
               simp only [gussetref03_Decimal.j5] at H
               have HC80 := Aside0.mk H
               clear H
               go_upto_region 16 with (fail)
               go_cut [94] (fun v94 wc => ∃ (kq : Nat) (x94_79 : Bool), v94 = .bool x94_79 ∧ Aside0 (gussetref03_Decimal.j6 kq x11_69 x94_79 = some r) ∧ Aside0 (kq ≤ kj69) ∧ Aside0 (wc.heap[gb269]? = some (.cells #[.bool a0_0, .string a0_1, .string a0_2] 27 (0, 0))) ∧ Aside0 (wc.heap[gb270]? = some (.cells #[.bool x271000_1, .string x271001_1] 24 (0, 0))) ∧ Aside0 (wc.heap[gb281]? = some (.cells #[.bool x282000_52, .string x282001_52] 24 (0, 0))) ∧ Aside0 (wc.heap[gb282]? = some (.cells #[.bool t279, .string t280] 24 (0, 0))) ∧ Aside0 (Below w.heap.size w wc))
               case first =>
                have H := HC80.out
                clear HC80
                by_cases c81 : a0_0 = true
                ·subst c81
                 rw [if_pos rfl] at H
                 have H' := Aside0.mk H
                 clear H; have hnb82 := NB269_270.out; have hnc82 := NB270_269.out; have hnb83 := NB269_281.out; have hnc83 := NB281_269.out; have hnb84 := NB269_282.out; have hnc84 := NB282_269.out; obtain ⟨hcz85_0, hcz85_1, hcz85_2, hfz85_0, hfz85_1, hfz85_2⟩ := z3 BK269; have hnb86 := NB281_270.out; have hnc86 := NB270_281.out; have hnb87 := NB281_282.out; have hnc87 := NB282_281.out; obtain ⟨hcz88_0, hcz88_1, hfz88_0, hfz88_1⟩ := z2 BK281
                 go_wp2
                 go_meet
                 case rel => exact ⟨_, ((x282001_52.toList != ([] : List UInt8))), zR, H', ⟨by have := HK1.out; have := HJ20.out; have := HJ49.out; have := HJ52.out; have := HK5.out; have := HJ69.out; first | omega | exact Nat.le_refl _⟩, zK BK269, zK BK270, zK BK281, zK BK282, ⟨zT HB⟩⟩
                ·replace c81 := Bool.eq_false_iff.mpr c81
                 subst c81
                 rw [if_neg zn] at H
                 have H' := Aside0.mk H
                 clear H; have hnb89 := NB269_270.out; have hnc89 := NB270_269.out; have hnb90 := NB269_281.out; have hnc90 := NB281_269.out; have hnb91 := NB269_282.out; have hnc91 := NB282_269.out; obtain ⟨hcz92_0, hcz92_1, hcz92_2, hfz92_0, hfz92_1, hfz92_2⟩ := z3 BK269
                 go_wp2
                 go_meet
                 case rel => exact ⟨_, (false), zR, H', ⟨by have := HK1.out; have := HJ20.out; have := HJ49.out; have := HJ52.out; have := HK5.out; have := HJ69.out; first | omega | exact Nat.le_refl _⟩, zK BK269, zK BK270, zK BK281, zK BK282, ⟨zT HB⟩⟩
               case rest =>
                clear HC80
                try clear c2; try clear p2; try clear c3; try clear c4; try clear p4; try clear q4; try clear hx4; try clear c5; try clear c6; try clear p6; try clear c7; try clear c8; try clear c9; try clear c23; try clear c37; try clear c37b0; try clear c37b1; try clear c38; try clear c39; try clear c40; try clear c43; try clear c43b0; try clear c44; try clear c44b0; try clear p45; try clear q45; try clear hx45; try clear c46; try clear c47; try clear c48; try clear c51; try clear c51b0; try clear c52; try clear c52b0; try clear c52b1; try clear c54; try clear c56; try clear c63; try clear c64; try clear p64; try clear c65; try clear c66; try clear c68; try clear c68b0; try clear c69; try clear c69b0; try clear c69b1; try clear c69b2; try clear c71; try clear c71b0; try clear c73; try clear c73b0; try clear c73b1; try clear c74; try clear c74b0; try clear c74b1; try clear c75; try clear c75b0; try clear c75b1; try clear c75b2; try clear c76; try clear c76b0; try clear c77; try clear c77b0; try clear c78; try clear c78b0; try clear c78b1; try clear c78b2; try clear c81; try clear c82; try clear c83; try clear c84; try clear c86; try clear c87; try clear c89; try clear c90; try clear c91; try clear hcz41_0; try clear hcz41_1; try clear hcz49_0; try clear hcz49_1; try clear hcz66_0; try clear hcz66_1; try clear hcz85_0; try clear hcz85_1; try clear hcz85_2; try clear hcz88_0; try clear hcz88_1; try clear hcz92_0; try clear hcz92_1; try clear hcz92_2; try clear hfz41_0; try clear hfz41_1; try clear hfz49_0; try clear hfz49_1; try clear hfz66_0; try clear hfz66_1; try clear hfz85_0; try clear hfz85_1; try clear hfz85_2; try clear hfz88_0; try clear hfz88_1; try clear hfz92_0; try clear hfz92_1; try clear hfz92_2; try clear p2; try clear p4; try clear p45; try clear p6; try clear p64; try clear q4; try clear q45
                obtain ⟨kq, x94_79, rfl, HA, HJ79, BK269, BK270, BK281, BK282, HB⟩ := hcut
                cases kq with
                | zero => exact absurd HA.out (by simp [gussetref03_Decimal.j6])
                | succ kj79 =>
                 have H := HA.out
                 clear HA
                 simp only [gussetref03_Decimal.j6] at H
                 by_cases c93 : x94_79 = true
                 ·subst c93
                  rw [if_pos rfl] at H
                  by_cases c94 : 1 + x11_69.size ≤ 9223372036854775807
                  ·rw [if_pos c94] at H
                   have c94b0 := eq_true c94
                   have c94b1 := decide_eq_true c94
                   try have c94b2 : (9223372036854775807 < 1 + x11_69.size) = False := eq_false (Nat.not_lt.2 c94)
                   obtain rfl := Option.some.inj H
                   go_wp2
                   go_ret
                   exact ⟨zH, zT HB⟩
                  ·rw [if_neg c94] at H
                   exact absurd H (by simp)
                 ·replace c93 := Bool.eq_false_iff.mpr c93
                  subst c93
                  rw [if_neg zn] at H
                  obtain rfl := Option.some.inj H
                  go_wp2
                  go_ret
                  exact ⟨zH, zT HB⟩


/-! ### gussetlaw03_RatDecimals: function 4 -/
mutual
def gussetlaw03_RatDecimals.j0 : Nat → Int → Bool → Bool → ByteArray → ByteArray → Option (Bool)
 | 0, _, _, _, _, _ => none
 | k + 1, x1, x22, x294000, x294001, x294002 => if x22 = true then ((gussetlaw03_live.f k).bind fun t295 => (some t295)) else ((rat_Decimal.f k x294000 x294001 x294002 x1).bind fun bt296 => (if x1 < 0 then (gussetlaw03_RatDecimals.j1 k x1 bt296.1 bt296.2 true x294000 x294001 x294002) else (gussetlaw03_RatDecimals.j1 k x1 bt296.1 bt296.2 (decide (x1 > 100)) x294000 x294001 x294002)))
def gussetlaw03_RatDecimals.j1 : Nat → Int → ByteArray → Int → Bool → Bool → ByteArray → ByteArray → Option (Bool)
 | 0, _, _, _, _, _, _, _ => none
 | k + 1, x1, x5, x6, x35, x294000, x294001, x294002 => if x35 = true then (if x6 = 1 then (if x5.toList = ([] : List UInt8) then ((gussetlaw03_live.f k).bind fun t298 => (some t298)) else (none)) else (none)) else (if x6 = 0 then ((gussetref03_Decimal.f k x294000 x294001 x294002 x1).bind fun t299 => (if x5.toList = t299.toList then ((gussetlaw03_live.f k).bind fun t300 => (some t300)) else (none))) else (none))
end
def gussetlaw03_RatDecimals.f (k : Nat) (a0_0 : Bool) (a0_1 : ByteArray) (a0_2 : ByteArray) (a1 : Int) : Option (Bool) := if (a0_1.size : Int) > 60 then (gussetlaw03_RatDecimals.j0 k a1 true a0_0 a0_1 a0_2) else (if (a0_2.size : Int) > 60 then (gussetlaw03_RatDecimals.j0 k a1 true a0_0 a0_1 a0_2) else ((gussetref03_Check.f k a0_0 a0_1 a0_2).bind fun t294 => (gussetlaw03_RatDecimals.j0 k a1 (t294 != 0) a0_0 a0_1 a0_2)))
set_option maxHeartbeats 8000000 in
set_option maxRecDepth 100000 in
theorem gussetlaw03_RatDecimals.calls (k : Nat) (a0_0 : Bool) (a0_1 : ByteArray) (a0_2 : ByteArray) (a1 : Int) (r : Bool) (w : World) (h : gussetlaw03_RatDecimals.f k a0_0 a0_1 a0_2 a1 = some r) :
  Calls Tryz.prog 4 #[.agg #[.bool a0_0, .string a0_1, .string a0_2], .int .i64 a1] w fun e w' => e = .returned (.bool r) ∧ Below w.heap.size w w' := by
 have hu27 := Tryz.underlying27
 have HB := Aside0.mk (Below.refl w.heap.size w)
 unfold gussetlaw03_RatDecimals.f at h; have H := h; clear h
 have HC3 := Aside0.mk H
 clear H
 go_enter Tryz.func4, Tryz.ntmps4
 go_upto_region 1 with (first | ((with_reducible refine gate_dst (N := 2) rfl ?_); (try (refine gate_guard (by rfl) ?_; dsimp only)); refine zY 2 #[.bool a0_0, .string a0_1, .string a0_2] 27 ?_; intro gb293 hg w4 hbox hb; have BK293 := Aside0.mk (hbox); have GW293 := zG hg HB; have GE293 := zG hg HB; replace HB := zS HB hb; clear hb hbox hg))
 (try simp only [Act.put, List.setIfInBounds_toArray, List.set_cons_zero, List.set_cons_succ])
 go_cut [22] (fun v22 wc => ∃ (kq : Nat) (x22_2 : Bool), v22 = .bool x22_2 ∧ Aside0 (gussetlaw03_RatDecimals.j0 kq a1 x22_2 a0_0 a0_1 a0_2 = some r) ∧ Aside0 (kq ≤ k) ∧ Aside0 (wc.heap[gb293]? = some (.cells #[.bool a0_0, .string a0_1, .string a0_2] 27 (0, 0))) ∧ Aside0 (Below w.heap.size w wc))
 case first =>
  have H := HC3.out
  clear HC3
  by_cases c5 : (a0_1.size : Int) > 60
  ·rw [if_pos c5] at H
   have c5b0 := decide_eq_true c5
   have c5b1 : decide (60 < a0_1.size) = true := decide_eq_true (by omega)
   clear c5
   (first | rw [c5b0] | (simp only [i64_w, i32_w]; rw [c5b0]) | skip)
   have H' := Aside0.mk H
   clear H; obtain ⟨hcz6_0, hcz6_1, hcz6_2, hfz6_0, hfz6_1, hfz6_2⟩ := z3 BK293
   go_wp2
   go_meet
   case rel => exact ⟨_, (true), zR, H', zL, zK BK293, ⟨zT HB⟩⟩
  ·rw [if_neg c5] at H
   have c5b0 := decide_eq_false c5
   have c5b1 : decide (60 < a0_1.size) = false := decide_eq_false (by omega)
   clear c5
   (first | rw [c5b0] | (simp only [i64_w, i32_w]; rw [c5b0]) | skip)
   by_cases c7 : (a0_2.size : Int) > 60
   ·rw [if_pos c7] at H
    have c7b0 := decide_eq_true c7
    have c7b1 : decide (60 < a0_2.size) = true := decide_eq_true (by omega)
    clear c7
    have H' := Aside0.mk H
    clear H; obtain ⟨hcz8_0, hcz8_1, hcz8_2, hfz8_0, hfz8_1, hfz8_2⟩ := z3 BK293
    go_wp2
    go_meet
    case rel => exact ⟨_, (true), zR, H', zL, zK BK293, ⟨zT HB⟩⟩
   ·rw [if_neg c7] at H
    have c7b0 := decide_eq_false c7
    have c7b1 : decide (60 < a0_2.size) = false := decide_eq_false (by omega)
    clear c7
    obtain ⟨t294, A9, H⟩ := zo H
    have H' := Aside0.mk H
    clear H; obtain ⟨hcz10_0, hcz10_1, hcz10_2, hfz10_0, hfz10_1, hfz10_2⟩ := z3 BK293
    go_wp2_with (first | (go_at_call 19; (with_reducible refine (gussetref03_Check.calls k a0_0 a0_1 a0_2 t294 _ A9.out).mono ?_); rintro e w11 ⟨rfl, hb⟩; replace BK293 := zB BK293 hb; replace HB := zS HB hb; (try clear hb)))
    go_meet
    case rel => exact ⟨_, ((t294 != 0)), zR, H', zL, zK BK293, ⟨zT HB⟩⟩
 case rest =>
  clear HC3
  try clear p2; try clear c4; try clear c5; try clear c5b0; try clear c5b1; try clear c7; try clear c7b0; try clear c7b1; try clear hcz10_0; try clear hcz10_1; try clear hcz10_2; try clear hcz6_0; try clear hcz6_1; try clear hcz6_2; try clear hcz8_0; try clear hcz8_1; try clear hcz8_2; try clear hfz10_0; try clear hfz10_1; try clear hfz10_2; try clear hfz6_0; try clear hfz6_1; try clear hfz6_2; try clear hfz8_0; try clear hfz8_1; try clear hfz8_2
  obtain ⟨kq, x22_2, rfl, HA, HJ2, BK293, HB⟩ := hcut
  cases kq with
  | zero => exact absurd HA.out (by simp [gussetlaw03_RatDecimals.j0])
  | succ kj2 =>
   have H := HA.out
   clear HA
   simp only [gussetlaw03_RatDecimals.j0] at H
   by_cases c12 : x22_2 = true
   ·subst c12
    rw [if_pos rfl] at H
    obtain ⟨t295, A13, H⟩ := zo H
    obtain rfl := Option.some.inj H
    go_wp2_with (first | ((with_reducible refine gate_callee (f := 13) rfl ?_); refine zO Tryz.func13 (by kernel_rfl) (gussetlaw03_live.calls kj2  t295 _ A13.out) fun w14 hb => ?_; replace BK293 := zB BK293 hb; replace HB := zS HB hb; (try clear hb)))
    go_ret
    exact ⟨zH, zT HB⟩
   ·replace c12 := Bool.eq_false_iff.mpr c12
    subst c12
    rw [if_neg zn] at H
    obtain ⟨⟨t296, t297⟩, A15, H⟩ := zo H; try dsimp only at H
    have HC16 := Aside0.mk H
    clear H; obtain ⟨hcz17_0, hcz17_1, hcz17_2, hfz17_0, hfz17_1, hfz17_2⟩ := z3 BK293
    go_upto_region 4 with (first | ((with_reducible refine gate_callee (f := 20) rfl ?_); refine zO Tryz.func20 (by kernel_rfl) (rat_Decimal.calls kj2 a0_0 a0_1 a0_2 a1 t296 t297 _ A15.out) fun w18 hb => ?_; replace BK293 := zB BK293 hb; replace HB := zS HB hb; (try clear hb)))
    (try simp only [Act.put, List.setIfInBounds_toArray, List.set_cons_zero, List.set_cons_succ])
    go_cut [35] (fun v35 wc => ∃ (kq : Nat) (x35_15 : Bool), v35 = .bool x35_15 ∧ Aside0 (gussetlaw03_RatDecimals.j1 kq a1 t296 t297 x35_15 a0_0 a0_1 a0_2 = some r) ∧ Aside0 (kq ≤ kj2) ∧ Aside0 (wc.heap[gb293]? = some (.cells #[.bool a0_0, .string a0_1, .string a0_2] 27 (0, 0))) ∧ Aside0 (Below w.heap.size w wc))
    case first =>
     have H := HC16.out
     clear HC16
     by_cases c19 : a1 < 0
     ·rw [if_pos c19] at H
      have c19b0 := decide_eq_true c19
      clear c19
      (first | rw [c19b0] | (simp only [i64_w, i32_w]; rw [c19b0]) | skip)
      have H' := Aside0.mk H
      clear H
      go_wp2
      go_meet
      case rel => exact ⟨_, (true), zR, H', ⟨by have := HJ2.out; first | omega | exact Nat.le_refl _⟩, zK BK293, ⟨zT HB⟩⟩
     ·rw [if_neg c19] at H
      have c19b0 := decide_eq_false c19
      clear c19
      (first | rw [c19b0] | (simp only [i64_w, i32_w]; rw [c19b0]) | skip)
      have H' := Aside0.mk H
      clear H
      go_wp2
      go_meet
      case rel => exact ⟨_, (decide (a1 > 100)), zR, H', ⟨by have := HJ2.out; first | omega | exact Nat.le_refl _⟩, zK BK293, ⟨zT HB⟩⟩
    case rest =>
     clear HC16
     try clear c1; try clear c2; try clear p2; try clear c4; try clear c5; try clear c5b0; try clear c5b1; try clear c7; try clear c7b0; try clear c7b1; try clear c12; try clear c13; try clear c19; try clear c19b0; try clear hcz10_0; try clear hcz10_1; try clear hcz10_2; try clear hcz17_0; try clear hcz17_1; try clear hcz17_2; try clear hcz6_0; try clear hcz6_1; try clear hcz6_2; try clear hcz8_0; try clear hcz8_1; try clear hcz8_2; try clear hfz10_0; try clear hfz10_1; try clear hfz10_2; try clear hfz17_0; try clear hfz17_1; try clear hfz17_2; try clear hfz6_0; try clear hfz6_1; try clear hfz6_2; try clear hfz8_0; try clear hfz8_1; try clear hfz8_2; try clear p2
     obtain ⟨kq, x35_15, rfl, HA, HJ15, BK293, HB⟩ := hcut
     cases kq with
     | zero => exact absurd HA.out (by simp [gussetlaw03_RatDecimals.j1])
     | succ kj15 =>
      have H := HA.out
      clear HA
      simp only [gussetlaw03_RatDecimals.j1] at H
      by_cases c20 : x35_15 = true
      ·subst c20
       rw [if_pos rfl] at H
       by_cases c21 : t297 = 1
       ·rw [if_pos c21] at H
        have c21b0 := beq_iff_eq.mpr c21
        have c21b1 := bne_eq_false_iff_eq.mpr c21
        clear c21
        by_cases c22 : t296.toList = ([] : List UInt8)
        ·rw [if_pos c22] at H
         have c22b0 := beq_iff_eq.mpr c22
         have c22b1 := bne_eq_false_iff_eq.mpr c22
         clear c22
         obtain ⟨t298, A23, H⟩ := zo H
         obtain rfl := Option.some.inj H
         go_wp2_with (first | (go_at_call 13; (with_reducible refine (gussetlaw03_live.calls kj15  t298 _ A23.out).mono ?_); rintro e w24 ⟨rfl, hb⟩; replace BK293 := zB BK293 hb; replace HB := zS HB hb; (try clear hb)))
         go_ret
         exact ⟨zH, zT HB⟩
        ·rw [if_neg c22] at H
         exact absurd H (by simp)
       ·rw [if_neg c21] at H
        exact absurd H (by simp)
      ·replace c20 := Bool.eq_false_iff.mpr c20
       subst c20
       rw [if_neg zn] at H
       by_cases c25 : t297 = 0
       ·rw [if_pos c25] at H
        have c25b0 := beq_iff_eq.mpr c25
        have c25b1 := bne_eq_false_iff_eq.mpr c25
        clear c25
        obtain ⟨t299, A26, H⟩ := zo H
        by_cases c27 : t296.toList = t299.toList
        ·rw [if_pos c27] at H
         have c27b0 := beq_iff_eq.mpr c27
         have c27b1 := bne_eq_false_iff_eq.mpr c27
         clear c27
         obtain ⟨t300, A28, H⟩ := zo H
         obtain rfl := Option.some.inj H
         obtain ⟨hcz29_0, hcz29_1, hcz29_2, hfz29_0, hfz29_1, hfz29_2⟩ := z3 BK293
         go_wp2_with (first | (go_at_call 21; (with_reducible refine (gussetref03_Decimal.calls kj15 a0_0 a0_1 a0_2 a1 t299 _ A26.out).mono ?_); rintro e w30 ⟨rfl, hb⟩; replace BK293 := zB BK293 hb; replace HB := zS HB hb; (try clear hb)) | (go_at_call 13; (with_reducible refine (gussetlaw03_live.calls kj15  t300 _ A28.out).mono ?_); rintro e w31 ⟨rfl, hb⟩; replace BK293 := zB BK293 hb; replace HB := zS HB hb; (try clear hb)))
         go_ret
         exact ⟨zH, zT HB⟩
        ·rw [if_neg c27] at H
         exact absurd H (by simp)
       ·rw [if_neg c25] at H
        exact absurd H (by simp)

end Go.Proofs.YtoijlbcbbblbfaaGreatDoorH.R
