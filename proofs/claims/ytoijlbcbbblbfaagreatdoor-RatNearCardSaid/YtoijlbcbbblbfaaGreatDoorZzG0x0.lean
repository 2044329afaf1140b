import Derived.Test.YtoijlbcbbblbfaaGreatDoorProg
import Derived.Below
import Derived.Deep.Draws
import Derived.Deep.AppendLies
import Derived.Maps.AppendAt
import Derived.OwnWalk
import Derived.Laws.BytesArg
import Derived.Laws.MakeOwn
import Derived.Laws.OwnMore
import Derived.Deep.OwnRows
import Derived.Tactics
import Derived.Lib.ConvBytes
import Derived.Laws.Slices
import Derived.WalkKit
import Derived.KernelRfl
import Derived.RowKit3
import Derived.Deep.LoopGhost
import Derived.Deep.QuietTactic
import Derived.BigQuiet
import Derived.WideLaws
import Derived.Deep.DeepCutAuto
import Derived.Deep.CutBlock
import Derived.Deep.RegionHeld3
import Derived.Laws.Rows
import Derived.Lib.AppendStr
import Derived.ArgAppend
import Derived.Laws.IdiomCopy
import Derived.OrdersHeld
import Derived.Laws.BitsLemmas
import Derived.RowKit
import Derived.Test.YtoijlbcbbblbfaaGreatDoorY2WZ
import Derived.Test.YtoijlbcbbblbfaaGreatDoorY2HZ
import Derived.Test.YtoijlbcbbblbfaaGreatDoorZzV0
import Derived.Test.YtoijlbcbbblbfaaGreatDoorZzV1
-- printed by hp.py, sq3
namespace Go.Proofs.YtoijlbcbbblbfaaGreatDoorH.R
open Go.RowKit Go.Proofs.YtoijlbcbbblbfaaGreatDoorH.Z Go.Proofs.YtoijlbcbbblbfaaGreatDoorW.PrintWords Go.Proofs.YtoijlbcbbblbfaaGreatDoorW.PrintLast Go.Proofs.YtoijlbcbbblbfaaGreatDoorW.PrintMore
attribute [local go_sem] max2_int min2_int max_two min_two max_three min_three max_four min_four   -- for this text's walks alone
set_option linter.unusedVariables false
set_option linter.unusedSimpArgs false



def errW : Option Int → Value
 | none => .nilIface
 | some c => .iface 0 (.int .i64 c)
theorem errW_none : errW none = .nilIface := rfl
theorem errW_some (c : Int) : errW (some c) = .iface 0 (.int .i64 c) := rfl

theorem info24 : (Tryz.prog.info? 24).map (fun i => (i.zero, i.size, i.bytes)) = some (some (.agg #[(.bool false), (.string ⟨#[]⟩)]), 2, 24) := by kernel_rfl
-- the values' own types
/-! #### struct type 24 -/
structure S24 where
 f0 : Bool
 f1 : ByteArray
def z24 : S24 := ⟨false, (⟨#[]⟩ : ByteArray)⟩
def k24 : Kd S24 := Kd.iso (Kd.pair Kd.bool Kd.string) (fun x : S24 => (x.f0, x.f1))
theorem k24_open {w : World} {x : S24} {cs : List Value} (h : k24.K w x cs) : cs = [.bool x.f0, .string x.f1] := by
 obtain ⟨_, _, rfl, rfl, rfl⟩ := h
 exact rfl
theorem k24_openM {w : World} {base : Nat} {ok : Nat → Prop} {x : S24} {cs : List Value} (h : k24.M w base ok x cs) : cs = [.bool x.f0, .string x.f1] := by
 obtain ⟨_, _, rfl, rfl, rfl⟩ := h
 exact rfl
theorem k24_mk (w : World) (x : S24)  : k24.K w x [.bool x.f0, .string x.f1] := ⟨[.bool x.f0], [.string x.f1], rfl, rfl, rfl⟩
theorem k24_mkM (w : World) (base : Nat) (ok : Nat → Prop) (x : S24)  : k24.M w base ok x [.bool x.f0, .string x.f1] := ⟨[.bool x.f0], [.string x.f1], rfl, rfl, rfl⟩
def rd_T24 (xs : List S24) (i : Int) : S24 := xs.getD i.toNat z24
theorem at_T24 {w : World} {A : Option Addr} {n : Nat} {xs : List S24} (h : Kd.C k24 w A n xs) (i : Int) (h0 : 0 ≤ i) (h1 : i < n) : ∃ ad , A = some ad ∧ w.cell? (ad.add (i.toNat * 2)) = some (.bool (rd_T24 xs i).f0) ∧ w.cell? ⟨(ad.add (i.toNat * 2)).block, (ad.add (i.toNat * 2)).off + 1, none⟩ = some (.string (rd_T24 xs i).f1) := by
 obtain ⟨ad, c, e, _, hK, hc0⟩ := Kd.C_get h z24 i h0 h1
 have hc : ∀ j u, c[j]? = some u → w.cell? (ad.add (i.toNat * 2 + j)) = some u := hc0
 obtain rfl := k24_open hK
 exact ⟨ad, e, hc 0 _ rfl, by rw [← add_field _ _ 1 (by omega)]; exact hc 1 _ rfl⟩

/-! #### struct type 27 -/
structure S27 where
 f0 : S24
 f1 : ByteArray
def z27 : S27 := ⟨z24, (⟨#[]⟩ : ByteArray)⟩
def k27 : Kd S27 := Kd.iso (Kd.pair k24 Kd.string) (fun x : S27 => (x.f0, x.f1))
theorem k27_open {w : World} {x : S27} {cs : List Value} (h : k27.K w x cs) : cs = [.bool x.f0.f0, .string x.f0.f1, .string x.f1] := by
 obtain ⟨_, _, rfl, s0, rfl⟩ := h
 obtain rfl := k24_open s0
 exact rfl
theorem k27_openM {w : World} {base : Nat} {ok : Nat → Prop} {x : S27} {cs : List Value} (h : k27.M w base ok x cs) : cs = [.bool x.f0.f0, .string x.f0.f1, .string x.f1] := by
 obtain ⟨_, _, rfl, s0, rfl⟩ := h
 obtain rfl := k24_openM s0
 exact rfl
theorem k27_mk (w : World) (x : S27)  : k27.K w x [.bool x.f0.f0, .string x.f0.f1, .string x.f1] := ⟨[.bool x.f0.f0, .string x.f0.f1], [.string x.f1], rfl, (k24_mk w x.f0 ), rfl⟩
theorem k27_mkM (w : World) (base : Nat) (ok : Nat → Prop) (x : S27)  : k27.M w base ok x [.bool x.f0.f0, .string x.f0.f1, .string x.f1] := ⟨[.bool x.f0.f0, .string x.f0.f1], [.string x.f1], rfl, (k24_mkM w base ok x.f0 ), rfl⟩
def rd_T27 (xs : List S27) (i : Int) : S27 := xs.getD i.toNat z27
theorem at_T27 {w : World} {A : Option Addr} {n : Nat} {xs : List S27} (h : Kd.C k27 w A n xs) (i : Int) (h0 : 0 ≤ i) (h1 : i < n) : ∃ ad , A = some ad ∧ w.cell? (ad.add (i.toNat * 3)) = some (.bool (rd_T27 xs i).f0.f0) ∧ w.cell? ⟨(ad.add (i.toNat * 3)).block, (ad.add (i.toNat * 3)).off + 1, none⟩ = some (.string (rd_T27 xs i).f0.f1) ∧ w.cell? ⟨(ad.add (i.toNat * 3)).block, (ad.add (i.toNat * 3)).off + 2, none⟩ = some (.string (rd_T27 xs i).f1) := by
 obtain ⟨ad, c, e, _, hK, hc0⟩ := Kd.C_get h z27 i h0 h1
 have hc : ∀ j u, c[j]? = some u → w.cell? (ad.add (i.toNat * 3 + j)) = some u := hc0
 obtain rfl := k27_open hK
 exact ⟨ad, e, hc 0 _ rfl, by rw [← add_field _ _ 1 (by omega)]; exact hc 1 _ rfl, by rw [← add_field _ _ 2 (by omega)]; exact hc 2 _ rfl⟩


/-! ### whole_Check: function 46 -/
open Go.Proofs.YtoijlbcbbblbfaaGreatDoor Go.Proofs.YtoijlbcbbblbfaaGreatDoor.Num in
def whole_Check.f (a0_0 : Bool) (a0_1 : ByteArray) : Option (Int) := some (chk a0_0 a0_1)
open Go.Proofs.YtoijlbcbbblbfaaGreatDoor Go.Proofs.YtoijlbcbbblbfaaGreatDoor.Num in
theorem whole_Check.calls (a0_0 : Bool) (a0_1 : ByteArray) (r : Int) (w : World) (h : whole_Check.f a0_0 a0_1 = some r) :
  Calls Tryz.prog 46 #[.agg #[.bool a0_0, .string a0_1]] w fun e w' => e = .returned (.int .i64 r) ∧ Below w.heap.size w w' := by
 unfold whole_Check.f at h
 obtain rfl := Option.some.inj h
 exact check_c _ _ w



/-! ### whole_Gcd: function 77 -/
open Go.Proofs.YtoijlbcbbblbfaaGreatDoor Go.Proofs.YtoijlbcbbblbfaaGreatDoor.Num in
def whole_Gcd.f (a0_0 : Bool) (a0_1 : ByteArray) (a1_0 : Bool) (a1_1 : ByteArray) : Option (Bool × ByteArray × Int) := if a0_1.size ≤ 15000 ∧ a1_1.size ≤ 15000 then some ((gcdF (a0_0, a0_1) (a1_0, a1_1)).1.1, (gcdF (a0_0, a0_1) (a1_0, a1_1)).1.2, (gcdF (a0_0, a0_1) (a1_0, a1_1)).2) else none
open Go.Proofs.YtoijlbcbbblbfaaGreatDoor Go.Proofs.YtoijlbcbbblbfaaGreatDoor.Num in
theorem whole_Gcd.calls (a0_0 : Bool) (a0_1 : ByteArray) (a1_0 : Bool) (a1_1 : ByteArray) (r1 : Bool) (r2 : ByteArray) (r3 : Int) (w : World) (h : whole_Gcd.f a0_0 a0_1 a1_0 a1_1 = some (r1, r2, r3)) :
  Calls Tryz.prog 77 #[.agg #[.bool a0_0, .string a0_1], .agg #[.bool a1_0, .string a1_1]] w fun e w' => e = .returned (.tuple #[.agg #[.bool r1, .string r2], .int .i64 r3]) ∧ Below w.heap.size w w' := by
 unfold whole_Gcd.f at h
 split at h
 ·rename_i hc
  simp only [Option.some.injEq, Prod.mk.injEq] at h
  obtain ⟨rfl, rfl, rfl⟩ := h
  exact gcd_f2 (a0_0, a0_1) (a1_0, a1_1) hc.1 hc.2 w
 ·exact absurd h (by simp)



/-! ### rat_den: function 60 -/
def rat_den.f (a0_0 : Bool) (a0_1 : ByteArray) (a0_2 : ByteArray) : Option (Bool × ByteArray) := some (false, a0_2)
set_option maxHeartbeats 8000000 in
set_option maxRecDepth 100000 in
theorem rat_den.calls (a0_0 : Bool) (a0_1 : ByteArray) (a0_2 : ByteArray) (r1 : Bool) (r2 : ByteArray) (w : World) (h : rat_den.f a0_0 a0_1 a0_2 = some (r1, r2)) :
  Calls Tryz.prog 60 #[.agg #[.bool a0_0, .string a0_1, .string a0_2]] w fun e w' => e = .returned (.agg #[.bool r1, .string r2]) ∧ Below w.heap.size w w' := by
 have hu27 := Tryz.underlying27
 have hu24 := Tryz.underlying24; have hf0 := zf240; have hf1 := zf241; have hf2 := zf270; have hf3 := zf271
 have HB := Aside0.mk (Below.refl w.heap.size w)
 unfold rat_den.f at h; have H := h; clear h
 simp only [Option.some.injEq, Prod.mk.injEq] at H
 obtain ⟨rfl, rfl⟩ := H
 go_enter Tryz.func60, Tryz.ntmps60
 go_wp2_with (first | ((with_reducible refine gate_dst (N := 1) rfl ?_); refine zY 1 #[.bool a0_0, .string a0_1, .string a0_2] 27 ?_; intro gb132 hg w2 hbox hb; have BK132 := Aside0.mk (hbox); have GW132 := zG hg HB; have GE132 := zG hg HB; replace HB := zS HB hb; clear hb hbox hg) | ((with_reducible refine gate_dst (N := 2) rfl ?_); refine zY 2 #[.bool false, .string (⟨#[]⟩ : ByteArray)] 24 ?_; intro gb133 hg w3 hbox hb; have BK133 := Aside0.mk (hbox); have GW133 := zG hg HB; have GE133 := zG hg HB; obtain ⟨NB132_133, NB133_132⟩ := zQ hg BK132; replace BK132 := zB BK132 hb; replace HB := zS HB hb; clear hb hbox hg; have hnb4 := NB132_133.out; have hnc4 := NB133_132.out; obtain ⟨hcz5_0, hcz5_1, hcz5_2, hfz5_0, hfz5_1, hfz5_2⟩ := z3 BK132; obtain ⟨hcz6_0, hcz6_1, hfz6_0, hfz6_1⟩ := z2 BK133))
 refine bodyPost_ret (results_cell_row rfl _ _ gb133 24 #[.bool false, .string a0_2] (0, 0) _ rfl (by (with_reducible repeat (first | refine blk_drewN ?_ _ | refine blk_drew ?_ | refine blk_alloc ?_ _)); refine zP (cs := #[.bool false, .string (⟨#[]⟩ : ByteArray)]) ?_ 1 _; (with_reducible repeat (first | refine blk_drewN ?_ _ | refine blk_drew ?_ | refine blk_alloc ?_ _)); refine zP (cs := #[.bool false, .string (⟨#[]⟩ : ByteArray)]) ?_ 0 _; (with_reducible repeat (first | refine blk_drewN ?_ _ | refine blk_drew ?_ | refine blk_alloc ?_ _)); exact BK133.out) Tryz.underlying24 rfl (by kernel_rfl)) rfl ?_
 exact ⟨zH, zT HB⟩


/-! ### rat_Check: function 41 -/
mutual
def rat_Check.j0 : Nat → Bool → Bool → ByteArray → ByteArray → Option (Int)
 | 0, _, _, _, _ => none
 | k + 1, x15, x135000, x135001, x135002 => if x15 = true then (some 5) else ((whole_Check.f x135000 x135001).bind fun t135 => (if t135 = 0 then ((rat_den.f x135000 x135001 x135002).bind fun bt136 => ((whole_Check.f bt136.1 bt136.2).bind fun t138 => (if t138 = 0 then (rat_Check.j1 k (x135002.toList == ([] : List UInt8)) x135000 x135001 x135002) else (rat_Check.j1 k true x135000 x135001 x135002)))) else (rat_Check.j1 k true x135000 x135001 x135002)))
def rat_Check.j1 : Nat → Bool → Bool → ByteArray → ByteArray → Option (Int)
 | 0, _, _, _, _ => none
 | k + 1, x30, x135000, x135001, x135002 => if x30 = true then (some 1) else (if x135002.toList = ([1] : List UInt8) then (some 0) else ((rat_den.f x135000 x135001 x135002).bind fun bt139 => ((whole_Gcd.f x135000 x135001 bt139.1 bt139.2).bind fun bt141 => (if bt141.2.1.toList = ([1] : List UInt8) then (some 0) else (some 1)))))
end
def rat_Check.f (k : Nat) (a0_0 : Bool) (a0_1 : ByteArray) (a0_2 : ByteArray) : Option (Int) := if (a0_1.size : Int) > 8000 then (rat_Check.j0 k true a0_0 a0_1 a0_2) else (rat_Check.j0 k (decide ((a0_2.size : Int) > 8000)) a0_0 a0_1 a0_2)
def rat_Check.T7 : Bool × List (List Nat × List Nat) := (true, [([], []), ([0], [0]), ([], []), ([2], [2]), ([1, 3, 3], [1, 3]), ([4], [4]), ([5], [5]), ([5], [5]), ([], []), ([8, 6, 4, 0, 1, 2, 3, 4, 5, 6, 8], [6, 8]), ([7, 9, 0, 1, 2, 3, 4, 5, 6, 7, 8, 9], [7])])
def rat_Check.B7 : List Nat := [0, 1, 0, 4, 15, 31, 63, 63, 0, 383, 1023]
theorem rat_Check.tab7 : rtab .any (opsOf Tryz.f41 7) = rat_Check.T7 := by kernel_rfl
theorem rat_Check.bits7 : waitsOk rat_Check.T7.2 rat_Check.B7 = true := by kernel_rfl
set_option maxHeartbeats 8000000 in
set_option maxRecDepth 100000 in
theorem rat_Check.calls (k : Nat) (a0_0 : Bool) (a0_1 : ByteArray) (a0_2 : ByteArray) (r : Int) (w : World) (h : rat_Check.f k a0_0 a0_1 a0_2 = some r) :
  Calls Tryz.prog 41 #[.agg #[.bool a0_0, .string a0_1, .string a0_2]] w fun e w' => e = .returned (.int .i64 r) ∧ Below w.heap.size w w' := by
 have hu27 := Tryz.underlying27
 have hu24 := Tryz.underlying24; have hf0 := zf240; have hf1 := zf241; have hf2 := zf270; have hf3 := zf271
 have HB := Aside0.mk (Below.refl w.heap.size w)
 unfold rat_Check.f at h; have H := h; clear h
 have HC2 := Aside0.mk H
 clear H
 go_enter Tryz.func41, Tryz.ntmps41
 go_upto_region 1 with (first | ((with_reducible refine gate_dst (N := 1) rfl ?_); (try (refine gate_guard (by rfl) ?_; dsimp only)); refine zY 1 #[.bool a0_0, .string a0_1, .string a0_2] 27 ?_; intro gb134 hg w3 hbox hb; have BK134 := Aside0.mk (hbox); have GW134 := zG hg HB; have GE134 := zG hg HB; replace HB := zS HB hb; clear hb hbox hg))
 (try simp only [Act.put, List.setIfInBounds_toArray, List.set_cons_zero, List.set_cons_succ])
 go_cut [15] (fun v15 wc => ∃ (kq : Nat) (x15_1 : Bool), v15 = .bool x15_1 ∧ Aside0 (rat_Check.j0 kq x15_1 a0_0 a0_1 a0_2 = some r) ∧ Aside0 (kq ≤ k) ∧ Aside0 (wc.heap[gb134]? = some (.cells #[.bool a0_0, .string a0_1, .string a0_2] 27 (0, 0))) ∧ Aside0 (Below w.heap.size w wc))
 case first =>
  have H := HC2.out
  clear HC2
  by_cases c4 : (a0_1.size : Int) > 8000
  ·rw [if_pos c4] at H
   have c4b0 := decide_eq_true c4
   have c4b1 : decide (8000 < a0_1.size) = true := decide_eq_true (by omega)
   clear c4
   (first | rw [c4b0] | (simp only [i64_w, i32_w]; rw [c4b0]) | skip)
   have H' := Aside0.mk H
   clear H; obtain ⟨hcz5_0, hcz5_1, hcz5_2, hfz5_0, hfz5_1, hfz5_2⟩ := z3 BK134
   go_wp2
   go_meet
   case rel => exact ⟨_, (true), zR, H', zL, zK BK134, ⟨zT HB⟩⟩
  ·rw [if_neg c4] at H
   have c4b0 := decide_eq_false c4
   have c4b1 : decide (8000 < a0_1.size) = false := decide_eq_false (by omega)
   clear c4
   (first | rw [c4b0] | (simp only [i64_w, i32_w]; rw [c4b0]) | skip)
   have H' := Aside0.mk H
   clear H; obtain ⟨hcz6_0, hcz6_1, hcz6_2, hfz6_0, hfz6_1, hfz6_2⟩ := z3 BK134
   go_wp2
   go_meet
   case rel => exact ⟨_, (decide ((a0_2.size : Int) > 8000)), zR, H', zL, zK BK134, ⟨zT HB⟩⟩
 case rest =>
  clear HC2
  try clear p2; try clear c4; try clear c4b0; try clear c4b1; try clear hcz5_0; try clear hcz5_1; try clear hcz5_2; try clear hcz6_0; try clear hcz6_1; try clear hcz6_2; try clear hfz5_0; try clear hfz5_1; try clear hfz5_2; try clear hfz6_0; try clear hfz6_1; try clear hfz6_2
  obtain ⟨kq, x15_1, rfl, HA, HJ1, BK134, HB⟩ := hcut
  cases kq with
  | zero => exact absurd HA.out (by simp [rat_Check.j0])
  | succ kj1 =>
   have H := HA.out
   clear HA
   simp only [rat_Check.j0] at H
   by_cases c7 : x15_1 = true
   ·subst c7
    rw [if_pos rfl] at H
    obtain rfl := Option.some.inj H
    go_wp2
    go_ret
    exact ⟨zH, zT HB⟩
   ·replace c7 := Bool.eq_false_iff.mpr c7
    subst c7
    rw [if_neg zn] at H
    have HC8 := Aside0.mk H
    clear H
    go_upto_region 3 with (fail)
    go_cut [30] (fun v30 wc => ∃ (kq : Nat) (x30_7 : Bool), v30 = .bool x30_7 ∧ Aside0 (rat_Check.j1 kq x30_7 a0_0 a0_1 a0_2 = some r) ∧ Aside0 (kq ≤ kj1) ∧ Aside0 (wc.heap[gb134]? = some (.cells #[.bool a0_0, .string a0_1, .string a0_2] 27 (0, 0))) ∧ Aside0 (Below w.heap.size w wc))
    case first =>
     have H := HC8.out
     clear HC8
     obtain ⟨t135, A9, H⟩ := zo H
     by_cases c10 : t135 = 0
     ·rw [if_pos c10] at H
      have c10b0 := beq_iff_eq.mpr c10
      have c10b1 := bne_eq_false_iff_eq.mpr c10
      clear c10
      (first | rw [c10b0] | (simp only [i64_w, i32_w]; rw [c10b0]) | skip)
      obtain ⟨⟨t136, t137⟩, A11, H⟩ := zo H; try dsimp only at H
      obtain ⟨t138, A12, H⟩ := zo H
      by_cases c13 : t138 = 0
      ·rw [if_pos c13] at H
       have c13b0 := beq_iff_eq.mpr c13
       have c13b1 := bne_eq_false_iff_eq.mpr c13
       clear c13
       have H' := Aside0.mk H
       clear H; obtain ⟨hcz14_0, hcz14_1, hcz14_2, hfz14_0, hfz14_1, hfz14_2⟩ := z3 BK134
       go_wp2_with (first | ((with_reducible refine gate_callee (f := 46) rfl ?_); refine zO Tryz.func46 (by kernel_rfl) (whole_Check.calls a0_0 a0_1 t135 _ A9.out) fun w15 hb => ?_; replace BK134 := zB BK134 hb; replace HB := zS HB hb; (try clear hb); obtain ⟨hcz16_0, hcz16_1, hcz16_2, hfz16_0, hfz16_1, hfz16_2⟩ := z3 BK134) | (go_at_call 60; (with_reducible refine (rat_den.calls a0_0 a0_1 a0_2 t136 t137 _ A11.out).mono ?_); rintro e w17 ⟨rfl, hb⟩; replace BK134 := zB BK134 hb; replace HB := zS HB hb; (try clear hb)) | (go_at_call 46; (with_reducible refine (whole_Check.calls t136 t137 t138 _ A12.out).mono ?_); rintro e w18 ⟨rfl, hb⟩; replace BK134 := zB BK134 hb; replace HB := zS HB hb; (try clear hb); obtain ⟨hcz19_0, hcz19_1, hcz19_2, hfz19_0, hfz19_1, hfz19_2⟩ := z3 BK134))
       go_meet
       case rel => exact ⟨_, ((a0_2.toList == ([] : List UInt8))), zR, H', ⟨by have := HJ1.out; first | omega | exact Nat.le_refl _⟩, zK BK134, ⟨zT HB⟩⟩
      ·rw [if_neg c13] at H
       have c13b0 := beq_eq_false_iff_ne.mpr c13
       have c13b1 := bne_iff_ne.mpr c13
       have H' := Aside0.mk H
       clear H; obtain ⟨hcz20_0, hcz20_1, hcz20_2, hfz20_0, hfz20_1, hfz20_2⟩ := z3 BK134
       go_wp2_with (first | ((with_reducible refine gate_callee (f := 46) rfl ?_); refine zO Tryz.func46 (by kernel_rfl) (whole_Check.calls a0_0 a0_1 t135 _ A9.out) fun w21 hb => ?_; replace BK134 := zB BK134 hb; replace HB := zS HB hb; (try clear hb); obtain ⟨hcz22_0, hcz22_1, hcz22_2, hfz22_0, hfz22_1, hfz22_2⟩ := z3 BK134) | (go_at_call 60; (with_reducible refine (rat_den.calls a0_0 a0_1 a0_2 t136 t137 _ A11.out).mono ?_); rintro e w23 ⟨rfl, hb⟩; replace BK134 := zB BK134 hb; replace HB := zS HB hb; (try clear hb)) | (go_at_call 46; (with_reducible refine (whole_Check.calls t136 t137 t138 _ A12.out).mono ?_); rintro e w24 ⟨rfl, hb⟩; replace BK134 := zB BK134 hb; replace HB := zS HB hb; (try clear hb)))
       go_meet
       case rel => exact ⟨_, (true), zR, H', ⟨by have := HJ1.out; first | omega | exact Nat.le_refl _⟩, zK BK134, ⟨zT HB⟩⟩
     ·rw [if_neg c10] at H
      have c10b0 := beq_eq_false_iff_ne.mpr c10
      have c10b1 := bne_iff_ne.mpr c10
      (first | rw [c10b0] | (simp only [i64_w, i32_w]; rw [c10b0]) | skip)
      have H' := Aside0.mk H
      clear H; obtain ⟨hcz25_0, hcz25_1, hcz25_2, hfz25_0, hfz25_1, hfz25_2⟩ := z3 BK134
      go_wp2_with (first | ((with_reducible refine gate_callee (f := 46) rfl ?_); refine zO Tryz.func46 (by kernel_rfl) (whole_Check.calls a0_0 a0_1 t135 _ A9.out) fun w26 hb => ?_; replace BK134 := zB BK134 hb; replace HB := zS HB hb; (try clear hb)))
      go_meet
      case rel => exact ⟨_, (true), zR, H', ⟨by have := HJ1.out; first | omega | exact Nat.le_refl _⟩, zK BK134, ⟨zT HB⟩⟩
    case rest =>
     clear HC8
     try clear c1; try clear p2; try clear c4; try clear c4b0; try clear c4b1; try clear c7; try clear c10; try clear c10b0; try clear c10b1; try clear c13; try clear c13b0; try clear c13b1; try clear hcz14_0; try clear hcz14_1; try clear hcz14_2; try clear hcz16_0; try clear hcz16_1; try clear hcz16_2; try clear hcz19_0; try clear hcz19_1; try clear hcz19_2; try clear hcz20_0; try clear hcz20_1; try clear hcz20_2; try clear hcz22_0; try clear hcz22_1; try clear hcz22_2; try clear hcz25_0; try clear hcz25_1; try clear hcz25_2; try clear hcz5_0; try clear hcz5_1; try clear hcz5_2; try clear hcz6_0; try clear hcz6_1; try clear hcz6_2; try clear hfz14_0; try clear hfz14_1; try clear hfz14_2; try clear hfz16_0; try clear hfz16_1; try clear hfz16_2; try clear hfz19_0; try clear hfz19_1; try clear hfz19_2; try clear hfz20_0; try clear hfz20_1; try clear hfz20_2; try clear hfz22_0; try clear hfz22_1; try clear hfz22_2; try clear hfz25_0; try clear hfz25_1; try clear hfz25_2; try clear hfz5_0; try clear hfz5_1; try clear hfz5_2; try clear hfz6_0; try clear hfz6_1; try clear hfz6_2; try clear p2
     obtain ⟨kq, x30_7, rfl, HA, HJ7, BK134, HB⟩ := hcut
     cases kq with
     | zero => exact absurd HA.out (by simp [rat_Check.j1])
     | succ kj7 =>
      have H := HA.out
      clear HA
      simp only [rat_Check.j1] at H
      by_cases c27 : x30_7 = true
      ·subst c27
       rw [if_pos rfl] at H
       obtain rfl := Option.some.inj H
       go_wp2
       go_ret
       exact ⟨zH, zT HB⟩
      ·replace c27 := Bool.eq_false_iff.mpr c27
       subst c27
       rw [if_neg zn] at H
       by_cases c28 : a0_2.toList = ([1] : List UInt8)
       ·rw [if_pos c28] at H
        have c28b0 := beq_iff_eq.mpr c28
        have c28b1 := bne_eq_false_iff_eq.mpr c28
        clear c28
        obtain rfl := Option.some.inj H
        obtain ⟨hcz29_0, hcz29_1, hcz29_2, hfz29_0, hfz29_1, hfz29_2⟩ := z3 BK134
        go_wp2
        go_ret
        exact ⟨zH, zT HB⟩
       ·rw [if_neg c28] at H
        have c28b0 := beq_eq_false_iff_ne.mpr c28
        have c28b1 := bne_iff_ne.mpr c28
        obtain ⟨⟨t139, t140⟩, A30, H⟩ := zo H; try dsimp only at H
        obtain ⟨⟨t141, t142, t143⟩, A31, H⟩ := zo H; try dsimp only at H
        by_cases c32 : t142.toList = ([1] : List UInt8)
        ·rw [if_pos c32] at H
         have c32b0 := beq_iff_eq.mpr c32
         have c32b1 := bne_eq_false_iff_eq.mpr c32
         clear c32
         obtain rfl := Option.some.inj H
         obtain ⟨hcz33_0, hcz33_1, hcz33_2, hfz33_0, hfz33_1, hfz33_2⟩ := z3 BK134
         try go_wp2
         replace BK134 := zD BK134; replace HB := zF HB
         refine start_ (n := 11) (S := fun w' => w'.cell? ⟨gb134, 0, none⟩ = some (.bool a0_0) ∧ w'.cell? ⟨gb134, 1, none⟩ = some (.string a0_1) ∧ w'.cell? ⟨gb134, 2, none⟩ = some (.string a0_2)) (ds := []) (zb 11 0) (by kernel_rfl) rfl rfl ⟨zc BK134 0, zc BK134 1, zc BK134 2⟩ (fun hHeld => ?_); refine with_tabW rat_Check.tab7 rat_Check.bits7 (fun HT_ HW_ => ?_)
         generalize wc.drew = w34 at BK134 HB hHeld ⊢
         refine zU (i := 0) (N := some 35) (zb 11 1) (any_of HT_.out (by kernel_rfl)) ?_
         refine zV (i := 1) (N := some 36) (zb 11 3) (take_ofW HT_.out HW_.out (by kernel_rfl)) hHeld ?_
         refine zV (i := 2) (N := some 37) (zb 11 7) (take_ofW HT_.out HW_.out (by kernel_rfl)) hHeld ?_
         refine join_ (σ := Nat) 2 (zb 11 511) (fun s_ => [(38, .agg #[.bool t139, .string t140]), (39, .tuple #[.agg #[.bool t141, .string t142], .int .i64 t143]), (3, .pointer (some ⟨s_, 0, none⟩)), (34, .tuple #[.agg #[.bool t141, .string t142], .int .i64 t143]), (40, .agg #[.bool t141, .string t142]), (41, .int .i64 t143)]) (fun s_ w' => (w'.cell? ⟨gb134, 0, none⟩ = some (.bool a0_0) ∧ w'.cell? ⟨gb134, 1, none⟩ = some (.string a0_1) ∧ w'.cell? ⟨gb134, 2, none⟩ = some (.string a0_2)) ∧ (w'.heap[gb134]? = some (.cells #[.bool a0_0, .string a0_1, .string a0_2] 27 (0, 0))) ∧ (w'.heap[s_]? = some (.cells #[.bool false, .string (⟨#[]⟩ : ByteArray)] 24 (0, 0))) ∧ (w.heap.size ≤ s_) ∧ (w.heap.size ≤ s_) ∧ (gb134 ≠ s_) ∧ (s_ ≠ gb134) ∧ (Below w.heap.size w w')) ?_ ?_
         rotate_left
         ·intro hCont
          refine two_ (i := 3) (j := 8) (Ni := some 38) (Nj := some 3) (zb 11 15) (zb 11 263) rfl rfl rfl rfl (two_of HT_.out (by kernel_rfl)) (by decide) (by decide) (fun K hK => ?_) (fun K hK => ?_)
          ·skip
           refine zJ Tryz.func60 (by kernel_rfl) (rat_den.calls a0_0 a0_1 a0_2 t139 t140 _ A30.out) fun w35 hb => ?_
           replace BK134 := zB BK134 hb; replace HB := zS HB hb
           (try clear hb)
           refine hK.out _ _ ⟨zc BK134 0, zc BK134 1, zc BK134 2⟩ (fun hHeld => ?_)
           clear hK K
           refine zW (some 38) ?_
           refine two_ (i := 4) (j := 8) (Ni := some 39) (Nj := some 3) (zb 11 31) (zb 11 271) rfl rfl rfl rfl (two_of HT_.out (by kernel_rfl)) (by decide) (by decide) (fun K hK => ?_) (fun K hK => ?_)
           ·skip
            refine zJ Tryz.func77 (by kernel_rfl) (whole_Gcd.calls a0_0 a0_1 t139 t140 t141 t142 t143 _ A31.out) fun w36 hb => ?_
            replace BK134 := zB BK134 hb; replace HB := zS HB hb
            (try clear hb)
            refine hK.out _ _ ⟨zc BK134 0, zc BK134 1, zc BK134 2⟩ (fun hHeld => ?_)
            clear hK K
            refine zW (some 39) ?_
            refine zU (i := 5) (N := some 34) (zb 11 63) (any_of HT_.out (by kernel_rfl)) ?_
            refine zU (i := 6) (N := some 40) (zb 11 127) (any_of HT_.out (by kernel_rfl)) ?_
            refine zU (i := 7) (N := some 41) (zb 11 255) (any_of HT_.out (by kernel_rfl)) ?_
            refine one_ (i := 8) (N := some 3) (zb 11 511) rfl rfl (one_of HT_.out (by kernel_rfl)) (by decide) (fun K hK => ?_)
            refine box_step ?hg (N := 3) ?hd (cs := #[.bool false, .string (⟨#[]⟩ : ByteArray)]) (t := 24) ?hr ?_; (case hd => rfl); (case hg => rfl); (case hr => first | (go_simp; done) | (go_simp; rfl))
            intro gb144 hg w37 hbox hb
            have BK144 := Aside0.mk (hbox); have GW144 := zG hg HB; have GE144 := zG hg HB; obtain ⟨NB134_144, NB144_134⟩ := zQ hg BK134; replace BK134 := zB BK134 hb; replace HB := zS HB hb; clear hb hbox hg
            refine hK.out _ _ ⟨zc BK134 0, zc BK134 1, zc BK134 2⟩ (fun hHeld => ?_)
            clear hK K
            refine zW (some 3) ?_
            exact norm_ (by simp only [putAll, Act.put, List.setIfInBounds_toArray, List.set_cons_zero, List.set_cons_succ]) (hCont (gb144) _ ⟨hHeld, (zK BK134).out, (zK BK144).out, GW144.out, GE144.out, NB134_144.out, NB144_134.out, (zT HB)⟩)
           ·skip
            refine box_step ?hg (N := 3) ?hd (cs := #[.bool false, .string (⟨#[]⟩ : ByteArray)]) (t := 24) ?hr ?_; (case hd => rfl); (case hg => rfl); (case hr => first | (go_simp; done) | (go_simp; rfl))
            intro gb144 hg w36 hbox hb
            have BK144 := Aside0.mk (hbox); have GW144 := zG hg HB; have GE144 := zG hg HB; obtain ⟨NB134_144, NB144_134⟩ := zQ hg BK134; replace BK134 := zB BK134 hb; replace HB := zS HB hb; clear hb hbox hg
            refine hK.out _ _ ⟨zc BK134 0, zc BK134 1, zc BK134 2⟩ (fun hHeld => ?_)
            clear hK K
            refine zW (some 3) ?_
            refine one_ (i := 4) (N := some 39) (zb 11 287) rfl rfl (one_of HT_.out (by kernel_rfl)) (by decide) (fun K hK => ?_)
            refine zJ Tryz.func77 (by kernel_rfl) (whole_Gcd.calls a0_0 a0_1 t139 t140 t141 t142 t143 _ A31.out) fun w37 hb => ?_
            obtain ⟨BK134, BK144⟩ := zB2 BK134 BK144 hb; replace HB := zS HB hb
            (try clear hb)
            refine hK.out _ _ ⟨zc BK134 0, zc BK134 1, zc BK134 2⟩ (fun hHeld => ?_)
            clear hK K
            refine zW (some 39) ?_
            refine zU (i := 5) (N := some 34) (zb 11 319) (any_of HT_.out (by kernel_rfl)) ?_
            refine zU (i := 6) (N := some 40) (zb 11 383) (any_of HT_.out (by kernel_rfl)) ?_
            refine zU (i := 7) (N := some 41) (zb 11 511) (any_of HT_.out (by kernel_rfl)) ?_
            exact norm_ (by simp only [putAll, Act.put, List.setIfInBounds_toArray, List.set_cons_zero, List.set_cons_succ]) (hCont (gb144) _ ⟨hHeld, (zK BK134).out, (zK BK144).out, GW144.out, GE144.out, NB134_144.out, NB144_134.out, (zT HB)⟩)
          ·skip
           refine box_step ?hg (N := 3) ?hd (cs := #[.bool false, .string (⟨#[]⟩ : ByteArray)]) (t := 24) ?hr ?_; (case hd => rfl); (case hg => rfl); (case hr => first | (go_simp; done) | (go_simp; rfl))
           intro gb144 hg w35 hbox hb
           have BK144 := Aside0.mk (hbox); have GW144 := zG hg HB; have GE144 := zG hg HB; obtain ⟨NB134_144, NB144_134⟩ := zQ hg BK134; replace BK134 := zB BK134 hb; replace HB := zS HB hb; clear hb hbox hg
           refine hK.out _ _ ⟨zc BK134 0, zc BK134 1, zc BK134 2⟩ (fun hHeld => ?_)
           clear hK K
           refine zW (some 3) ?_
           refine one_ (i := 3) (N := some 38) (zb 11 271) rfl rfl (one_of HT_.out (by kernel_rfl)) (by decide) (fun K hK => ?_)
           refine zJ Tryz.func60 (by kernel_rfl) (rat_den.calls a0_0 a0_1 a0_2 t139 t140 _ A30.out) fun w36 hb => ?_
           obtain ⟨BK134, BK144⟩ := zB2 BK134 BK144 hb; replace HB := zS HB hb
           (try clear hb)
           refine hK.out _ _ ⟨zc BK134 0, zc BK134 1, zc BK134 2⟩ (fun hHeld => ?_)
           clear hK K
           refine zW (some 38) ?_
           refine one_ (i := 4) (N := some 39) (zb 11 287) rfl rfl (one_of HT_.out (by kernel_rfl)) (by decide) (fun K hK => ?_)
           refine zJ Tryz.func77 (by kernel_rfl) (whole_Gcd.calls a0_0 a0_1 t139 t140 t141 t142 t143 _ A31.out) fun w37 hb => ?_
           obtain ⟨BK134, BK144⟩ := zB2 BK134 BK144 hb; replace HB := zS HB hb
           (try clear hb)
           refine hK.out _ _ ⟨zc BK134 0, zc BK134 1, zc BK134 2⟩ (fun hHeld => ?_)
           clear hK K
           refine zW (some 39) ?_
           refine zU (i := 5) (N := some 34) (zb 11 319) (any_of HT_.out (by kernel_rfl)) ?_
           refine zU (i := 6) (N := some 40) (zb 11 383) (any_of HT_.out (by kernel_rfl)) ?_
           refine zU (i := 7) (N := some 41) (zb 11 511) (any_of HT_.out (by kernel_rfl)) ?_
           exact norm_ (by simp only [putAll, Act.put, List.setIfInBounds_toArray, List.set_cons_zero, List.set_cons_succ]) (hCont (gb144) _ ⟨hHeld, (zK BK134).out, (zK BK144).out, GW144.out, GE144.out, NB134_144.out, NB144_134.out, (zT HB)⟩)
         rintro gb144 w38 ⟨hS_, h0_, h1_, h2_, h3_, h4_, h5_, h6_⟩
         replace BK134 := Aside0.mk h0_; have BK144 := Aside0.mk h1_; have GW144 := Aside0.mk h2_; have GE144 := Aside0.mk h3_; have NB134_144 := Aside0.mk h4_; have NB144_134 := Aside0.mk h5_; replace HB := Aside0.mk h6_; clear h0_ h1_ h2_ h3_ h4_ h5_ h6_
         have hHeld := hS_
         refine norm_ (a' := ?_) ?_ ?_
         rotate_left
         ·simp only [putAll, Act.put, List.setIfInBounds_toArray, List.set_cons_zero, List.set_cons_succ]
          rfl
         refine one_ (i := 9) (N := none) (zb 11 1023) rfl rfl (one_of HT_.out (by kernel_rfl)) (by decide) (fun K hK => ?_)
         have hs39 : w38.cell? ⟨gb144, 0, none⟩ = some (.bool false) := zc BK144 0
         have hfs39 := blk_frozen BK144.out 0
         have hns39_0 := NB134_144.out
         have hms39_0 := NB144_134.out
         have hs40 : w38.cell? ⟨gb144, 1, none⟩ = some (.string (⟨#[]⟩ : ByteArray)) := zc BK144 1
         have hfs40 := blk_frozen BK144.out 1
         have hns40_0 := NB134_144.out
         have hms40_0 := NB144_134.out
         refine skip_ (w1 := ?_) (by rfl) rfl ?_ ?_
         rotate_left
         ·go_simp
          rfl
         refine hK.out _ _ ⟨((cell_far (p := ⟨gb144, _, none⟩) NB134_144.out _).trans (((cell_far (p := ⟨gb144, _, none⟩) NB134_144.out _).trans (hHeld.1)))), ((cell_far (p := ⟨gb144, _, none⟩) NB134_144.out _).trans (((cell_far (p := ⟨gb144, _, none⟩) NB134_144.out _).trans (hHeld.2.1)))), ((cell_far (p := ⟨gb144, _, none⟩) NB134_144.out _).trans (((cell_far (p := ⟨gb144, _, none⟩) NB134_144.out _).trans (hHeld.2.2))))⟩ (fun hHeld => ?_)
         clear hK K
         refine zU (i := 10) (N := some 4) (zb 11 2047) (any_of HT_.out (by kernel_rfl)) ?_
         refine done_ (done_of HT_.out (by kernel_rfl)) ?_
         have hnb41 := NB144_134.out; have hnc41 := NB134_144.out; obtain ⟨hcz42_0, hcz42_1, hfz42_0, hfz42_1⟩ := z2 BK144
         try go_wp2
         go_ret
         exact ⟨zH, zT HB⟩
        ·rw [if_neg c32] at H
         have c32b0 := beq_eq_false_iff_ne.mpr c32
         have c32b1 := bne_iff_ne.mpr c32
         obtain rfl := Option.some.inj H
         obtain ⟨hcz43_0, hcz43_1, hcz43_2, hfz43_0, hfz43_1, hfz43_2⟩ := z3 BK134
         try go_wp2
         replace BK134 := zD BK134; replace HB := zF HB
         refine start_ (n := 11) (S := fun w' => w'.cell? ⟨gb134, 0, none⟩ = some (.bool a0_0) ∧ w'.cell? ⟨gb134, 1, none⟩ = some (.string a0_1) ∧ w'.cell? ⟨gb134, 2, none⟩ = some (.string a0_2)) (ds := []) (zb 11 0) (by kernel_rfl) rfl rfl ⟨zc BK134 0, zc BK134 1, zc BK134 2⟩ (fun hHeld => ?_); refine with_tabW rat_Check.tab7 rat_Check.bits7 (fun HT_ HW_ => ?_)
         generalize wc.drew = w44 at BK134 HB hHeld ⊢
         refine zU (i := 0) (N := some 35) (zb 11 1) (any_of HT_.out (by kernel_rfl)) ?_
         refine zV (i := 1) (N := some 36) (zb 11 3) (take_ofW HT_.out HW_.out (by kernel_rfl)) hHeld ?_
         refine zV (i := 2) (N := some 37) (zb 11 7) (take_ofW HT_.out HW_.out (by kernel_rfl)) hHeld ?_
         refine join_ (σ := Nat) 2 (zb 11 511) (fun s_ => [(38, .agg #[.bool t139, .string t140]), (39, .tuple #[.agg #[.bool t141, .string t142], .int .i64 t143]), (3, .pointer (some ⟨s_, 0, none⟩)), (34, .tuple #[.agg #[.bool t141, .string t142], .int .i64 t143]), (40, .agg #[.bool t141, .string t142]), (41, .int .i64 t143)]) (fun s_ w' => (w'.cell? ⟨gb134, 0, none⟩ = some (.bool a0_0) ∧ w'.cell? ⟨gb134, 1, none⟩ = some (.string a0_1) ∧ w'.cell? ⟨gb134, 2, none⟩ = some (.string a0_2)) ∧ (w'.heap[gb134]? = some (.cells #[.bool a0_0, .string a0_1, .string a0_2] 27 (0, 0))) ∧ (w'.heap[s_]? = some (.cells #[.bool false, .string (⟨#[]⟩ : ByteArray)] 24 (0, 0))) ∧ (w.heap.size ≤ s_) ∧ (w.heap.size ≤ s_) ∧ (gb134 ≠ s_) ∧ (s_ ≠ gb134) ∧ (Below w.heap.size w w')) ?_ ?_
         rotate_left
         ·intro hCont
          refine two_ (i := 3) (j := 8) (Ni := some 38) (Nj := some 3) (zb 11 15) (zb 11 263) rfl rfl rfl rfl (two_of HT_.out (by kernel_rfl)) (by decide) (by decide) (fun K hK => ?_) (fun K hK => ?_)
          ·skip
           refine zJ Tryz.func60 (by kernel_rfl) (rat_den.calls a0_0 a0_1 a0_2 t139 t140 _ A30.out) fun w45 hb => ?_
           replace BK134 := zB BK134 hb; replace HB := zS HB hb
           (try clear hb)
           refine hK.out _ _ ⟨zc BK134 0, zc BK134 1, zc BK134 2⟩ (fun hHeld => ?_)
           clear hK K
           refine zW (some 38) ?_
           refine two_ (i := 4) (j := 8) (Ni := some 39) (Nj := some 3) (zb 11 31) (zb 11 271) rfl rfl rfl rfl (two_of HT_.out (by kernel_rfl)) (by decide) (by decide) (fun K hK => ?_) (fun K hK => ?_)
           ·skip
            refine zJ Tryz.func77 (by kernel_rfl) (whole_Gcd.calls a0_0 a0_1 t139 t140 t141 t142 t143 _ A31.out) fun w46 hb => ?_
            replace BK134 := zB BK134 hb; replace HB := zS HB hb
            (try clear hb)
            refine hK.out _ _ ⟨zc BK134 0, zc BK134 1, zc BK134 2⟩ (fun hHeld => ?_)
            clear hK K
            refine zW (some 39) ?_
            refine zU (i := 5) (N := some 34) (zb 11 63) (any_of HT_.out (by kernel_rfl)) ?_
            refine zU (i := 6) (N := some 40) (zb 11 127) (any_of HT_.out (by kernel_rfl)) ?_
            refine zU (i := 7) (N := some 41) (zb 11 255) (any_of HT_.out (by kernel_rfl)) ?_
            refine one_ (i := 8) (N := some 3) (zb 11 511) rfl rfl (one_of HT_.out (by kernel_rfl)) (by decide) (fun K hK => ?_)
            refine box_step ?hg (N := 3) ?hd (cs := #[.bool false, .string (⟨#[]⟩ : ByteArray)]) (t := 24) ?hr ?_; (case hd => rfl); (case hg => rfl); (case hr => first | (go_simp; done) | (go_simp; rfl))
            intro gb144 hg w47 hbox hb
            have BK144 := Aside0.mk (hbox); have GW144 := zG hg HB; have GE144 := zG hg HB; obtain ⟨NB134_144, NB144_134⟩ := zQ hg BK134; replace BK134 := zB BK134 hb; replace HB := zS HB hb; clear hb hbox hg
            refine hK.out _ _ ⟨zc BK134 0, zc BK134 1, zc BK134 2⟩ (fun hHeld => ?_)
            clear hK K
            refine zW (some 3) ?_
            exact norm_ (by simp only [putAll, Act.put, List.setIfInBounds_toArray, List.set_cons_zero, List.set_cons_succ]) (hCont (gb144) _ ⟨hHeld, (zK BK134).out, (zK BK144).out, GW144.out, GE144.out, NB134_144.out, NB144_134.out, (zT HB)⟩)
           ·skip
            refine box_step ?hg (N := 3) ?hd (cs := #[.bool false, .string (⟨#[]⟩ : ByteArray)]) (t := 24) ?hr ?_; (case hd => rfl); (case hg => rfl); (case hr => first | (go_simp; done) | (go_simp; rfl))
            intro gb144 hg w46 hbox hb
            have BK144 := Aside0.mk (hbox); have GW144 := zG hg HB; have GE144 := zG hg HB; obtain ⟨NB134_144, NB144_134⟩ := zQ hg BK134; replace BK134 := zB BK134 hb; replace HB := zS HB hb; clear hb hbox hg
            refine hK.out _ _ ⟨zc BK134 0, zc BK134 1, zc BK134 2⟩ (fun hHeld => ?_)
            clear hK K
            refine zW (some 3) ?_
            refine one_ (i := 4) (N := some 39) (zb 11 287) rfl rfl (one_of HT_.out (by kernel_rfl)) (by decide) (fun K hK => ?_)
            refine zJ Tryz.func77 (by kernel_rfl) (whole_Gcd.calls a0_0 a0_1 t139 t140 t141 t142 t143 _ A31.out) fun w47 hb => ?_
            obtain ⟨BK134, BK144⟩ := zB2 BK134 BK144 hb; replace HB := zS HB hb
            (try clear hb)
            refine hK.out _ _ ⟨zc BK134 0, zc BK134 1, zc BK134 2⟩ (fun hHeld => ?_)
            clear hK K
            refine zW (some 39) ?_
            refine zU (i := 5) (N := some 34) (zb 11 319) (any_of HT_.out (by kernel_rfl)) ?_
            refine zU (i := 6) (N := some 40) (zb 11 383) (any_of HT_.out (by kernel_rfl)) ?_
            refine zU (i := 7) (N := some 41) (zb 11 511) (any_of HT_.out (by kernel_rfl)) ?_
            exact norm_ (by simp only [putAll, Act.put, List.setIfInBounds_toArray, List.set_cons_zero, List.set_cons_succ]) (hCont (gb144) _ ⟨hHeld, (zK BK134).out, (zK BK144).out, GW144.out, GE144.out, NB134_144.out, NB144_134.out, (zT HB)⟩)
          ·skip
           refine box_step ?hg (N := 3) ?hd (cs := #[.bool false, .string (⟨#[]⟩ : ByteArray)]) (t := 24) ?hr ?_; (case hd => rfl); (case hg => rfl); (case hr => first | (go_simp; done) | (go_simp; rfl))
           intro gb144 hg w45 hbox hb
           have BK144 := Aside0.mk (hbox); have GW144 := zG hg HB; have GE144 := zG hg HB; obtain ⟨NB134_144, NB144_134⟩ := zQ hg BK134; replace BK134 := zB BK134 hb; replace HB := zS HB hb; clear hb hbox hg
           refine hK.out _ _ ⟨zc BK134 0, zc BK134 1, zc BK134 2⟩ (fun hHeld => ?_)
           clear hK K
           refine zW (some 3) ?_
           refine one_ (i := 3) (N := some 38) (zb 11 271) rfl rfl (one_of HT_.out (by kernel_rfl)) (by decide) (fun K hK => ?_)
           refine zJ Tryz.func60 (by kernel_rfl) (rat_den.calls a0_0 a0_1 a0_2 t139 t140 _ A30.out) fun w46 hb => ?_
           obtain ⟨BK134, BK144⟩ := zB2 BK134 BK144 hb; replace HB := zS HB hb
           (try clear hb)
           refine hK.out _ _ ⟨zc BK134 0, zc BK134 1, zc BK134 2⟩ (fun hHeld => ?_)
           clear hK K
           refine zW (some 38) ?_
           refine one_ (i := 4) (N := some 39) (zb 11 287) rfl rfl (one_of HT_.out (by kernel_rfl)) (by decide) (fun K hK => ?_)
           refine zJ Tryz.func77 (by kernel_rfl) (whole_Gcd.calls a0_0 a0_1 t139 t140 t141 t142 t143 _ A31.out) fun w47 hb => ?_
           obtain ⟨BK134, BK144⟩ := zB2 BK134 BK144 hb; replace HB := zS HB hb
           (try clear hb)
           refine hK.out _ _ ⟨zc BK134 0, zc BK134 1, zc BK134 2⟩ (fun hHeld => ?_)
           clear hK K
           refine zW (some 39) ?_
           refine zU (i := 5) (N := some 34) (zb 11 319) (any_of HT_.out (by kernel_rfl)) ?_
           refine zU (i := 6) (N := some 40) (zb 11 383) (any_of HT_.out (by kernel_rfl)) ?_
           refine zU (i := 7) (N := some 41) (zb 11 511) (any_of HT_.out (by kernel_rfl)) ?_
           exact norm_ (by simp only [putAll, Act.put, List.setIfInBounds_toArray, List.set_cons_zero, List.set_cons_succ]) (hCont (gb144) _ ⟨hHeld, (zK BK134).out, (zK BK144).out, GW144.out, GE144.out, NB134_144.out, NB144_134.out, (zT HB)⟩)
         rintro gb144 w48 ⟨hS_, h0_, h1_, h2_, h3_, h4_, h5_, h6_⟩
         replace BK134 := Aside0.mk h0_; have BK144 := Aside0.mk h1_; have GW144 := Aside0.mk h2_; have GE144 := Aside0.mk h3_; have NB134_144 := Aside0.mk h4_; have NB144_134 := Aside0.mk h5_; replace HB := Aside0.mk h6_; clear h0_ h1_ h2_ h3_ h4_ h5_ h6_
         have hHeld := hS_
         refine norm_ (a' := ?_) ?_ ?_
         rotate_left
         ·simp only [putAll, Act.put, List.setIfInBounds_toArray, List.set_cons_zero, List.set_cons_succ]
          rfl
         refine one_ (i := 9) (N := none) (zb 11 1023) rfl rfl (one_of HT_.out (by kernel_rfl)) (by decide) (fun K hK => ?_)
         have hs49 : w48.cell? ⟨gb144, 0, none⟩ = some (.bool false) := zc BK144 0
         have hfs49 := blk_frozen BK144.out 0
         have hns49_0 := NB134_144.out
         have hms49_0 := NB144_134.out
         have hs50 : w48.cell? ⟨gb144, 1, none⟩ = some (.string (⟨#[]⟩ : ByteArray)) := zc BK144 1
         have hfs50 := blk_frozen BK144.out 1
         have hns50_0 := NB134_144.out
         have hms50_0 := NB144_134.out
         refine skip_ (w1 := ?_) (by rfl) rfl ?_ ?_
         rotate_left
         ·go_simp
          rfl
         refine hK.out _ _ ⟨((cell_far (p := ⟨gb144, _, none⟩) NB134_144.out _).trans (((cell_far (p := ⟨gb144, _, none⟩) NB134_144.out _).trans (hHeld.1)))), ((cell_far (p := ⟨gb144, _, none⟩) NB134_144.out _).trans (((cell_far (p := ⟨gb144, _, none⟩) NB134_144.out _).trans (hHeld.2.1)))), ((cell_far (p := ⟨gb144, _, none⟩) NB134_144.out _).trans (((cell_far (p := ⟨gb144, _, none⟩) NB134_144.out _).trans (hHeld.2.2))))⟩ (fun hHeld => ?_)
         clear hK K
         refine zU (i := 10) (N := some 4) (zb 11 2047) (any_of HT_.out (by kernel_rfl)) ?_
         refine done_ (done_of HT_.out (by kernel_rfl)) ?_
         have hnb51 := NB144_134.out; have hnc51 := NB134_144.out; obtain ⟨hcz52_0, hcz52_1, hfz52_0, hfz52_1⟩ := z2 BK144
         try go_wp2
         go_ret
         exact ⟨zH, zT HB⟩


/-! ### rat_both: function 72 -/
def rat_both.f (k : Nat) (a0_0 : Bool) (a0_1 : ByteArray) (a0_2 : ByteArray) (a1_0 : Bool) (a1_1 : ByteArray) (a1_2 : ByteArray) : Option (Int) := (rat_Check.f k a0_0 a0_1 a0_2).bind fun t180 => (if t180 = 0 then ((rat_Check.f k a1_0 a1_1 a1_2).bind fun t181 => (some t181)) else (some t180))
set_option maxHeartbeats 8000000 in
set_option maxRecDepth 100000 in
theorem rat_both.calls (k : Nat) (a0_0 : Bool) (a0_1 : ByteArray) (a0_2 : ByteArray) (a1_0 : Bool) (a1_1 : ByteArray) (a1_2 : ByteArray) (r : Int) (w : World) (h : rat_both.f k a0_0 a0_1 a0_2 a1_0 a1_1 a1_2 = some r) :
  Calls Tryz.prog 72 #[.agg #[.bool a0_0, .string a0_1, .string a0_2], .agg #[.bool a1_0, .string a1_1, .string a1_2]] w fun e w' => e = .returned (.int .i64 r) ∧ Below w.heap.size w w' := by
 have hu27 := Tryz.underlying27
 have HB := Aside0.mk (Below.refl w.heap.size w)
 unfold rat_both.f at h; have H := h; clear h
 obtain ⟨t180, A3, H⟩ := zo H
 by_cases c4 : t180 = 0
 ·rw [if_pos c4] at H
  have c4b0 := beq_iff_eq.mpr c4
  have c4b1 := bne_eq_false_iff_eq.mpr c4
  clear c4
  obtain ⟨t181, A5, H⟩ := zo H
  obtain rfl := Option.some.inj H
  go_enter Tryz.func72, Tryz.ntmps72
  go_wp2_with (first | ((with_reducible refine gate_dst (N := 2) rfl ?_); refine zY 2 #[.bool a0_0, .string a0_1, .string a0_2] 27 ?_; intro gb178 hg w6 hbox hb; have BK178 := Aside0.mk (hbox); have GW178 := zG hg HB; have GE178 := zG hg HB; replace HB := zS HB hb; clear hb hbox hg) | ((with_reducible refine gate_dst (N := 3) rfl ?_); refine zY 3 #[.bool a1_0, .string a1_1, .string a1_2] 27 ?_; intro gb179 hg w7 hbox hb; have BK179 := Aside0.mk (hbox); have GW179 := zG hg HB; have GE179 := zG hg HB; obtain ⟨NB178_179, NB179_178⟩ := zQ hg BK178; replace BK178 := zB BK178 hb; replace HB := zS HB hb; clear hb hbox hg; have hnb8 := NB178_179.out; have hnc8 := NB179_178.out; obtain ⟨hcz9_0, hcz9_1, hcz9_2, hfz9_0, hfz9_1, hfz9_2⟩ := z3 BK178) | ((with_reducible refine gate_callee (f := 41) rfl ?_); refine zO Tryz.func41 (by kernel_rfl) (rat_Check.calls k a0_0 a0_1 a0_2 t180 _ A3.out) fun w10 hb => ?_; obtain ⟨BK178, BK179⟩ := zB2 BK178 BK179 hb; replace HB := zS HB hb; (try clear hb); obtain ⟨hcz11_0, hcz11_1, hcz11_2, hfz11_0, hfz11_1, hfz11_2⟩ := z3 BK179) | ((with_reducible refine gate_callee (f := 41) rfl ?_); refine zO Tryz.func41 (by kernel_rfl) (rat_Check.calls k a1_0 a1_1 a1_2 t181 _ A5.out) fun w12 hb => ?_; obtain ⟨BK178, BK179⟩ := zB2 BK178 BK179 hb; replace HB := zS HB hb; (try clear hb)))
  go_ret
  exact ⟨zH, zT HB⟩
 ·rw [if_neg c4] at H
  have c4b0 := beq_eq_false_iff_ne.mpr c4
  have c4b1 := bne_iff_ne.mpr c4
  obtain rfl := Option.some.inj H
  go_enter Tryz.func72, Tryz.ntmps72
  go_wp2_with (first | ((with_reducible refine gate_dst (N := 2) rfl ?_); refine zY 2 #[.bool a0_0, .string a0_1, .string a0_2] 27 ?_; intro gb178 hg w13 hbox hb; have BK178 := Aside0.mk (hbox); have GW178 := zG hg HB; have GE178 := zG hg HB; replace HB := zS HB hb; clear hb hbox hg) | ((with_reducible refine gate_dst (N := 3) rfl ?_); refine zY 3 #[.bool a1_0, .string a1_1, .string a1_2] 27 ?_; intro gb179 hg w14 hbox hb; have BK179 := Aside0.mk (hbox); have GW179 := zG hg HB; have GE179 := zG hg HB; obtain ⟨NB178_179, NB179_178⟩ := zQ hg BK178; replace BK178 := zB BK178 hb; replace HB := zS HB hb; clear hb hbox hg; have hnb15 := NB178_179.out; have hnc15 := NB179_178.out; obtain ⟨hcz16_0, hcz16_1, hcz16_2, hfz16_0, hfz16_1, hfz16_2⟩ := z3 BK178) | ((with_reducible refine gate_callee (f := 41) rfl ?_); refine zO Tryz.func41 (by kernel_rfl) (rat_Check.calls k a0_0 a0_1 a0_2 t180 _ A3.out) fun w17 hb => ?_; obtain ⟨BK178, BK179⟩ := zB2 BK178 BK179 hb; replace HB := zS HB hb; (try clear hb)))
  go_ret
  exact ⟨zH, zT HB⟩


/-! ### rat_do_of_whole_Gcd: function 9000001 -/
open Go.Proofs.YtoijlbcbbblbfaaGreatDoor Go.Proofs.YtoijlbcbbblbfaaGreatDoor.Num in
def rat_do_of_whole_Gcd.f (a0_0 : Bool) (a0_1 : ByteArray) (a1_0 : Bool) (a1_1 : ByteArray) : Option (Bool × ByteArray) := (whole_Gcd.f a0_0 a0_1 a1_0 a1_1).map fun r => (r.1, r.2.1)
open Go.Proofs.YtoijlbcbbblbfaaGreatDoor Go.Proofs.YtoijlbcbbblbfaaGreatDoor.Num in
theorem rat_do_of_whole_Gcd.calls (a0_0 : Bool) (a0_1 : ByteArray) (a1_0 : Bool) (a1_1 : ByteArray) (r1 : Bool) (r2 : ByteArray) (w : World) (h : rat_do_of_whole_Gcd.f a0_0 a0_1 a1_0 a1_1 = some (r1, r2)) :
  Calls Tryz.prog 57 #[.func (.func 77) #[] #[], .agg #[.bool a0_0, .string a0_1], .agg #[.bool a1_0, .string a1_1]] w fun e w' => e = .returned (.agg #[.bool r1, .string r2]) ∧ Below w.heap.size w w' := by
 unfold rat_do_of_whole_Gcd.f at h
 obtain ⟨⟨x1, x2, x3⟩, hx, he⟩ := Option.map_eq_some_iff.1 h
 simp only [Prod.mk.injEq] at he
 obtain ⟨rfl, rfl⟩ := he
 exact do_Gcd _ _ _ _ _ _ _ (Lib.hid fun w => whole_Gcd.calls _ _ _ _ _ _ _ w hx) w



/-! ### whole_Div: function 81 -/
open Go.Proofs.YtoijlbcbbblbfaaGreatDoor Go.Proofs.YtoijlbcbbblbfaaGreatDoor.Num in
def whole_Div.f (a0_0 : Bool) (a0_1 : ByteArray) (a1_0 : Bool) (a1_1 : ByteArray) : Option (Bool × ByteArray × Bool × ByteArray × Int) := if a0_1.size ≤ 15000 ∧ a1_1.size ≤ 15000 then some ((quoF (a0_0, a0_1) (a1_0, a1_1)).1.1, (quoF (a0_0, a0_1) (a1_0, a1_1)).1.2, (quoF (a0_0, a0_1) (a1_0, a1_1)).2.1.1, (quoF (a0_0, a0_1) (a1_0, a1_1)).2.1.2, (quoF (a0_0, a0_1) (a1_0, a1_1)).2.2) else none
open Go.Proofs.YtoijlbcbbblbfaaGreatDoor Go.Proofs.YtoijlbcbbblbfaaGreatDoor.Num in
theorem whole_Div.calls (a0_0 : Bool) (a0_1 : ByteArray) (a1_0 : Bool) (a1_1 : ByteArray) (r1 : Bool) (r2 : ByteArray) (r3 : Bool) (r4 : ByteArray) (r5 : Int) (w : World) (h : whole_Div.f a0_0 a0_1 a1_0 a1_1 = some (r1, r2, r3, r4, r5)) :
  Calls Tryz.prog 81 #[.agg #[.bool a0_0, .string a0_1], .agg #[.bool a1_0, .string a1_1]] w fun e w' => e = .returned (.tuple #[.agg #[.bool r1, .string r2], .agg #[.bool r3, .string r4], .int .i64 r5]) ∧ Below w.heap.size w w' := by
 unfold whole_Div.f at h
 split at h
 ·rename_i hc
  simp only [Option.some.injEq, Prod.mk.injEq] at h
  obtain ⟨rfl, rfl, rfl, rfl, rfl⟩ := h
  exact quo_f2 (a0_0, a0_1) (a1_0, a1_1) hc.1 hc.2 w
 ·exact absurd h (by simp)



/-! ### rat_lowest: function 47 -/
def rat_lowest.j0 : Nat → Bool → ByteArray → Bool → ByteArray → Option (Bool × ByteArray × ByteArray)
 | 0, _, _, _, _ => none
 | k + 1, x102000, x102001, x103000, x103001 => (rat_do_of_whole_Gcd.f x102000 x102001 x103000 x103001).bind fun bt104 => (if bt104.2.toList = ([1] : List UInt8) then (some (x102000, x102001, x103001)) else ((whole_Div.f x102000 x102001 bt104.1 bt104.2).bind fun bt107 => ((whole_Div.f x103000 x103001 bt104.1 bt104.2).bind fun bt112 => (some (bt107.1, bt107.2.1, bt112.2.1)))))
def rat_lowest.f (k : Nat) (a0_0 : Bool) (a0_1 : ByteArray) (a1_0 : Bool) (a1_1 : ByteArray) : Option (Bool × ByteArray × ByteArray) := if a1_0 = true then (if a0_0 = true then (rat_lowest.j0 k false a0_1 false a1_1) else (rat_lowest.j0 k (a0_1.toList != ([] : List UInt8)) a0_1 false a1_1)) else (rat_lowest.j0 k a0_0 a0_1 a1_0 a1_1)
set_option maxHeartbeats 8000000 in
set_option maxRecDepth 100000 in
theorem rat_lowest.calls (k : Nat) (a0_0 : Bool) (a0_1 : ByteArray) (a1_0 : Bool) (a1_1 : ByteArray) (r1 : Bool) (r2 : ByteArray) (r3 : ByteArray) (w : World) (h : rat_lowest.f k a0_0 a0_1 a1_0 a1_1 = some (r1, r2, r3)) :
  Calls Tryz.prog 47 #[.agg #[.bool a0_0, .string a0_1], .agg #[.bool a1_0, .string a1_1]] w fun e w' => e = .returned (.agg #[.bool r1, .string r2, .string r3]) ∧ Below w.heap.size w w' := by
 have hu24 := Tryz.underlying24; have hf0 := zf240; have hf1 := zf241; have hf2 := zf270; have hf3 := zf271
 have hu27 := Tryz.underlying27
 have HB := Aside0.mk (Below.refl w.heap.size w)
 unfold rat_lowest.f at h; have H := h; clear h
 have HC3 := Aside0.mk H
 clear H
 go_enter Tryz.func47, Tryz.ntmps47
 go_upto_if 7 with (first | ((with_reducible refine gate_dst (N := 2) rfl ?_); refine zY 2 #[.bool a0_0, .string a0_1] 24 ?_; intro gb101 hg w4 hbox hb; have BK101 := Aside0.mk (hbox); have GW101 := zG hg HB; have GE101 := zG hg HB; replace HB := zS HB hb; clear hb hbox hg) | ((with_reducible refine gate_dst (N := 3) rfl ?_); refine zY 3 #[.bool a1_0, .string a1_1] 24 ?_; intro gb102 hg w5 hbox hb; have BK102 := Aside0.mk (hbox); have GW102 := zG hg HB; have GE102 := zG hg HB; obtain ⟨NB101_102, NB102_101⟩ := zQ hg BK101; replace BK101 := zB BK101 hb; replace HB := zS HB hb; clear hb hbox hg) | ((with_reducible refine gate_dst (N := 4) rfl ?_); refine zY 4 #[.bool false, .string (⟨#[]⟩ : ByteArray), .string (⟨#[]⟩ : ByteArray)] 27 ?_; intro gb103 hg w6 hbox hb; have BK103 := Aside0.mk (hbox); have GW103 := zG hg HB; have GE103 := zG hg HB; obtain ⟨NB101_103, NB103_101⟩ := zQ hg BK101; obtain ⟨NB102_103, NB103_102⟩ := zQ hg BK102; obtain ⟨BK101, BK102⟩ := zB2 BK101 BK102 hb; replace HB := zS HB hb; clear hb hbox hg; have hnb7 := NB102_101.out; have hnc7 := NB101_102.out; have hnb8 := NB102_103.out; have hnc8 := NB103_102.out; obtain ⟨hcz9_0, hcz9_1, hfz9_0, hfz9_1⟩ := z2 BK102))
 (try simp only [Act.put, List.setIfInBounds_toArray, List.set_cons_zero, List.set_cons_succ])
 go_cut [] (fun wc => ∃ (kq : Nat) (x102000_2 : Bool) (x103000_2 : Bool), Aside0 (rat_lowest.j0 kq x102000_2 a0_1 x103000_2 a1_1 = some (r1, r2, r3)) ∧ Aside0 (kq ≤ k) ∧ Aside0 (wc.heap[gb101]? = some (.cells #[.bool x102000_2, .string a0_1] 24 (0, 0))) ∧ Aside0 (wc.heap[gb102]? = some (.cells #[.bool x103000_2, .string a1_1] 24 (0, 0))) ∧ Aside0 (wc.heap[gb103]? = some (.cells #[.bool false, .string (⟨#[]⟩ : ByteArray), .string (⟨#[]⟩ : ByteArray)] 27 (0, 0))) ∧ Aside0 (Below w.heap.size w wc))
 case first =>
  have H := HC3.out
  clear HC3
  by_cases c10 : a1_0 = true
  ·subst c10
   rw [if_pos rfl] at H
   by_cases c11 : a0_0 = true
   ·subst c11
    rw [if_pos rfl] at H
    have H' := Aside0.mk H
    clear H; have hnb12 := NB101_102.out; have hnc12 := NB102_101.out; have hnb13 := NB101_103.out; have hnc13 := NB103_101.out; obtain ⟨hcz14_0, hcz14_1, hfz14_0, hfz14_1⟩ := z2 BK101; have hnb15 := NB102_103.out; have hnc15 := NB103_102.out; obtain ⟨hcz16_0, hcz16_1, hfz16_0, hfz16_1⟩ := z2 BK102
    go_wp2
    go_meet
    case rel => exact ⟨_, (false), (false), H', zL, ⟨by (with_reducible repeat (first | refine blk_drewN ?_ _ | refine blk_drew ?_ | refine blk_alloc ?_ _)); refine blk_far ?_ NB101_102.out _; (with_reducible repeat (first | refine blk_drewN ?_ _ | refine blk_drew ?_ | refine blk_alloc ?_ _)); refine zP (cs := #[.bool true, .string a0_1]) ?_ 0 _; (with_reducible repeat (first | refine blk_drewN ?_ _ | refine blk_drew ?_ | refine blk_alloc ?_ _)); exact BK101.out⟩, ⟨by (with_reducible repeat (first | refine blk_drewN ?_ _ | refine blk_drew ?_ | refine blk_alloc ?_ _)); refine zP (cs := #[.bool true, .string a1_1]) ?_ 0 _; (with_reducible repeat (first | refine blk_drewN ?_ _ | refine blk_drew ?_ | refine blk_alloc ?_ _)); refine blk_far ?_ NB102_101.out _; (with_reducible repeat (first | refine blk_drewN ?_ _ | refine blk_drew ?_ | refine blk_alloc ?_ _)); exact BK102.out⟩, zK BK103, ⟨zT HB⟩⟩
   ·replace c11 := Bool.eq_false_iff.mpr c11
    subst c11
    rw [if_neg zn] at H
    have H' := Aside0.mk H
    clear H; have hnb17 := NB101_102.out; have hnc17 := NB102_101.out; have hnb18 := NB101_103.out; have hnc18 := NB103_101.out; obtain ⟨hcz19_0, hcz19_1, hfz19_0, hfz19_1⟩ := z2 BK101; have hnb20 := NB102_103.out; have hnc20 := NB103_102.out; obtain ⟨hcz21_0, hcz21_1, hfz21_0, hfz21_1⟩ := z2 BK102
    go_wp2
    go_meet
    case rel => exact ⟨_, ((a0_1.toList != ([] : List UInt8))), (false), H', zL, ⟨by (with_reducible repeat (first | refine blk_drewN ?_ _ | refine blk_drew ?_ | refine blk_alloc ?_ _)); refine blk_far ?_ NB101_102.out _; (with_reducible repeat (first | refine blk_drewN ?_ _ | refine blk_drew ?_ | refine blk_alloc ?_ _)); refine zP (cs := #[.bool false, .string a0_1]) ?_ 0 _; (with_reducible repeat (first | refine blk_drewN ?_ _ | refine blk_drew ?_ | refine blk_alloc ?_ _)); exact BK101.out⟩, ⟨by (with_reducible repeat (first | refine blk_drewN ?_ _ | refine blk_drew ?_ | refine blk_alloc ?_ _)); refine zP (cs := #[.bool true, .string a1_1]) ?_ 0 _; (with_reducible repeat (first | refine blk_drewN ?_ _ | refine blk_drew ?_ | refine blk_alloc ?_ _)); refine blk_far ?_ NB102_101.out _; (with_reducible repeat (first | refine blk_drewN ?_ _ | refine blk_drew ?_ | refine blk_alloc ?_ _)); exact BK102.out⟩, zK BK103, ⟨zT HB⟩⟩
  ·replace c10 := Bool.eq_false_iff.mpr c10
   subst c10
   rw [if_neg zn] at H
   have H' := Aside0.mk H
   clear H
   go_wp2
   go_meet
   case rel => exact ⟨_, (a0_0), (false), H', zL, zK BK101, zK BK102, zK BK103, ⟨zT HB⟩⟩
 case rest =>
  clear HC3
  try clear c1; try clear c2; try clear p2; try clear c4; try clear c7; try clear c8; try clear c10; try clear c11; try clear c12; try clear c13; try clear c15; try clear c17; try clear c18; try clear c20; try clear hcz14_0; try clear hcz14_1; try clear hcz16_0; try clear hcz16_1; try clear hcz19_0; try clear hcz19_1; try clear hcz21_0; try clear hcz21_1; try clear hcz9_0; try clear hcz9_1; try clear hfz14_0; try clear hfz14_1; try clear hfz16_0; try clear hfz16_1; try clear hfz19_0; try clear hfz19_1; try clear hfz21_0; try clear hfz21_1; try clear hfz9_0; try clear hfz9_1
  obtain ⟨kq, x102000_2, x103000_2, HA, HJ2, BK101, BK102, BK103, HB⟩ := hcut
  cases kq with
  | zero => exact absurd HA.out (by simp [rat_lowest.j0])
  | succ kj2 =>
   have H := HA.out
   clear HA
   simp only [rat_lowest.j0] at H
   obtain ⟨⟨t104, t105⟩, A22, H⟩ := zo H; try dsimp only at H
   by_cases c23 : t105.toList = ([1] : List UInt8)
   ·rw [if_pos c23] at H
    have c23b0 := beq_iff_eq.mpr c23
    have c23b1 := bne_eq_false_iff_eq.mpr c23
    clear c23
    simp only [Option.some.injEq, Prod.mk.injEq] at H
    obtain ⟨rfl, rfl, rfl⟩ := H
    have hnb24 := NB101_102.out; have hnc24 := NB102_101.out; have hnb25 := NB101_103.out; have hnc25 := NB103_101.out; obtain ⟨hcz26_0, hcz26_1, hfz26_0, hfz26_1⟩ := z2 BK101; have hnb27 := NB102_103.out; have hnc27 := NB103_102.out; obtain ⟨hcz28_0, hcz28_1, hfz28_0, hfz28_1⟩ := z2 BK102
    go_wp2_with (first | ((with_reducible refine gate_callee (f := 57) rfl ?_); refine zO Tryz.func57 (by kernel_rfl) (rat_do_of_whole_Gcd.calls x102000_2 a0_1 x103000_2 a1_1 t104 t105 _ A22.out) fun w29 hb => ?_; obtain ⟨BK101, BK102, BK103⟩ := zB3 BK101 BK102 BK103 hb; replace HB := zS HB hb; (try clear hb)) | ((with_reducible refine gate_dst (N := 5) rfl ?_); refine zY 5 #[.bool false, .string (⟨#[]⟩ : ByteArray)] 24 ?_; intro gb106 hg w30 hbox hb; have BK106 := Aside0.mk (hbox); have GW106 := zG hg HB; have GE106 := zG hg HB; obtain ⟨NB101_106, NB106_101⟩ := zQ hg BK101; obtain ⟨NB102_106, NB106_102⟩ := zQ hg BK102; obtain ⟨NB103_106, NB106_103⟩ := zQ hg BK103; obtain ⟨BK101, BK102, BK103⟩ := zB3 BK101 BK102 BK103 hb; replace HB := zS HB hb; clear hb hbox hg; have hnb31 := NB106_101.out; have hnc31 := NB101_106.out; have hnb32 := NB106_102.out; have hnc32 := NB102_106.out; have hnb33 := NB106_103.out; have hnc33 := NB103_106.out; obtain ⟨hcz34_0, hcz34_1, hfz34_0, hfz34_1⟩ := z2 BK106; obtain ⟨hcz35_0, hcz35_1, hfz35_0, hfz35_1⟩ := z2 BK101; obtain ⟨hcz36_0, hcz36_1, hfz36_0, hfz36_1⟩ := z2 BK102; obtain ⟨hcz37_0, hcz37_1, hcz37_2, hfz37_0, hfz37_1, hfz37_2⟩ := z3 BK103))
    refine bodyPost_ret (results_cell_row rfl _ _ gb103 27 #[.bool x102000_2, .string a0_1, .string a1_1] (0, 0) _ rfl (by (with_reducible repeat (first | refine blk_drewN ?_ _ | refine blk_drew ?_ | refine blk_alloc ?_ _)); refine zP (cs := #[.bool x102000_2, .string a0_1, .string (⟨#[]⟩ : ByteArray)]) ?_ 2 _; (with_reducible repeat (first | refine blk_drewN ?_ _ | refine blk_drew ?_ | refine blk_alloc ?_ _)); refine zP (cs := #[.bool x102000_2, .string (⟨#[]⟩ : ByteArray), .string (⟨#[]⟩ : ByteArray)]) ?_ 1 _; (with_reducible repeat (first | refine blk_drewN ?_ _ | refine blk_drew ?_ | refine blk_alloc ?_ _)); refine zP (cs := #[.bool false, .string (⟨#[]⟩ : ByteArray), .string (⟨#[]⟩ : ByteArray)]) ?_ 0 _; (with_reducible repeat (first | refine blk_drewN ?_ _ | refine blk_drew ?_ | refine blk_alloc ?_ _)); refine blk_far ?_ NB103_106.out _; (with_reducible repeat (first | refine blk_drewN ?_ _ | refine blk_drew ?_ | refine blk_alloc ?_ _)); refine blk_far ?_ NB103_106.out _; (with_reducible repeat (first | refine blk_drewN ?_ _ | refine blk_drew ?_ | refine blk_alloc ?_ _)); exact BK103.out) Tryz.underlying27 rfl (by kernel_rfl)) rfl ?_
    exact ⟨zH, zT HB⟩
   ·rw [if_neg c23] at H
    have c23b0 := beq_eq_false_iff_ne.mpr c23
    have c23b1 := bne_iff_ne.mpr c23
    obtain ⟨⟨t107, t108, t109, t110, t111⟩, A38, H⟩ := zo H; try dsimp only at H
    obtain ⟨⟨t112, t113, t114, t115, t116⟩, A39, H⟩ := zo H; try dsimp only at H
    simp only [Option.some.injEq, Prod.mk.injEq] at H
    obtain ⟨rfl, rfl, rfl⟩ := H
    have hnb40 := NB101_102.out; have hnc40 := NB102_101.out; have hnb41 := NB101_103.out; have hnc41 := NB103_101.out; obtain ⟨hcz42_0, hcz42_1, hfz42_0, hfz42_1⟩ := z2 BK101; have hnb43 := NB102_103.out; have hnc43 := NB103_102.out; obtain ⟨hcz44_0, hcz44_1, hfz44_0, hfz44_1⟩ := z2 BK102
    go_wp2_with (first | ((with_reducible refine gate_callee (f := 57) rfl ?_); refine zO Tryz.func57 (by kernel_rfl) (rat_do_of_whole_Gcd.calls x102000_2 a0_1 x103000_2 a1_1 t104 t105 _ A22.out) fun w45 hb => ?_; obtain ⟨BK101, BK102, BK103⟩ := zB3 BK101 BK102 BK103 hb; replace HB := zS HB hb; (try clear hb)) | ((with_reducible refine gate_dst (N := 5) rfl ?_); refine zY 5 #[.bool false, .string (⟨#[]⟩ : ByteArray)] 24 ?_; intro gb106 hg w46 hbox hb; have BK106 := Aside0.mk (hbox); have GW106 := zG hg HB; have GE106 := zG hg HB; obtain ⟨NB101_106, NB106_101⟩ := zQ hg BK101; obtain ⟨NB102_106, NB106_102⟩ := zQ hg BK102; obtain ⟨NB103_106, NB106_103⟩ := zQ hg BK103; obtain ⟨BK101, BK102, BK103⟩ := zB3 BK101 BK102 BK103 hb; replace HB := zS HB hb; clear hb hbox hg; have hnb47 := NB106_101.out; have hnc47 := NB101_106.out; have hnb48 := NB106_102.out; have hnc48 := NB102_106.out; have hnb49 := NB106_103.out; have hnc49 := NB103_106.out; obtain ⟨hcz50_0, hcz50_1, hfz50_0, hfz50_1⟩ := z2 BK106; obtain ⟨hcz51_0, hcz51_1, hfz51_0, hfz51_1⟩ := z2 BK101) | ((with_reducible refine gate_callee (f := 81) rfl ?_); refine zO Tryz.func81 (by kernel_rfl) (whole_Div.calls x102000_2 a0_1 t104 t105 t107 t108 t109 t110 t111 _ A38.out) fun w52 hb => ?_; obtain ⟨BK101, BK102, BK103⟩ := zB3 BK101 BK102 BK103 hb; replace BK106 := Aside0.mk (blk_below (g := gb106) (o := .cells #[.bool t104, .string t105] 24 (0, 0)) (by (with_reducible repeat (first | refine blk_drewN ?_ _ | refine blk_drew ?_ | refine blk_alloc ?_ _)); refine zP (cs := #[.bool t104, .string (⟨#[]⟩ : ByteArray)]) ?_ 1 _; (with_reducible repeat (first | refine blk_drewN ?_ _ | refine blk_drew ?_ | refine blk_alloc ?_ _)); refine zP (cs := #[.bool false, .string (⟨#[]⟩ : ByteArray)]) ?_ 0 _; (with_reducible repeat (first | refine blk_drewN ?_ _ | refine blk_drew ?_ | refine blk_alloc ?_ _)); exact BK106.out) hb); replace HB := zS HB hb; (try clear hb); obtain ⟨hcz53_0, hcz53_1, hfz53_0, hfz53_1⟩ := z2 BK101; obtain ⟨hcz54_0, hcz54_1, hfz54_0, hfz54_1⟩ := z2 BK102; obtain ⟨hcz55_0, hcz55_1, hfz55_0, hfz55_1⟩ := z2 BK106) | ((with_reducible refine gate_callee (f := 81) rfl ?_); refine zO Tryz.func81 (by kernel_rfl) (whole_Div.calls x103000_2 a1_1 t104 t105 t112 t113 t114 t115 t116 _ A39.out) fun w56 hb => ?_; replace BK101 := Aside0.mk (blk_below (g := gb101) (o := .cells #[.bool t107, .string t108] 24 (0, 0)) (by (with_reducible repeat (first | refine blk_drewN ?_ _ | refine blk_drew ?_ | refine blk_alloc ?_ _)); refine zP (cs := #[.bool t107, .string a0_1]) ?_ 1 _; (with_reducible repeat (first | refine blk_drewN ?_ _ | refine blk_drew ?_ | refine blk_alloc ?_ _)); refine zP (cs := #[.bool x102000_2, .string a0_1]) ?_ 0 _; (with_reducible repeat (first | refine blk_drewN ?_ _ | refine blk_drew ?_ | refine blk_alloc ?_ _)); exact BK101.out) hb); obtain ⟨BK102, BK103, BK106⟩ := zB3 BK102 BK103 BK106 hb; replace HB := zS HB hb; (try clear hb); obtain ⟨hcz57_0, hcz57_1, hfz57_0, hfz57_1⟩ := z2 BK102; obtain ⟨hcz58_0, hcz58_1, hfz58_0, hfz58_1⟩ := z2 BK101; obtain ⟨hcz59_0, hcz59_1, hcz59_2, hfz59_0, hfz59_1, hfz59_2⟩ := z3 BK103))
    refine bodyPost_ret (results_cell_row rfl _ _ gb103 27 #[.bool t107, .string t108, .string t113] (0, 0) _ rfl (by (with_reducible repeat (first | refine blk_drewN ?_ _ | refine blk_drew ?_ | refine blk_alloc ?_ _)); refine zP (cs := #[.bool t107, .string t108, .string (⟨#[]⟩ : ByteArray)]) ?_ 2 _; (with_reducible repeat (first | refine blk_drewN ?_ _ | refine blk_drew ?_ | refine blk_alloc ?_ _)); refine zP (cs := #[.bool t107, .string (⟨#[]⟩ : ByteArray), .string (⟨#[]⟩ : ByteArray)]) ?_ 1 _; (with_reducible repeat (first | refine blk_drewN ?_ _ | refine blk_drew ?_ | refine blk_alloc ?_ _)); refine zP (cs := #[.bool false, .string (⟨#[]⟩ : ByteArray), .string (⟨#[]⟩ : ByteArray)]) ?_ 0 _; (with_reducible repeat (first | refine blk_drewN ?_ _ | refine blk_drew ?_ | refine blk_alloc ?_ _)); refine blk_far ?_ NB103_102.out _; (with_reducible repeat (first | refine blk_drewN ?_ _ | refine blk_drew ?_ | refine blk_alloc ?_ _)); refine blk_far ?_ NB103_102.out _; (with_reducible repeat (first | refine blk_drewN ?_ _ | refine blk_drew ?_ | refine blk_alloc ?_ _)); exact BK103.out) Tryz.underlying27 rfl (by kernel_rfl)) rfl ?_
    exact ⟨zH, zT HB⟩


/-! ### rat_Make: function 14 -/
mutual
def rat_Make.j0 : Nat → Bool → Bool → ByteArray → Bool → ByteArray → Option (Bool × ByteArray × ByteArray × Int)
 | 0, _, _, _, _, _ => none
 | k + 1, x18, x118000, x118001, x119000, x119001 => if x18 = true then (some (false, (⟨#[]⟩ : ByteArray), (⟨#[]⟩ : ByteArray), 5)) else ((some (([(⟨x118000, x118001⟩ : S24), (⟨x119000, x119001⟩ : S24)] : List (S24)) : List (S24))).bind fun y120 => (rat_Make.l0 k y120 (y120.length : Int) 0 x118000 x118001 x119000 x119001))
def rat_Make.l0 : Nat → List (S24) → Int → Int → Bool → ByteArray → Bool → ByteArray → Option (Bool × ByteArray × ByteArray × Int)
 | 0, _, _, _, _, _, _, _ => none
 | k + 1, x22, x23, x24, x118000, x118001, x119000, x119001 => if x24 < x23 then (if 0 ≤ x24 then (if x24 < (x22.length : Int) then ((whole_Check.f ((rd_T24 x22 x24).f0) ((rd_T24 x22 x24).f1)).bind fun t125 => (if t125 = 0 then (rat_Make.l0 k x22 x23 (wrap64 (x24 + 1)) x118000 x118001 x119000 x119001) else (some (false, (⟨#[]⟩ : ByteArray), (⟨#[]⟩ : ByteArray), t125)))) else (none)) else (none)) else (if x119001.toList = ([] : List UInt8) then (some (false, (⟨#[]⟩ : ByteArray), (⟨#[]⟩ : ByteArray), 3)) else ((rat_lowest.f k x118000 x118001 x119000 x119001).bind fun bt126 => (some (bt126.1, bt126.2.1, bt126.2.2, 0))))
end
def rat_Make.f (k : Nat) (a0_0 : Bool) (a0_1 : ByteArray) (a1_0 : Bool) (a1_1 : ByteArray) : Option (Bool × ByteArray × ByteArray × Int) := if (a0_1.size : Int) > 8000 then (rat_Make.j0 k true a0_0 a0_1 a1_0 a1_1) else (rat_Make.j0 k (decide ((a1_1.size : Int) > 8000)) a0_0 a0_1 a1_0 a1_1)
set_option maxHeartbeats 8000000 in
set_option maxRecDepth 100000 in
theorem rat_Make.calls (k : Nat) (a0_0 : Bool) (a0_1 : ByteArray) (a1_0 : Bool) (a1_1 : ByteArray) (r1 : Bool) (r2 : ByteArray) (r3 : ByteArray) (r4 : Int) (w : World) (h : rat_Make.f k a0_0 a0_1 a1_0 a1_1 = some (r1, r2, r3, r4)) :
  Calls Tryz.prog 14 #[.agg #[.bool a0_0, .string a0_1], .agg #[.bool a1_0, .string a1_1]] w fun e w' => e = .returned (.tuple #[.agg #[.bool r1, .string r2, .string r3], .int .i64 r4]) ∧ Below w.heap.size w w' := by
 have hu24 := Tryz.underlying24; have hf0 := zf240; have hf1 := zf241; have hf2 := zf270; have hf3 := zf271
 have hu27 := Tryz.underlying27
 have HB := Aside0.mk (Below.refl w.heap.size w)
 unfold rat_Make.f at h; have H := h; clear h
 have HC3 := Aside0.mk H
 clear H
 go_enter Tryz.func14, Tryz.ntmps14
 go_upto_region 1 with (first | ((with_reducible refine gate_dst (N := 2) rfl ?_); (try (refine gate_guard (by rfl) ?_; dsimp only)); refine zY 2 #[.bool a0_0, .string a0_1] 24 ?_; intro gb117 hg w4 hbox hb; have BK117 := Aside0.mk (hbox); have GW117 := zG hg HB; have GE117 := zG hg HB; replace HB := zS HB hb; clear hb hbox hg) | ((with_reducible refine gate_dst (N := 3) rfl ?_); (try (refine gate_guard (by rfl) ?_; dsimp only)); refine zY 3 #[.bool a1_0, .string a1_1] 24 ?_; intro gb118 hg w5 hbox hb; have BK118 := Aside0.mk (hbox); have GW118 := zG hg HB; have GE118 := zG hg HB; obtain ⟨NB117_118, NB118_117⟩ := zQ hg BK117; replace BK117 := zB BK117 hb; replace HB := zS HB hb; clear hb hbox hg) | ((with_reducible refine gate_dst (N := 4) rfl ?_); (try (refine gate_guard (by rfl) ?_; dsimp only)); refine zY 4 #[.bool false, .string (⟨#[]⟩ : ByteArray), .string (⟨#[]⟩ : ByteArray)] 27 ?_; intro gb119 hg w6 hbox hb; have BK119 := Aside0.mk (hbox); have GW119 := zG hg HB; have GE119 := zG hg HB; obtain ⟨NB117_119, NB119_117⟩ := zQ hg BK117; obtain ⟨NB118_119, NB119_118⟩ := zQ hg BK118; obtain ⟨BK117, BK118⟩ := zB2 BK117 BK118 hb; replace HB := zS HB hb; clear hb hbox hg))
 (try simp only [Act.put, List.setIfInBounds_toArray, List.set_cons_zero, List.set_cons_succ])
 go_cut [18] (fun v18 wc => ∃ (kq : Nat) (x18_2 : Bool), v18 = .bool x18_2 ∧ Aside0 (rat_Make.j0 kq x18_2 a0_0 a0_1 a1_0 a1_1 = some (r1, r2, r3, r4)) ∧ Aside0 (kq ≤ k) ∧ Aside0 (wc.heap[gb117]? = some (.cells #[.bool a0_0, .string a0_1] 24 (0, 0))) ∧ Aside0 (wc.heap[gb118]? = some (.cells #[.bool a1_0, .string a1_1] 24 (0, 0))) ∧ Aside0 (wc.heap[gb119]? = some (.cells #[.bool false, .string (⟨#[]⟩ : ByteArray), .string (⟨#[]⟩ : ByteArray)] 27 (0, 0))) ∧ Aside0 (Below w.heap.size w wc))
 case first =>
  have H := HC3.out
  clear HC3
  by_cases c7 : (a0_1.size : Int) > 8000
  ·rw [if_pos c7] at H
   have c7b0 := decide_eq_true c7
   have c7b1 : decide (8000 < a0_1.size) = true := decide_eq_true (by omega)
   clear c7
   (first | rw [c7b0] | (simp only [i64_w, i32_w]; rw [c7b0]) | skip)
   have H' := Aside0.mk H
   clear H; have hnb8 := NB117_118.out; have hnc8 := NB118_117.out; have hnb9 := NB117_119.out; have hnc9 := NB119_117.out; obtain ⟨hcz10_0, hcz10_1, hfz10_0, hfz10_1⟩ := z2 BK117
   go_wp2
   go_meet
   case rel => exact ⟨_, (true), zR, H', zL, zK BK117, zK BK118, zK BK119, ⟨zT HB⟩⟩
  ·rw [if_neg c7] at H
   have c7b0 := decide_eq_false c7
   have c7b1 : decide (8000 < a0_1.size) = false := decide_eq_false (by omega)
   clear c7
   (first | rw [c7b0] | (simp only [i64_w, i32_w]; rw [c7b0]) | skip)
   have H' := Aside0.mk H
   clear H; have hnb11 := NB117_118.out; have hnc11 := NB118_117.out; have hnb12 := NB117_119.out; have hnc12 := NB119_117.out; obtain ⟨hcz13_0, hcz13_1, hfz13_0, hfz13_1⟩ := z2 BK117; have hnb14 := NB118_119.out; have hnc14 := NB119_118.out; obtain ⟨hcz15_0, hcz15_1, hfz15_0, hfz15_1⟩ := z2 BK118
   go_wp2
   go_meet
   case rel => exact ⟨_, (decide ((a1_1.size : Int) > 8000)), zR, H', zL, zK BK117, zK BK118, zK BK119, ⟨zT HB⟩⟩
 case rest =>
  clear HC3
  try clear c1; try clear p2; try clear c7; try clear c7b0; try clear c7b1; try clear c8; try clear c9; try clear c11; try clear c12; try clear c14; try clear hcz10_0; try clear hcz10_1; try clear hcz13_0; try clear hcz13_1; try clear hcz15_0; try clear hcz15_1; try clear hfz10_0; try clear hfz10_1; try clear hfz13_0; try clear hfz13_1; try clear hfz15_0; try clear hfz15_1
  obtain ⟨kq, x18_2, rfl, HA, HJ2, BK117, BK118, BK119, HB⟩ := hcut
  cases kq with
  | zero => exact absurd HA.out (by simp [rat_Make.j0])
  | succ kj2 =>
   have H := HA.out
   clear HA
   simp only [rat_Make.j0] at H
   by_cases c16 : x18_2 = true
   ·subst c16
    rw [if_pos rfl] at H
    simp only [Option.some.injEq, Prod.mk.injEq] at H
    obtain ⟨rfl, rfl, rfl, rfl⟩ := H
    have hnb17 := NB119_117.out; have hnc17 := NB117_119.out; have hnb18 := NB119_118.out; have hnc18 := NB118_119.out; obtain ⟨hcz19_0, hcz19_1, hcz19_2, hfz19_0, hfz19_1, hfz19_2⟩ := z3 BK119
    go_wp2
    refine bodyPost_ret (results_ct rfl _ _ gb119 27 #[.bool false, .string (⟨#[]⟩ : ByteArray), .string (⟨#[]⟩ : ByteArray)] (0, 0) _ rfl (by (with_reducible repeat (first | refine blk_drewN ?_ _ | refine blk_drew ?_ | refine blk_alloc ?_ _)); refine zP (cs := #[.bool false, .string (⟨#[]⟩ : ByteArray), .string (⟨#[]⟩ : ByteArray)]) ?_ 2 _; (with_reducible repeat (first | refine blk_drewN ?_ _ | refine blk_drew ?_ | refine blk_alloc ?_ _)); refine zP (cs := #[.bool false, .string (⟨#[]⟩ : ByteArray), .string (⟨#[]⟩ : ByteArray)]) ?_ 1 _; (with_reducible repeat (first | refine blk_drewN ?_ _ | refine blk_drew ?_ | refine blk_alloc ?_ _)); refine zP (cs := #[.bool false, .string (⟨#[]⟩ : ByteArray), .string (⟨#[]⟩ : ByteArray)]) ?_ 0 _; (with_reducible repeat (first | refine blk_drewN ?_ _ | refine blk_drew ?_ | refine blk_alloc ?_ _)); exact BK119.out) Tryz.underlying27 rfl (by kernel_rfl)) rfl ?_
    exact ⟨zH, zT HB⟩
   ·replace c16 := Bool.eq_false_iff.mpr c16
    subst c16
    rw [if_neg zn] at H
    obtain ⟨y120, hy120⟩ : ∃ y_ : List (S24), y_ = (([(⟨a0_0, a0_1⟩ : S24), (⟨a1_0, a1_1⟩ : S24)] : List (S24))) := ⟨_, rfl⟩
    replace H : (rat_Make.l0 kj2 y120 (y120.length : Int) 0 a0_0 a0_1 a1_0 a1_1) = some (r1, r2, r3, r4) := by first | (rw [hy120]; with_reducible exact H) | (have H2_ := (Option.bind_some _ _).symm.trans H; rw [hy120]; with_reducible exact H2_) | (have H2_ := (Option.bind_some _ _).symm.trans H; with_reducible exact H2_) | with_reducible exact H | (rw [hy120]; exact H) | exact H
    have Ny120 := Aside0.mk hy120
    clear hy120
    have H' := Aside0.mk H
    clear H; have hnb20 := NB117_118.out; have hnc20 := NB118_117.out; have hnb21 := NB117_119.out; have hnc21 := NB119_117.out; obtain ⟨hcz22_0, hcz22_1, hfz22_0, hfz22_1⟩ := z2 BK117; have hnb23 := NB118_119.out; have hnc23 := NB119_118.out; obtain ⟨hcz24_0, hcz24_1, hfz24_0, hfz24_1⟩ := z2 BK118
    go_wp2_with (first | ((with_reducible refine gate_dst (N := 22) rfl ?_); (try (refine gate_guard (by rfl) ?_; dsimp only)); refine Kd.R_lit k24 _ 24 ?hg (N := 22) ?hd (xs := ([(⟨a0_0, a0_1⟩ : S24), (⟨a1_0, a1_1⟩ : S24)] : List (S24))) (inner := [.bool a0_0, .string a0_1, .bool a1_0, .string a1_1]) (ok := fun _ => True) (okp := fun _ => True) ?hr ?hp (fun _ hk => hk) trivial (Below.refl _ _) (Nat.le_refl _) (by simp) ?_; (case hd => rfl); (case hg => rfl); (case hr => first | (go_simp; done) | (go_simp; rfl)); (case hp => exact (Reps.c2 (show Kd.M k24 _ _ _ (⟨a0_0, a0_1⟩ : S24) [.bool a0_0, .string a0_1] from (k24_mkM _ _ _ (⟨a0_0, a0_1⟩ : S24) )) (Reps.c2 (show Kd.M k24 _ _ _ (⟨a1_0, a1_1⟩ : S24) [.bool a1_0, .string a1_1] from (k24_mkM _ _ _ (⟨a1_0, a1_1⟩ : S24) )) (Reps.none _ _)))); intro v121 w25 ho26 hb hg_ hnew_; clear hg_ hnew_; (first | rw [← Ny120.out] at ho26 | (simp only [Int.reduceToNat] at ho26; rw [← Ny120.out] at ho26)); have HO122 := Aside0.mk (Kd.R_lower (Kd.R_newB (Kd.R_newB ho26 (g := gb117) (o := .cells #[.bool a0_0, .string a0_1] 24 (0, 0)) (zK BK117).out) (g := gb118) (o := .cells #[.bool a1_0, .string a1_1] 24 (0, 0)) (zK BK118).out) (below_size (zT HB))); obtain ⟨BK117, BK118, BK119⟩ := zB3 BK117 BK118 BK119 hb; replace HB := zS HB hb; clear hb ho26; obtain ⟨Ao27, co27, eo27⟩ := Kd.R_slice HO122.out; subst eo27))
    go_loopg [24] kj2 (fun kq v24 w' => ∃ (x24_2 : Int) (x120000_2 : Bool) (x120001_2 : ByteArray) (x120002_2 : ByteArray), v24 = .int .i64 x24_2 ∧ Aside0 (rat_Make.l0 kq y120 (y120.length : Int) x24_2 a0_0 a0_1 a1_0 a1_1 = some (r1, r2, r3, r4)) ∧ Aside0 (kq ≤ kj2) ∧ Aside0 (Kd.R k24 24 w' w.heap.size (fun k_ => k_ ≠ gb117 ∧ k_ ≠ gb118) (.slice Ao27 y120.length co27) y120) ∧ Aside0 (w'.heap[gb117]? = some (.cells #[.bool a0_0, .string a0_1] 24 (0, 0))) ∧ Aside0 (w'.heap[gb118]? = some (.cells #[.bool a1_0, .string a1_1] 24 (0, 0))) ∧ Aside0 (w'.heap[gb119]? = some (.cells #[.bool x120000_2, .string x120001_2, .string x120002_2] 27 (0, 0))) ∧ Aside0 (Below w.heap.size w w'))
    case atStart => exact ⟨(0), (false), ((⟨#[]⟩ : ByteArray)), ((⟨#[]⟩ : ByteArray)), zR, H', ⟨Nat.le_refl _⟩, ⟨by (with_reducible repeat (first | apply Kd.R_alloc | apply Kd.R_drewN | apply Kd.R_drew)); exact Kd.R_mono HO122.out (fun _ hk => ⟨hk.1.2, hk.2⟩)⟩, zK BK117, zK BK118, zK BK119, ⟨zT HB⟩⟩
    case round =>
     clear H'
     try clear c1; try clear c2; try clear p2; try clear c7; try clear c7b0; try clear c7b1; try clear c8; try clear c9; try clear c11; try clear c12; try clear c14; try clear c16; try clear c17; try clear c18; try clear c20; try clear c21; try clear c23; try clear hcz10_0; try clear hcz10_1; try clear hcz13_0; try clear hcz13_1; try clear hcz15_0; try clear hcz15_1; try clear hcz19_0; try clear hcz19_1; try clear hcz19_2; try clear hcz22_0; try clear hcz22_1; try clear hcz24_0; try clear hcz24_1; try clear hfz10_0; try clear hfz10_1; try clear hfz13_0; try clear hfz13_1; try clear hfz15_0; try clear hfz15_1; try clear hfz19_0; try clear hfz19_1; try clear hfz19_2; try clear hfz22_0; try clear hfz22_1; try clear hfz24_0; try clear hfz24_1; try clear p2
     obtain ⟨x24_2, x120000_2, x120001_2, x120002_2, rfl, HA, HK2, HO_22, BK117, BK118, BK119, HB⟩ := hrel
     cases gk with
     | zero => exact absurd HA.out (by simp [rat_Make.l0])
     | succ k2 =>
      have H := HA.out
      clear HA
      simp only [rat_Make.l0] at H
      by_cases c28 : x24_2 < (y120.length : Int)
      ·rw [if_pos c28] at H
       have c28b0 := decide_eq_true c28
       clear c28
       by_cases c29 : 0 ≤ x24_2
       ·rw [if_pos c29] at H
        have c29b0 := decide_eq_true c29
        clear c29
        by_cases c30 : x24_2 < (y120.length : Int)
        ·rw [if_pos c30] at H
         have c30b0 := decide_eq_true c30
         clear c30
         obtain ⟨t125, A31, H⟩ := zo H
         by_cases c32 : t125 = 0
         ·rw [if_pos c32] at H
          have c32b0 := beq_iff_eq.mpr c32
          have c32b1 := bne_eq_false_iff_eq.mpr c32
          clear c32
          have H' := Aside0.mk H
          clear H
          have p123 : 0 ≤ (x24_2 : Int) := of_decide_eq_true (by first | (with_reducible assumption) | assumption)
          have q123 : x24_2 < (y120.length : Int) := of_decide_eq_true (by first | (with_reducible assumption) | assumption)
          obtain ⟨ad123, e123, hx123_0, hx123_1⟩ := at_T24 (Kd.R_reads' HO_22.out).2.2 x24_2 p123 q123
          cases e123
          replace p123 := eq_true p123
          replace q123 := eq_true q123
          go_wp2_with (first | ((with_reducible refine gate_dst (N := 7) rfl ?_); (try (refine gate_guard (by rfl) ?_; dsimp only)); refine zY 7 #[.bool false, .string (⟨#[]⟩ : ByteArray)] 24 ?_; intro gb124 hg w33 hbox hb; have BK124 := Aside0.mk (hbox); have GW124 := zG hg HB; have GE124 := zG hg HB; obtain ⟨NB117_124, NB124_117⟩ := zQ hg BK117; obtain ⟨NB118_124, NB124_118⟩ := zQ hg BK118; obtain ⟨NB119_124, NB124_119⟩ := zQ hg BK119; replace HO_22 := Aside0.mk (Kd.R_below (Kd.R_elderB (by (with_reducible repeat (first | apply Kd.R_alloc | apply Kd.R_drewN | apply Kd.R_drew)); exact HO_22.out) gb124 (Nat.le_of_eq hg.symm)) hb); obtain ⟨BK117, BK118, BK119⟩ := zB3 BK117 BK118 BK119 hb; replace HB := zS HB hb; clear hb hbox hg; have hnb34 := NB124_117.out; have hnc34 := NB117_124.out; have hnb35 := NB124_118.out; have hnc35 := NB118_124.out; have hnb36 := NB124_119.out; have hnc36 := NB119_124.out; obtain ⟨hcz37_0, hcz37_1, hfz37_0, hfz37_1⟩ := z2 BK124) | ((with_reducible refine gate_callee (f := 46) rfl ?_); refine zO Tryz.func46 (by kernel_rfl) (whole_Check.calls ((rd_T24 y120 x24_2).f0) ((rd_T24 y120 x24_2).f1) t125 _ A31.out) fun w38 hb => ?_; replace HO_22 := Aside0.mk (Kd.R_below (by (with_reducible repeat (first | apply Kd.R_alloc | apply Kd.R_drewN | apply Kd.R_drew)); exact (Kd.R_mono (Kd.R_far (p := ⟨gb124, 1, none⟩) (Kd.R_far (p := ⟨gb124, 0, none⟩) (Kd.R_mono HO_22.out (fun k_ hk => (⟨hk, hk.2⟩ : _ ∧ k_ ≠ gb124))) (fun _ hk => hk.2) (.bool ((rd_T24 y120 x24_2).f0))) (fun _ hk => hk.2) (.string ((rd_T24 y120 x24_2).f1))) (fun _ h_ => h_.1))) hb); obtain ⟨BK117, BK118, BK119⟩ := zB3 BK117 BK118 BK119 hb; replace BK124 := Aside0.mk (blk_below (g := gb124) (o := .cells #[.bool ((rd_T24 y120 x24_2).f0), .string ((rd_T24 y120 x24_2).f1)] 24 (0, 0)) (by (with_reducible repeat (first | refine blk_drewN ?_ _ | refine blk_drew ?_ | refine blk_alloc ?_ _)); refine zP (cs := #[.bool ((rd_T24 y120 x24_2).f0), .string (⟨#[]⟩ : ByteArray)]) ?_ 1 _; (with_reducible repeat (first | refine blk_drewN ?_ _ | refine blk_drew ?_ | refine blk_alloc ?_ _)); refine zP (cs := #[.bool false, .string (⟨#[]⟩ : ByteArray)]) ?_ 0 _; (with_reducible repeat (first | refine blk_drewN ?_ _ | refine blk_drew ?_ | refine blk_alloc ?_ _)); exact BK124.out) hb); replace HB := zS HB hb; (try clear hb)))
          go_roundg k2
          case measure => have := HJ2.out; have := HK2.out; omega
          case rel => exact ⟨(wrap64 (x24_2 + 1)), (x120000_2), (x120001_2), (x120002_2), zR, H', ⟨by have := HJ2.out; have := HK2.out; omega⟩, ⟨by (with_reducible repeat (first | apply Kd.R_alloc | apply Kd.R_drewN | apply Kd.R_drew)); exact Kd.R_mono HO_22.out (fun _ hk => ⟨hk.1.1, hk.1.2⟩)⟩, zK BK117, zK BK118, zK BK119, ⟨zT HB⟩⟩
         ·rw [if_neg c32] at H
          have c32b0 := beq_eq_false_iff_ne.mpr c32
          have c32b1 := bne_iff_ne.mpr c32
          simp only [Option.some.injEq, Prod.mk.injEq] at H
          obtain ⟨rfl, rfl, rfl, rfl⟩ := H
          have p123 : 0 ≤ (x24_2 : Int) := of_decide_eq_true (by first | (with_reducible assumption) | assumption)
          have q123 : x24_2 < (y120.length : Int) := of_decide_eq_true (by first | (with_reducible assumption) | assumption)
          obtain ⟨ad123, e123, hx123_0, hx123_1⟩ := at_T24 (Kd.R_reads' HO_22.out).2.2 x24_2 p123 q123
          cases e123
          replace p123 := eq_true p123
          replace q123 := eq_true q123
          go_wp2_with (first | ((with_reducible refine gate_dst (N := 7) rfl ?_); (try (refine gate_guard (by rfl) ?_; dsimp only)); refine zY 7 #[.bool false, .string (⟨#[]⟩ : ByteArray)] 24 ?_; intro gb124 hg w39 hbox hb; have BK124 := Aside0.mk (hbox); have GW124 := zG hg HB; have GE124 := zG hg HB; obtain ⟨NB117_124, NB124_117⟩ := zQ hg BK117; obtain ⟨NB118_124, NB124_118⟩ := zQ hg BK118; obtain ⟨NB119_124, NB124_119⟩ := zQ hg BK119; replace HO_22 := Aside0.mk (Kd.R_below (Kd.R_elderB (by (with_reducible repeat (first | apply Kd.R_alloc | apply Kd.R_drewN | apply Kd.R_drew)); exact HO_22.out) gb124 (Nat.le_of_eq hg.symm)) hb); obtain ⟨BK117, BK118, BK119⟩ := zB3 BK117 BK118 BK119 hb; replace HB := zS HB hb; clear hb hbox hg; have hnb40 := NB124_117.out; have hnc40 := NB117_124.out; have hnb41 := NB124_118.out; have hnc41 := NB118_124.out; have hnb42 := NB124_119.out; have hnc42 := NB119_124.out; obtain ⟨hcz43_0, hcz43_1, hfz43_0, hfz43_1⟩ := z2 BK124) | ((with_reducible refine gate_callee (f := 46) rfl ?_); refine zO Tryz.func46 (by kernel_rfl) (whole_Check.calls ((rd_T24 y120 x24_2).f0) ((rd_T24 y120 x24_2).f1) t125 _ A31.out) fun w44 hb => ?_; replace HO_22 := Aside0.mk (Kd.R_below (by (with_reducible repeat (first | apply Kd.R_alloc | apply Kd.R_drewN | apply Kd.R_drew)); exact (Kd.R_mono (Kd.R_far (p := ⟨gb124, 1, none⟩) (Kd.R_far (p := ⟨gb124, 0, none⟩) (Kd.R_mono HO_22.out (fun k_ hk => (⟨hk, hk.2⟩ : _ ∧ k_ ≠ gb124))) (fun _ hk => hk.2) (.bool ((rd_T24 y120 x24_2).f0))) (fun _ hk => hk.2) (.string ((rd_T24 y120 x24_2).f1))) (fun _ h_ => h_.1))) hb); obtain ⟨BK117, BK118, BK119⟩ := zB3 BK117 BK118 BK119 hb; replace BK124 := Aside0.mk (blk_below (g := gb124) (o := .cells #[.bool ((rd_T24 y120 x24_2).f0), .string ((rd_T24 y120 x24_2).f1)] 24 (0, 0)) (by (with_reducible repeat (first | refine blk_drewN ?_ _ | refine blk_drew ?_ | refine blk_alloc ?_ _)); refine zP (cs := #[.bool ((rd_T24 y120 x24_2).f0), .string (⟨#[]⟩ : ByteArray)]) ?_ 1 _; (with_reducible repeat (first | refine blk_drewN ?_ _ | refine blk_drew ?_ | refine blk_alloc ?_ _)); refine zP (cs := #[.bool false, .string (⟨#[]⟩ : ByteArray)]) ?_ 0 _; (with_reducible repeat (first | refine blk_drewN ?_ _ | refine blk_drew ?_ | refine blk_alloc ?_ _)); exact BK124.out) hb); replace HB := zS HB hb; (try clear hb); have hnb45 := NB119_117.out; have hnc45 := NB117_119.out; have hnb46 := NB119_118.out; have hnc46 := NB118_119.out; obtain ⟨hcz47_0, hcz47_1, hcz47_2, hfz47_0, hfz47_1, hfz47_2⟩ := z3 BK119))
          refine bodyPost_ret (results_ct rfl _ _ gb119 27 #[.bool false, .string (⟨#[]⟩ : ByteArray), .string (⟨#[]⟩ : ByteArray)] (0, 0) _ rfl (by (with_reducible repeat (first | refine blk_drewN ?_ _ | refine blk_drew ?_ | refine blk_alloc ?_ _)); refine zP (cs := #[.bool false, .string (⟨#[]⟩ : ByteArray), .string x120002_2]) ?_ 2 _; (with_reducible repeat (first | refine blk_drewN ?_ _ | refine blk_drew ?_ | refine blk_alloc ?_ _)); refine zP (cs := #[.bool false, .string x120001_2, .string x120002_2]) ?_ 1 _; (with_reducible repeat (first | refine blk_drewN ?_ _ | refine blk_drew ?_ | refine blk_alloc ?_ _)); refine zP (cs := #[.bool x120000_2, .string x120001_2, .string x120002_2]) ?_ 0 _; (with_reducible repeat (first | refine blk_drewN ?_ _ | refine blk_drew ?_ | refine blk_alloc ?_ _)); exact BK119.out) Tryz.underlying27 rfl (by kernel_rfl)) rfl ?_
          exact ⟨zH, zT HB⟩
        ·rw [if_neg c30] at H
         exact absurd H (by simp)
       ·rw [if_neg c29] at H
        exact absurd H (by simp)
      ·rw [if_neg c28] at H
       have c28b0 := decide_eq_false c28
       clear c28
       by_cases c48 : a1_1.toList = ([] : List UInt8)
       ·rw [if_pos c48] at H
        have c48b0 := beq_iff_eq.mpr c48
        have c48b1 := bne_eq_false_iff_eq.mpr c48
        clear c48
        simp only [Option.some.injEq, Prod.mk.injEq] at H
        obtain ⟨rfl, rfl, rfl, rfl⟩ := H
        have hnb49 := NB118_117.out; have hnc49 := NB117_118.out; have hnb50 := NB118_119.out; have hnc50 := NB119_118.out; obtain ⟨hcz51_0, hcz51_1, hfz51_0, hfz51_1⟩ := z2 BK118; have hnb52 := NB119_117.out; have hnc52 := NB117_119.out; obtain ⟨hcz53_0, hcz53_1, hcz53_2, hfz53_0, hfz53_1, hfz53_2⟩ := z3 BK119
        go_wp2
        refine bodyPost_ret (results_ct rfl _ _ gb119 27 #[.bool false, .string (⟨#[]⟩ : ByteArray), .string (⟨#[]⟩ : ByteArray)] (0, 0) _ rfl (by (with_reducible repeat (first | refine blk_drewN ?_ _ | refine blk_drew ?_ | refine blk_alloc ?_ _)); refine zP (cs := #[.bool false, .string (⟨#[]⟩ : ByteArray), .string x120002_2]) ?_ 2 _; (with_reducible repeat (first | refine blk_drewN ?_ _ | refine blk_drew ?_ | refine blk_alloc ?_ _)); refine zP (cs := #[.bool false, .string x120001_2, .string x120002_2]) ?_ 1 _; (with_reducible repeat (first | refine blk_drewN ?_ _ | refine blk_drew ?_ | refine blk_alloc ?_ _)); refine zP (cs := #[.bool x120000_2, .string x120001_2, .string x120002_2]) ?_ 0 _; (with_reducible repeat (first | refine blk_drewN ?_ _ | refine blk_drew ?_ | refine blk_alloc ?_ _)); exact BK119.out) Tryz.underlying27 rfl (by kernel_rfl)) rfl ?_
        exact ⟨zH, zT HB⟩
       ·rw [if_neg c48] at H
        have c48b0 := beq_eq_false_iff_ne.mpr c48
        have c48b1 := bne_iff_ne.mpr c48
        obtain ⟨⟨t126, t127, t128⟩, A54, H⟩ := zo H; try dsimp only at H
        simp only [Option.some.injEq, Prod.mk.injEq] at H
        obtain ⟨rfl, rfl, rfl, rfl⟩ := H
        have hnb55 := NB118_117.out; have hnc55 := NB117_118.out; have hnb56 := NB118_119.out; have hnc56 := NB119_118.out; obtain ⟨hcz57_0, hcz57_1, hfz57_0, hfz57_1⟩ := z2 BK118; have hnb58 := NB117_119.out; have hnc58 := NB119_117.out; obtain ⟨hcz59_0, hcz59_1, hfz59_0, hfz59_1⟩ := z2 BK117
        go_wp2_with (first | ((with_reducible refine gate_callee (f := 47) rfl ?_); refine zO Tryz.func47 (by kernel_rfl) (rat_lowest.calls k2 a0_0 a0_1 a1_0 a1_1 t126 t127 t128 _ A54.out) fun w60 hb => ?_; replace HO_22 := Aside0.mk (Kd.R_below (by (with_reducible repeat (first | apply Kd.R_alloc | apply Kd.R_drewN | apply Kd.R_drew)); exact HO_22.out) hb); obtain ⟨BK117, BK118, BK119⟩ := zB3 BK117 BK118 BK119 hb; replace HB := zS HB hb; (try clear hb); obtain ⟨hcz61_0, hcz61_1, hcz61_2, hfz61_0, hfz61_1, hfz61_2⟩ := z3 BK119))
        refine bodyPost_ret (results_ct rfl _ _ gb119 27 #[.bool t126, .string t127, .string t128] (0, 0) _ rfl (by (with_reducible repeat (first | refine blk_drewN ?_ _ | refine blk_drew ?_ | refine blk_alloc ?_ _)); refine zP (cs := #[.bool t126, .string t127, .string x120002_2]) ?_ 2 _; (with_reducible repeat (first | refine blk_drewN ?_ _ | refine blk_drew ?_ | refine blk_alloc ?_ _)); refine zP (cs := #[.bool t126, .string x120001_2, .string x120002_2]) ?_ 1 _; (with_reducible repeat (first | refine blk_drewN ?_ _ | refine blk_drew ?_ | refine blk_alloc ?_ _)); refine zP (cs := #[.bool x120000_2, .string x120001_2, .string x120002_2]) ?_ 0 _; (with_reducible repeat (first | refine blk_drewN ?_ _ | refine blk_drew ?_ | refine blk_alloc ?_ _)); exact BK119.out) Tryz.underlying27 rfl (by kernel_rfl)) rfl ?_
        exact ⟨zH, zT HB⟩


/-! ### whole_Mul: function 58 -/
open Go.Proofs.YtoijlbcbbblbfaaGreatDoor Go.Proofs.YtoijlbcbbblbfaaGreatDoor.Num in
def whole_Mul.f (a0_0 : Bool) (a0_1 : ByteArray) (a1_0 : Bool) (a1_1 : ByteArray) : Option (Bool × ByteArray × Int) := if a0_1.size ≤ 15000 ∧ a1_1.size ≤ 15000 then some ((binF (· * ·) (a0_0, a0_1) (a1_0, a1_1)).1.1, (binF (· * ·) (a0_0, a0_1) (a1_0, a1_1)).1.2, (binF (· * ·) (a0_0, a0_1) (a1_0, a1_1)).2) else none
open Go.Proofs.YtoijlbcbbblbfaaGreatDoor Go.Proofs.YtoijlbcbbblbfaaGreatDoor.Num in
theorem whole_Mul.calls (a0_0 : Bool) (a0_1 : ByteArray) (a1_0 : Bool) (a1_1 : ByteArray) (r1 : Bool) (r2 : ByteArray) (r3 : Int) (w : World) (h : whole_Mul.f a0_0 a0_1 a1_0 a1_1 = some (r1, r2, r3)) :
  Calls Tryz.prog 58 #[.agg #[.bool a0_0, .string a0_1], .agg #[.bool a1_0, .string a1_1]] w fun e w' => e = .returned (.tuple #[.agg #[.bool r1, .string r2], .int .i64 r3]) ∧ Below w.heap.size w w' := by
 unfold whole_Mul.f at h
 split at h
 ·rename_i hc
  simp only [Option.some.injEq, Prod.mk.injEq] at h
  obtain ⟨rfl, rfl, rfl⟩ := h
  exact (mul_f (a0_0, a0_1) (a1_0, a1_1) hc.1 hc.2).out w
 ·exact absurd h (by simp)



/-! ### rat_do_of_whole_Mul: function 9000000 -/
open Go.Proofs.YtoijlbcbbblbfaaGreatDoor Go.Proofs.YtoijlbcbbblbfaaGreatDoor.Num in
def rat_do_of_whole_Mul.f (a0_0 : Bool) (a0_1 : ByteArray) (a1_0 : Bool) (a1_1 : ByteArray) : Option (Bool × ByteArray) := (whole_Mul.f a0_0 a0_1 a1_0 a1_1).map fun r => (r.1, r.2.1)
open Go.Proofs.YtoijlbcbbblbfaaGreatDoor Go.Proofs.YtoijlbcbbblbfaaGreatDoor.Num in
theorem rat_do_of_whole_Mul.calls (a0_0 : Bool) (a0_1 : ByteArray) (a1_0 : Bool) (a1_1 : ByteArray) (r1 : Bool) (r2 : ByteArray) (w : World) (h : rat_do_of_whole_Mul.f a0_0 a0_1 a1_0 a1_1 = some (r1, r2)) :
  Calls Tryz.prog 57 #[.func (.func 58) #[] #[], .agg #[.bool a0_0, .string a0_1], .agg #[.bool a1_0, .string a1_1]] w fun e w' => e = .returned (.agg #[.bool r1, .string r2]) ∧ Below w.heap.size w w' := by
 unfold rat_do_of_whole_Mul.f at h
 obtain ⟨⟨x1, x2, x3⟩, hx, he⟩ := Option.map_eq_some_iff.1 h
 simp only [Prod.mk.injEq] at he
 obtain ⟨rfl, rfl⟩ := he
 exact do_Mul _ _ _ _ _ _ _ (Lib.hid fun w => whole_Mul.calls _ _ _ _ _ _ _ w hx) w



/-! ### rat_Div: function 29 -/
def rat_Div.f (k : Nat) (a0_0 : Bool) (a0_1 : ByteArray) (a0_2 : ByteArray) (a1_0 : Bool) (a1_1 : ByteArray) (a1_2 : ByteArray) : Option (Bool × ByteArray × ByteArray × Int) := (rat_both.f k a0_0 a0_1 a0_2 a1_0 a1_1 a1_2).bind fun t185 => (if t185 = 0 then (if a1_1.toList = ([] : List UInt8) then (some (false, (⟨#[]⟩ : ByteArray), (⟨#[]⟩ : ByteArray), 3)) else ((rat_den.f a1_0 a1_1 a1_2).bind fun bt186 => ((rat_do_of_whole_Mul.f a0_0 a0_1 bt186.1 bt186.2).bind fun bt188 => ((rat_den.f a0_0 a0_1 a0_2).bind fun bt190 => ((rat_do_of_whole_Mul.f bt190.1 bt190.2 a1_0 a1_1).bind fun bt192 => ((rat_lowest.f k bt188.1 bt188.2 bt192.1 bt192.2).bind fun bt194 => (some (bt194.1, bt194.2.1, bt194.2.2, 0)))))))) else (some (false, (⟨#[]⟩ : ByteArray), (⟨#[]⟩ : ByteArray), t185)))
def rat_Div.T6 : Bool × List (List Nat × List Nat) := (true, [([], []), ([0], [0]), ([], []), ([2], [2]), ([1, 3, 3], [1, 3]), ([], []), ([5, 4], [5]), ([], []), ([7], [7]), ([6, 8, 6], [6, 8]), ([4, 9, 9], [4, 9]), ([10, 10, 0, 1, 2, 3, 4, 5, 6, 7, 8, 9, 10], [10]), ([11, 0, 1, 2, 3, 4, 5, 6, 7, 8, 9, 10, 11], [])])
def rat_Div.B6 : List Nat := [0, 1, 0, 4, 15, 0, 63, 0, 128, 511, 1023, 2047, 4095]
theorem rat_Div.tab6 : rtab .any (opsOf Tryz.f29 6) = rat_Div.T6 := by kernel_rfl
theorem rat_Div.bits6 : waitsOk rat_Div.T6.2 rat_Div.B6 = true := by kernel_rfl
set_option maxHeartbeats 8000000 in
set_option maxRecDepth 100000 in
theorem rat_Div.calls (k : Nat) (a0_0 : Bool) (a0_1 : ByteArray) (a0_2 : ByteArray) (a1_0 : Bool) (a1_1 : ByteArray) (a1_2 : ByteArray) (r1 : Bool) (r2 : ByteArray) (r3 : ByteArray) (r4 : Int) (w : World) (h : rat_Div.f k a0_0 a0_1 a0_2 a1_0 a1_1 a1_2 = some (r1, r2, r3, r4)) :
  Calls Tryz.prog 29 #[.agg #[.bool a0_0, .string a0_1, .string a0_2], .agg #[.bool a1_0, .string a1_1, .string a1_2]] w fun e w' => e = .returned (.tuple #[.agg #[.bool r1, .string r2, .string r3], .int .i64 r4]) ∧ Below w.heap.size w w' := by
 have hu27 := Tryz.underlying27
 have hu24 := Tryz.underlying24; have hf0 := zf240; have hf1 := zf241; have hf2 := zf270; have hf3 := zf271
 have HB := Aside0.mk (Below.refl w.heap.size w)
 unfold rat_Div.f at h; have H := h; clear h
 obtain ⟨t185, A3, H⟩ := zo H
 by_cases c4 : t185 = 0
 ·rw [if_pos c4] at H
  have c4b0 := beq_iff_eq.mpr c4
  have c4b1 := bne_eq_false_iff_eq.mpr c4
  clear c4
  by_cases c5 : a1_1.toList = ([] : List UInt8)
  ·rw [if_pos c5] at H
   have c5b0 := beq_iff_eq.mpr c5
   have c5b1 := bne_eq_false_iff_eq.mpr c5
   clear c5
   simp only [Option.some.injEq, Prod.mk.injEq] at H
   obtain ⟨rfl, rfl, rfl, rfl⟩ := H
   go_enter Tryz.func29, Tryz.ntmps29
   go_wp2_with (first | ((with_reducible refine gate_dst (N := 2) rfl ?_); refine zY 2 #[.bool a0_0, .string a0_1, .string a0_2] 27 ?_; intro gb182 hg w6 hbox hb; have BK182 := Aside0.mk (hbox); have GW182 := zG hg HB; have GE182 := zG hg HB; replace HB := zS HB hb; clear hb hbox hg) | ((with_reducible refine gate_dst (N := 3) rfl ?_); refine zY 3 #[.bool a1_0, .string a1_1, .string a1_2] 27 ?_; intro gb183 hg w7 hbox hb; have BK183 := Aside0.mk (hbox); have GW183 := zG hg HB; have GE183 := zG hg HB; obtain ⟨NB182_183, NB183_182⟩ := zQ hg BK182; replace BK182 := zB BK182 hb; replace HB := zS HB hb; clear hb hbox hg) | ((with_reducible refine gate_dst (N := 4) rfl ?_); refine zY 4 #[.bool false, .string (⟨#[]⟩ : ByteArray), .string (⟨#[]⟩ : ByteArray)] 27 ?_; intro gb184 hg w8 hbox hb; have BK184 := Aside0.mk (hbox); have GW184 := zG hg HB; have GE184 := zG hg HB; obtain ⟨NB182_184, NB184_182⟩ := zQ hg BK182; obtain ⟨NB183_184, NB184_183⟩ := zQ hg BK183; obtain ⟨BK182, BK183⟩ := zB2 BK182 BK183 hb; replace HB := zS HB hb; clear hb hbox hg; have hnb9 := NB182_183.out; have hnc9 := NB183_182.out; have hnb10 := NB182_184.out; have hnc10 := NB184_182.out; obtain ⟨hcz11_0, hcz11_1, hcz11_2, hfz11_0, hfz11_1, hfz11_2⟩ := z3 BK182; have hnb12 := NB183_184.out; have hnc12 := NB184_183.out; obtain ⟨hcz13_0, hcz13_1, hcz13_2, hfz13_0, hfz13_1, hfz13_2⟩ := z3 BK183) | ((with_reducible refine gate_callee (f := 72) rfl ?_); refine zO Tryz.func72 (by kernel_rfl) (rat_both.calls k a0_0 a0_1 a0_2 a1_0 a1_1 a1_2 t185 _ A3.out) fun w14 hb => ?_; obtain ⟨BK182, BK183, BK184⟩ := zB3 BK182 BK183 BK184 hb; replace HB := zS HB hb; (try clear hb); obtain ⟨hcz15_0, hcz15_1, hcz15_2, hfz15_0, hfz15_1, hfz15_2⟩ := z3 BK183; obtain ⟨hcz16_0, hcz16_1, hcz16_2, hfz16_0, hfz16_1, hfz16_2⟩ := z3 BK184))
   refine bodyPost_ret (results_ct rfl _ _ gb184 27 #[.bool false, .string (⟨#[]⟩ : ByteArray), .string (⟨#[]⟩ : ByteArray)] (0, 0) _ rfl (by (with_reducible repeat (first | refine blk_drewN ?_ _ | refine blk_drew ?_ | refine blk_alloc ?_ _)); refine zP (cs := #[.bool false, .string (⟨#[]⟩ : ByteArray), .string (⟨#[]⟩ : ByteArray)]) ?_ 2 _; (with_reducible repeat (first | refine blk_drewN ?_ _ | refine blk_drew ?_ | refine blk_alloc ?_ _)); refine zP (cs := #[.bool false, .string (⟨#[]⟩ : ByteArray), .string (⟨#[]⟩ : ByteArray)]) ?_ 1 _; (with_reducible repeat (first | refine blk_drewN ?_ _ | refine blk_drew ?_ | refine blk_alloc ?_ _)); refine zP (cs := #[.bool false, .string (⟨#[]⟩ : ByteArray), .string (⟨#[]⟩ : ByteArray)]) ?_ 0 _; (with_reducible repeat (first | refine blk_drewN ?_ _ | refine blk_drew ?_ | refine blk_alloc ?_ _)); exact BK184.out) Tryz.underlying27 rfl (by kernel_rfl)) rfl ?_
   exact ⟨zH, zT HB⟩
  ·rw [if_neg c5] at H
   have c5b0 := beq_eq_false_iff_ne.mpr c5
   have c5b1 := bne_iff_ne.mpr c5
   obtain ⟨⟨t186, t187⟩, A17, H⟩ := zo H; try dsimp only at H
   obtain ⟨⟨t188, t189⟩, A18, H⟩ := zo H; try dsimp only at H
   obtain ⟨⟨t190, t191⟩, A19, H⟩ := zo H; try dsimp only at H
   obtain ⟨⟨t192, t193⟩, A20, H⟩ := zo H; try dsimp only at H
   obtain ⟨⟨t194, t195, t196⟩, A21, H⟩ := zo H; try dsimp only at H
   simp only [Option.some.injEq, Prod.mk.injEq] at H
   obtain ⟨rfl, rfl, rfl, rfl⟩ := H
   go_enter Tryz.func29, Tryz.ntmps29
   try go_wp2_with (first | ((with_reducible refine gate_dst (N := 2) rfl ?_); refine zY 2 #[.bool a0_0, .string a0_1, .string a0_2] 27 ?_; intro gb182 hg w22 hbox hb; have BK182 := Aside0.mk (hbox); have GW182 := zG hg HB; have GE182 := zG hg HB; replace HB := zS HB hb; clear hb hbox hg) | ((with_reducible refine gate_dst (N := 3) rfl ?_); refine zY 3 #[.bool a1_0, .string a1_1, .string a1_2] 27 ?_; intro gb183 hg w23 hbox hb; have BK183 := Aside0.mk (hbox); have GW183 := zG hg HB; have GE183 := zG hg HB; obtain ⟨NB182_183, NB183_182⟩ := zQ hg BK182; replace BK182 := zB BK182 hb; replace HB := zS HB hb; clear hb hbox hg) | ((with_reducible refine gate_dst (N := 4) rfl ?_); refine zY 4 #[.bool false, .string (⟨#[]⟩ : ByteArray), .string (⟨#[]⟩ : ByteArray)] 27 ?_; intro gb184 hg w24 hbox hb; have BK184 := Aside0.mk (hbox); have GW184 := zG hg HB; have GE184 := zG hg HB; obtain ⟨NB182_184, NB184_182⟩ := zQ hg BK182; obtain ⟨NB183_184, NB184_183⟩ := zQ hg BK183; obtain ⟨BK182, BK183⟩ := zB2 BK182 BK183 hb; replace HB := zS HB hb; clear hb hbox hg; have hnb25 := NB182_183.out; have hnc25 := NB183_182.out; have hnb26 := NB182_184.out; have hnc26 := NB184_182.out; obtain ⟨hcz27_0, hcz27_1, hcz27_2, hfz27_0, hfz27_1, hfz27_2⟩ := z3 BK182; have hnb28 := NB183_184.out; have hnc28 := NB184_183.out; obtain ⟨hcz29_0, hcz29_1, hcz29_2, hfz29_0, hfz29_1, hfz29_2⟩ := z3 BK183) | ((with_reducible refine gate_callee (f := 72) rfl ?_); refine zO Tryz.func72 (by kernel_rfl) (rat_both.calls k a0_0 a0_1 a0_2 a1_0 a1_1 a1_2 t185 _ A3.out) fun w30 hb => ?_; obtain ⟨BK182, BK183, BK184⟩ := zB3 BK182 BK183 BK184 hb; replace HB := zS HB hb; (try clear hb); obtain ⟨hcz31_0, hcz31_1, hcz31_2, hfz31_0, hfz31_1, hfz31_2⟩ := z3 BK183))
   replace BK182 := zD BK182; replace BK183 := zD BK183; replace BK184 := zD BK184; replace HB := zF HB
   refine start_ (n := 13) (S := fun w' => w'.cell? ⟨gb182, 0, none⟩ = some (.bool a0_0) ∧ w'.cell? ⟨gb182, 1, none⟩ = some (.string a0_1) ∧ w'.cell? ⟨gb182, 2, none⟩ = some (.string a0_2) ∧ w'.cell? ⟨gb183, 0, none⟩ = some (.bool a1_0) ∧ w'.cell? ⟨gb183, 1, none⟩ = some (.string a1_1) ∧ w'.cell? ⟨gb183, 2, none⟩ = some (.string a1_2)) (ds := []) (zb 13 0) (by kernel_rfl) rfl rfl ⟨zc BK182 0, zc BK182 1, zc BK182 2, zc BK183 0, zc BK183 1, zc BK183 2⟩ (fun hHeld => ?_); refine with_tabW rat_Div.tab6 rat_Div.bits6 (fun HT_ HW_ => ?_)
   generalize w30.drew = w32 at BK182 BK183 BK184 HB hHeld ⊢
   refine zU (i := 0) (N := some 19) (zb 13 1) (any_of HT_.out (by kernel_rfl)) ?_
   refine zU (i := 7) (N := some 26) (zb 13 129) (any_of HT_.out (by kernel_rfl)) ?_
   refine zV (i := 1) (N := some 20) (zb 13 131) (take_ofW HT_.out HW_.out (by kernel_rfl)) hHeld ?_
   refine zV (i := 2) (N := some 21) (zb 13 135) (take_ofW HT_.out HW_.out (by kernel_rfl)) hHeld ?_
   refine zV (i := 5) (N := some 24) (zb 13 167) (take_ofW HT_.out HW_.out (by kernel_rfl)) hHeld ?_
   refine zV (i := 8) (N := some 27) (zb 13 423) (take_ofW HT_.out HW_.out (by kernel_rfl)) hHeld ?_
   refine one_ (i := 3) (N := some 22) (zb 13 431) rfl rfl (one_of HT_.out (by kernel_rfl)) (by decide) (fun K hK => ?_)
   refine zJ Tryz.func60 (by kernel_rfl) (rat_den.calls a1_0 a1_1 a1_2 t186 t187 _ A17.out) fun w33 hb => ?_
   obtain ⟨BK182, BK183, BK184⟩ := zB3 BK182 BK183 BK184 hb; replace HB := zS HB hb
   (try clear hb)
   refine hK.out _ _ ⟨zc BK182 0, zc BK182 1, zc BK182 2, zc BK183 0, zc BK183 1, zc BK183 2⟩ (fun hHeld => ?_)
   clear hK K
   refine zW (some 22) ?_
   refine one_ (i := 4) (N := some 23) (zb 13 447) rfl rfl (one_of HT_.out (by kernel_rfl)) (by decide) (fun K hK => ?_)
   refine zJ Tryz.func57 (by kernel_rfl) (rat_do_of_whole_Mul.calls a0_0 a0_1 t186 t187 t188 t189 _ A18.out) fun w34 hb => ?_
   obtain ⟨BK182, BK183, BK184⟩ := zB3 BK182 BK183 BK184 hb; replace HB := zS HB hb
   (try clear hb)
   refine hK.out _ _ ⟨zc BK182 0, zc BK182 1, zc BK182 2, zc BK183 0, zc BK183 1, zc BK183 2⟩ (fun hHeld => ?_)
   clear hK K
   refine zW (some 23) ?_
   refine one_ (i := 6) (N := some 25) (zb 13 511) rfl rfl (one_of HT_.out (by kernel_rfl)) (by decide) (fun K hK => ?_)
   refine zJ Tryz.func60 (by kernel_rfl) (rat_den.calls a0_0 a0_1 a0_2 t190 t191 _ A19.out) fun w35 hb => ?_
   obtain ⟨BK182, BK183, BK184⟩ := zB3 BK182 BK183 BK184 hb; replace HB := zS HB hb
   (try clear hb)
   refine hK.out _ _ ⟨zc BK182 0, zc BK182 1, zc BK182 2, zc BK183 0, zc BK183 1, zc BK183 2⟩ (fun hHeld => ?_)
   clear hK K
   refine zW (some 25) ?_
   refine one_ (i := 9) (N := some 28) (zb 13 1023) rfl rfl (one_of HT_.out (by kernel_rfl)) (by decide) (fun K hK => ?_)
   refine zJ Tryz.func57 (by kernel_rfl) (rat_do_of_whole_Mul.calls t190 t191 a1_0 a1_1 t192 t193 _ A20.out) fun w36 hb => ?_
   obtain ⟨BK182, BK183, BK184⟩ := zB3 BK182 BK183 BK184 hb; replace HB := zS HB hb
   (try clear hb)
   refine hK.out _ _ ⟨zc BK182 0, zc BK182 1, zc BK182 2, zc BK183 0, zc BK183 1, zc BK183 2⟩ (fun hHeld => ?_)
   clear hK K
   refine zW (some 28) ?_
   refine one_ (i := 10) (N := some 29) (zb 13 2047) rfl rfl (one_of HT_.out (by kernel_rfl)) (by decide) (fun K hK => ?_)
   refine zJ Tryz.func47 (by kernel_rfl) (rat_lowest.calls k t188 t189 t192 t193 t194 t195 t196 _ A21.out) fun w37 hb => ?_
   obtain ⟨BK182, BK183, BK184⟩ := zB3 BK182 BK183 BK184 hb; replace HB := zS HB hb
   (try clear hb)
   refine hK.out _ _ ⟨zc BK182 0, zc BK182 1, zc BK182 2, zc BK183 0, zc BK183 1, zc BK183 2⟩ (fun hHeld => ?_)
   clear hK K
   refine zW (some 29) ?_
   refine one_ (i := 11) (N := none) (zb 13 4095) rfl rfl (one_of HT_.out (by kernel_rfl)) (by decide) (fun K hK => ?_)
   have hs38 : w37.cell? ⟨gb184, 0, none⟩ = some (.bool false) := zc BK184 0
   have hfs38 := blk_frozen BK184.out 0
   have hns38_0 := NB182_184.out
   have hns38_1 := NB183_184.out
   have hms38_0 := NB184_182.out
   have hms38_1 := NB184_183.out
   have hs39 : w37.cell? ⟨gb184, 1, none⟩ = some (.string (⟨#[]⟩ : ByteArray)) := zc BK184 1
   have hfs39 := blk_frozen BK184.out 1
   have hns39_0 := NB182_184.out
   have hns39_1 := NB183_184.out
   have hms39_0 := NB184_182.out
   have hms39_1 := NB184_183.out
   have hs40 : w37.cell? ⟨gb184, 2, none⟩ = some (.string (⟨#[]⟩ : ByteArray)) := zc BK184 2
   have hfs40 := blk_frozen BK184.out 2
   have hns40_0 := NB182_184.out
   have hns40_1 := NB183_184.out
   have hms40_0 := NB184_182.out
   have hms40_1 := NB184_183.out
   refine skip_ (w1 := ?_) (by rfl) rfl ?_ ?_
   rotate_left
   ·go_simp
    rfl
   refine hK.out _ _ ⟨((cell_far (p := ⟨gb184, _, none⟩) NB182_184.out _).trans (((cell_far (p := ⟨gb184, _, none⟩) NB182_184.out _).trans (((cell_far (p := ⟨gb184, _, none⟩) NB182_184.out _).trans (hHeld.1)))))), ((cell_far (p := ⟨gb184, _, none⟩) NB182_184.out _).trans (((cell_far (p := ⟨gb184, _, none⟩) NB182_184.out _).trans (((cell_far (p := ⟨gb184, _, none⟩) NB182_184.out _).trans (hHeld.2.1)))))), ((cell_far (p := ⟨gb184, _, none⟩) NB182_184.out _).trans (((cell_far (p := ⟨gb184, _, none⟩) NB182_184.out _).trans (((cell_far (p := ⟨gb184, _, none⟩) NB182_184.out _).trans (hHeld.2.2.1)))))), ((cell_far (p := ⟨gb184, _, none⟩) NB183_184.out _).trans (((cell_far (p := ⟨gb184, _, none⟩) NB183_184.out _).trans (((cell_far (p := ⟨gb184, _, none⟩) NB183_184.out _).trans (hHeld.2.2.2.1)))))), ((cell_far (p := ⟨gb184, _, none⟩) NB183_184.out _).trans (((cell_far (p := ⟨gb184, _, none⟩) NB183_184.out _).trans (((cell_far (p := ⟨gb184, _, none⟩) NB183_184.out _).trans (hHeld.2.2.2.2.1)))))), ((cell_far (p := ⟨gb184, _, none⟩) NB183_184.out _).trans (((cell_far (p := ⟨gb184, _, none⟩) NB183_184.out _).trans (((cell_far (p := ⟨gb184, _, none⟩) NB183_184.out _).trans (hHeld.2.2.2.2.2))))))⟩ (fun hHeld => ?_)
   clear hK K
   refine zU (i := 12) (N := some 5) (zb 13 8191) (any_of HT_.out (by kernel_rfl)) ?_
   refine done_ (done_of HT_.out (by kernel_rfl)) ?_
   try go_wp2
   refine bodyPost_ret (results_ct rfl _ _ gb184 27 #[.bool t194, .string t195, .string t196] (0, 0) _ rfl (by (with_reducible repeat (first | refine blk_drewN ?_ _ | refine blk_drew ?_ | refine blk_alloc ?_ _)); refine zP (cs := #[.bool t194, .string t195, .string (⟨#[]⟩ : ByteArray)]) ?_ 2 _; (with_reducible repeat (first | refine blk_drewN ?_ _ | refine blk_drew ?_ | refine blk_alloc ?_ _)); refine zP (cs := #[.bool t194, .string (⟨#[]⟩ : ByteArray), .string (⟨#[]⟩ : ByteArray)]) ?_ 1 _; (with_reducible repeat (first | refine blk_drewN ?_ _ | refine blk_drew ?_ | refine blk_alloc ?_ _)); refine zP (cs := #[.bool false, .string (⟨#[]⟩ : ByteArray), .string (⟨#[]⟩ : ByteArray)]) ?_ 0 _; (with_reducible repeat (first | refine blk_drewN ?_ _ | refine blk_drew ?_ | refine blk_alloc ?_ _)); exact BK184.out) Tryz.underlying27 rfl (by kernel_rfl)) rfl ?_
   exact ⟨zH, zT HB⟩
 ·rw [if_neg c4] at H
  have c4b0 := beq_eq_false_iff_ne.mpr c4
  have c4b1 := bne_iff_ne.mpr c4
  simp only [Option.some.injEq, Prod.mk.injEq] at H
  obtain ⟨rfl, rfl, rfl, rfl⟩ := H
  go_enter Tryz.func29, Tryz.ntmps29
  go_wp2_with (first | ((with_reducible refine gate_dst (N := 2) rfl ?_); refine zY 2 #[.bool a0_0, .string a0_1, .string a0_2] 27 ?_; intro gb182 hg w41 hbox hb; have BK182 := Aside0.mk (hbox); have GW182 := zG hg HB; have GE182 := zG hg HB; replace HB := zS HB hb; clear hb hbox hg) | ((with_reducible refine gate_dst (N := 3) rfl ?_); refine zY 3 #[.bool a1_0, .string a1_1, .string a1_2] 27 ?_; intro gb183 hg w42 hbox hb; have BK183 := Aside0.mk (hbox); have GW183 := zG hg HB; have GE183 := zG hg HB; obtain ⟨NB182_183, NB183_182⟩ := zQ hg BK182; replace BK182 := zB BK182 hb; replace HB := zS HB hb; clear hb hbox hg) | ((with_reducible refine gate_dst (N := 4) rfl ?_); refine zY 4 #[.bool false, .string (⟨#[]⟩ : ByteArray), .string (⟨#[]⟩ : ByteArray)] 27 ?_; intro gb184 hg w43 hbox hb; have BK184 := Aside0.mk (hbox); have GW184 := zG hg HB; have GE184 := zG hg HB; obtain ⟨NB182_184, NB184_182⟩ := zQ hg BK182; obtain ⟨NB183_184, NB184_183⟩ := zQ hg BK183; obtain ⟨BK182, BK183⟩ := zB2 BK182 BK183 hb; replace HB := zS HB hb; clear hb hbox hg; have hnb44 := NB182_183.out; have hnc44 := NB183_182.out; have hnb45 := NB182_184.out; have hnc45 := NB184_182.out; obtain ⟨hcz46_0, hcz46_1, hcz46_2, hfz46_0, hfz46_1, hfz46_2⟩ := z3 BK182; have hnb47 := NB183_184.out; have hnc47 := NB184_183.out; obtain ⟨hcz48_0, hcz48_1, hcz48_2, hfz48_0, hfz48_1, hfz48_2⟩ := z3 BK183) | ((with_reducible refine gate_callee (f := 72) rfl ?_); refine zO Tryz.func72 (by kernel_rfl) (rat_both.calls k a0_0 a0_1 a0_2 a1_0 a1_1 a1_2 t185 _ A3.out) fun w49 hb => ?_; obtain ⟨BK182, BK183, BK184⟩ := zB3 BK182 BK183 BK184 hb; replace HB := zS HB hb; (try clear hb); obtain ⟨hcz50_0, hcz50_1, hcz50_2, hfz50_0, hfz50_1, hfz50_2⟩ := z3 BK184))
  refine bodyPost_ret (results_ct rfl _ _ gb184 27 #[.bool false, .string (⟨#[]⟩ : ByteArray), .string (⟨#[]⟩ : ByteArray)] (0, 0) _ rfl (by (with_reducible repeat (first | refine blk_drewN ?_ _ | refine blk_drew ?_ | refine blk_alloc ?_ _)); refine zP (cs := #[.bool false, .string (⟨#[]⟩ : ByteArray), .string (⟨#[]⟩ : ByteArray)]) ?_ 2 _; (with_reducible repeat (first | refine blk_drewN ?_ _ | refine blk_drew ?_ | refine blk_alloc ?_ _)); refine zP (cs := #[.bool false, .string (⟨#[]⟩ : ByteArray), .string (⟨#[]⟩ : ByteArray)]) ?_ 1 _; (with_reducible repeat (first | refine blk_drewN ?_ _ | refine blk_drew ?_ | refine blk_alloc ?_ _)); refine zP (cs := #[.bool false, .string (⟨#[]⟩ : ByteArray), .string (⟨#[]⟩ : ByteArray)]) ?_ 0 _; (with_reducible repeat (first | refine blk_drewN ?_ _ | refine blk_drew ?_ | refine blk_alloc ?_ _)); exact BK184.out) Tryz.underlying27 rfl (by kernel_rfl)) rfl ?_
  exact ⟨zH, zT HB⟩


/-! ### whole_Print: function 61 -/
open Go.Proofs.YtoijlbcbbblbfaaGreatDoor Go.Proofs.YtoijlbcbbblbfaaGreatDoor.Num in
def whole_Print.f (a0_0 : Bool) (a0_1 : ByteArray) : Option (ByteArray × Int) := if a0_1.size ≤ 15000 then some ((printF (a0_0, a0_1)).1, (printF (a0_0, a0_1)).2) else none
open Go.Proofs.YtoijlbcbbblbfaaGreatDoor Go.Proofs.YtoijlbcbbblbfaaGreatDoor.Num in
theorem whole_Print.calls (a0_0 : Bool) (a0_1 : ByteArray) (r1 : ByteArray) (r2 : Int) (w : World) (h : whole_Print.f a0_0 a0_1 = some (r1, r2)) :
  Calls Tryz.prog 61 #[.agg #[.bool a0_0, .string a0_1]] w fun e w' => e = .returned (.tuple #[.string r1, .int .i64 r2]) ∧ Below w.heap.size w w' := by
 unfold whole_Print.f at h
 split at h
 ·rename_i hc
  simp only [Option.some.injEq, Prod.mk.injEq] at h
  obtain ⟨rfl, rfl⟩ := h
  exact print_f2 (a0_0, a0_1) hc w
 ·exact absurd h (by simp)



/-! ### rat_Print: function 40 -/
def rat_Print.f (k : Nat) (a0_0 : Bool) (a0_1 : ByteArray) (a0_2 : ByteArray) : Option (ByteArray × Int) := (rat_Check.f k a0_0 a0_1 a0_2).bind fun t198 => (if t198 = 0 then ((whole_Print.f a0_0 a0_1).bind fun bt199 => (if a0_2.toList = ([1] : List UInt8) then (some (bt199.1, 0)) else ((rat_den.f a0_0 a0_1 a0_2).bind fun bt201 => ((whole_Print.f bt201.1 bt201.2).bind fun bt203 => (if bt199.1.size + 1 ≤ 9223372036854775807 then (if (bt199.1 ++ (⟨#[47]⟩ : ByteArray)).size + bt203.1.size ≤ 9223372036854775807 then (some ((bt199.1 ++ (⟨#[47]⟩ : ByteArray)) ++ bt203.1, 0)) else (none)) else (none)))))) else (some ((⟨#[]⟩ : ByteArray), t198)))
set_option maxHeartbeats 8000000 in
set_option maxRecDepth 100000 in
theorem rat_Print.calls (k : Nat) (a0_0 : Bool) (a0_1 : ByteArray) (a0_2 : ByteArray) (r1 : ByteArray) (r2 : Int) (w : World) (h : rat_Print.f k a0_0 a0_1 a0_2 = some (r1, r2)) :
  Calls Tryz.prog 40 #[.agg #[.bool a0_0, .string a0_1, .string a0_2]] w fun e w' => e = .returned (.tuple #[.string r1, .int .i64 r2]) ∧ Below w.heap.size w w' := by
 have hu27 := Tryz.underlying27
 have hu24 := Tryz.underlying24; have hf0 := zf240; have hf1 := zf241; have hf2 := zf270; have hf3 := zf271
 have HB := Aside0.mk (Below.refl w.heap.size w)
 unfold rat_Print.f at h; have H := h; clear h
 obtain ⟨t198, A2, H⟩ := zo H
 by_cases c3 : t198 = 0
 ·rw [if_pos c3] at H
  have c3b0 := beq_iff_eq.mpr c3
  have c3b1 := bne_eq_false_iff_eq.mpr c3
  clear c3
  obtain ⟨⟨t199, t200⟩, A4, H⟩ := zo H; try dsimp only at H
  by_cases c5 : a0_2.toList = ([1] : List UInt8)
  ·rw [if_pos c5] at H
   have c5b0 := beq_iff_eq.mpr c5
   have c5b1 := bne_eq_false_iff_eq.mpr c5
   clear c5
   simp only [Option.some.injEq, Prod.mk.injEq] at H
   obtain ⟨rfl, rfl⟩ := H
   go_enter Tryz.func40, Tryz.ntmps40
   go_wp2_with (first | ((with_reducible refine gate_dst (N := 1) rfl ?_); refine zY 1 #[.bool a0_0, .string a0_1, .string a0_2] 27 ?_; intro gb197 hg w6 hbox hb; have BK197 := Aside0.mk (hbox); have GW197 := zG hg HB; have GE197 := zG hg HB; replace HB := zS HB hb; clear hb hbox hg; obtain ⟨hcz7_0, hcz7_1, hcz7_2, hfz7_0, hfz7_1, hfz7_2⟩ := z3 BK197) | ((with_reducible refine gate_callee (f := 41) rfl ?_); refine zO Tryz.func41 (by kernel_rfl) (rat_Check.calls k a0_0 a0_1 a0_2 t198 _ A2.out) fun w8 hb => ?_; replace BK197 := zB BK197 hb; replace HB := zS HB hb; (try clear hb); obtain ⟨hcz9_0, hcz9_1, hcz9_2, hfz9_0, hfz9_1, hfz9_2⟩ := z3 BK197) | ((with_reducible refine gate_callee (f := 61) rfl ?_); refine zO Tryz.func61 (by kernel_rfl) (whole_Print.calls a0_0 a0_1 t199 t200 _ A4.out) fun w10 hb => ?_; replace BK197 := zB BK197 hb; replace HB := zS HB hb; (try clear hb); obtain ⟨hcz11_0, hcz11_1, hcz11_2, hfz11_0, hfz11_1, hfz11_2⟩ := z3 BK197))
   go_ret2
   exact ⟨zH, zT HB⟩
  ·rw [if_neg c5] at H
   have c5b0 := beq_eq_false_iff_ne.mpr c5
   have c5b1 := bne_iff_ne.mpr c5
   obtain ⟨⟨t201, t202⟩, A12, H⟩ := zo H; try dsimp only at H
   obtain ⟨⟨t203, t204⟩, A13, H⟩ := zo H; try dsimp only at H
   by_cases c14 : t199.size + 1 ≤ 9223372036854775807
   ·rw [if_pos c14] at H
    have c14b0 := eq_true c14
    have c14b1 := decide_eq_true c14
    try have c14b2 : (9223372036854775807 < t199.size + 1) = False := eq_false (Nat.not_lt.2 c14)
    by_cases c15 : (t199 ++ (⟨#[47]⟩ : ByteArray)).size + t203.size ≤ 9223372036854775807
    ·rw [if_pos c15] at H
     have c15b0 := eq_true c15
     have c15b1 := decide_eq_true c15
     try have c15b2 : (9223372036854775807 < (t199 ++ (⟨#[47]⟩ : ByteArray)).size + t203.size) = False := eq_false (Nat.not_lt.2 c15)
     simp only [Option.some.injEq, Prod.mk.injEq] at H
     obtain ⟨rfl, rfl⟩ := H
     go_enter Tryz.func40, Tryz.ntmps40
     go_wp2_with (first | ((with_reducible refine gate_dst (N := 1) rfl ?_); refine zY 1 #[.bool a0_0, .string a0_1, .string a0_2] 27 ?_; intro gb197 hg w16 hbox hb; have BK197 := Aside0.mk (hbox); have GW197 := zG hg HB; have GE197 := zG hg HB; replace HB := zS HB hb; clear hb hbox hg; obtain ⟨hcz17_0, hcz17_1, hcz17_2, hfz17_0, hfz17_1, hfz17_2⟩ := z3 BK197) | ((with_reducible refine gate_callee (f := 41) rfl ?_); refine zO Tryz.func41 (by kernel_rfl) (rat_Check.calls k a0_0 a0_1 a0_2 t198 _ A2.out) fun w18 hb => ?_; replace BK197 := zB BK197 hb; replace HB := zS HB hb; (try clear hb); obtain ⟨hcz19_0, hcz19_1, hcz19_2, hfz19_0, hfz19_1, hfz19_2⟩ := z3 BK197) | ((with_reducible refine gate_callee (f := 61) rfl ?_); refine zO Tryz.func61 (by kernel_rfl) (whole_Print.calls a0_0 a0_1 t199 t200 _ A4.out) fun w20 hb => ?_; replace BK197 := zB BK197 hb; replace HB := zS HB hb; (try clear hb); obtain ⟨hcz21_0, hcz21_1, hcz21_2, hfz21_0, hfz21_1, hfz21_2⟩ := z3 BK197) | ((with_reducible refine gate_callee (f := 60) rfl ?_); refine zO Tryz.func60 (by kernel_rfl) (rat_den.calls a0_0 a0_1 a0_2 t201 t202 _ A12.out) fun w22 hb => ?_; replace BK197 := zB BK197 hb; replace HB := zS HB hb; (try clear hb)) | ((with_reducible refine gate_callee (f := 61) rfl ?_); refine zO Tryz.func61 (by kernel_rfl) (whole_Print.calls t201 t202 t203 t204 _ A13.out) fun w23 hb => ?_; replace BK197 := zB BK197 hb; replace HB := zS HB hb; (try clear hb)))
     go_ret2
     exact ⟨zH, zT HB⟩
    ·rw [if_neg c15] at H
     exact absurd H (by simp)
   ·rw [if_neg c14] at H
    exact absurd H (by simp)
 ·rw [if_neg c3] at H
  have c3b0 := beq_eq_false_iff_ne.mpr c3
  have c3b1 := bne_iff_ne.mpr c3
  simp only [Option.some.injEq, Prod.mk.injEq] at H
  obtain ⟨rfl, rfl⟩ := H
  go_enter Tryz.func40, Tryz.ntmps40
  go_wp2_with (first | ((with_reducible refine gate_dst (N := 1) rfl ?_); refine zY 1 #[.bool a0_0, .string a0_1, .string a0_2] 27 ?_; intro gb197 hg w24 hbox hb; have BK197 := Aside0.mk (hbox); have GW197 := zG hg HB; have GE197 := zG hg HB; replace HB := zS HB hb; clear hb hbox hg; obtain ⟨hcz25_0, hcz25_1, hcz25_2, hfz25_0, hfz25_1, hfz25_2⟩ := z3 BK197) | ((with_reducible refine gate_callee (f := 41) rfl ?_); refine zO Tryz.func41 (by kernel_rfl) (rat_Check.calls k a0_0 a0_1 a0_2 t198 _ A2.out) fun w26 hb => ?_; replace BK197 := zB BK197 hb; replace HB := zS HB hb; (try clear hb)))
  go_ret2
  exact ⟨zH, zT HB⟩


/-! ### whole_Of: function 54 -/
open Go.Proofs.YtoijlbcbbblbfaaGreatDoor Go.Proofs.YtoijlbcbbblbfaaGreatDoor.Num in
def whole_Of.f (a0 : Int) : Option (Bool × ByteArray) := if -9223372036854775808 ≤ a0 ∧ a0 ≤ 9223372036854775807 then some ((pv a0).1, (pv a0).2) else none
open Go.Proofs.YtoijlbcbbblbfaaGreatDoor Go.Proofs.YtoijlbcbbblbfaaGreatDoor.Num in
theorem whole_Of.calls (a0 : Int) (r1 : Bool) (r2 : ByteArray) (w : World) (h : whole_Of.f a0 = some (r1, r2)) :
  Calls Tryz.prog 54 #[.int .i64 a0] w fun e w' => e = .returned (.agg #[.bool r1, .string r2]) ∧ Below w.heap.size w w' := by
 unfold whole_Of.f at h
 split at h
 ·rename_i hc
  simp only [Option.some.injEq, Prod.mk.injEq] at h
  obtain ⟨rfl, rfl⟩ := h
  exact of_w a0 hc.1 hc.2 w
 ·exact absurd h (by simp)


end Go.Proofs.YtoijlbcbbblbfaaGreatDoorH.R
