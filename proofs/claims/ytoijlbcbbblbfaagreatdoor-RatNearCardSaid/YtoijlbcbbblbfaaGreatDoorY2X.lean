import Derived.Test.YtoijlbcbbblbfaaGreatDoorY2W
import Derived.Test.YtoijlbcbbblbfaaGreatDoorY2V
import Derived.Test.YtoijlbcbbblbfaaGreatDoorY2Shelf
import Derived.Test.YtoijlbcbbblbfaaGreatDoorY2ShelfB
namespace Go.Proofs.YtoijlbcbbblbfaaGreatDoor
open Go.RowKit Num
set_option linter.unusedVariables false
set_option linter.unusedSimpArgs false

theorem dropWhile_nil {α : Type} {p : α → Bool} : ∀ (l : List α), l.dropWhile p = [] ↔ ∀ x ∈ l, p x = true
 | [] => by simp
 | a :: l => by
  rw [List.dropWhile_cons]
  cases h : p a with
  | true => simp [h, dropWhile_nil l]
  | false => simp [h]
theorem trim_nil (l cs : List UInt8) : Lib.trimS l cs = [] ↔ l.all (cs.contains ·) = true := by
 unfold Lib.trimS Lib.trimLeftS Lib.trimRightS
 constructor
 ·intro h
  have h1 : ∀ x ∈ (l.reverse.dropWhile (cs.contains ·)).reverse, cs.contains x = true := by
   rw [dropWhile_nil] at h
   exact h
  cases hd : l.reverse.dropWhile (cs.contains ·) with
  | nil =>
   rw [dropWhile_nil] at hd
   rw [List.all_eq_true]
   intro x hx
   exact hd x (List.mem_reverse.2 hx)
  | cons a t =>
   exfalso
   have h2 := List.head_dropWhile_not (p := (cs.contains ·)) (l := l.reverse) (by rw [hd]; simp)
   simp only [hd, List.head_cons] at h2
   simp at h2
   have h3 := h1 a (by rw [hd]; simp)
   simp at h3; exact h2 h3
 ·intro h
  have : l.reverse.dropWhile (cs.contains ·) = [] := by
   rw [dropWhile_nil]
   intro x hx
   exact List.all_eq_true.1 h x (List.mem_reverse.1 hx)
  rw [this]
  rfl

def digs : List UInt8 := [48, 49, 50, 51, 52, 53, 54, 55, 56, 57]
def negS (l : List UInt8) : Bool := Lib.hasPrefix l [45]
def restS (l : List UInt8) : List UInt8 := Lib.trimPrefix l [45]
def okS (d : List UInt8) : Bool := decide (0 < d.length) && decide (d.length ≤ 60) && d.all (digs.contains ·)
theorem trim_c (s : ByteArray) (hs : s.size ≤ 1000000) (w : World) :
  Calls Tryz.prog 128 #[.string s, .string ⟨#[48, 49, 50, 51, 52, 53, 54, 55, 56, 57]⟩] w fun e w' => e = .returned (.string ⟨(Lib.trimS s.data.toList digs).toArray⟩) ∧ Below w.heap.size w w' :=
 Any.strings_Trim_laid Tryz.lays160 (by kernel_rfl) s ⟨#[48, 49, 50, 51, 52, 53, 54, 55, 56, 57]⟩ w (by omega) (by decide) (ascii_of_all (by decide))

def shapeV (d : ByteArray) (n : Bool) : Value := if okS d.data.toList then .tuple #[.string d, .bool n, .bool (d.data.toList.head? != some 48 || (d.data.toList == [48] && !n))] else .tuple #[.string ⟨#[]⟩, .bool false, .bool false]
theorem shapeV_no {d : ByteArray} {n : Bool} (h : okS d.data.toList = false) : shapeV d n = .tuple #[.string ⟨#[]⟩, .bool false, .bool false] := by
 unfold shapeV
 rw [h]
 rfl
set_option maxHeartbeats 1000000 in
theorem shape_c (s : ByteArray) (w : World) :
  Calls Tryz.prog 102 #[.string s] w fun e w' => e = .returned (shapeV ⟨(restS s.data.toList).toArray⟩ (negS s.data.toList)) ∧ Below w.heap.size w w' := by
 obtain ⟨d, hd⟩ : ∃ d : ByteArray, (⟨(restS s.data.toList).toArray⟩ : ByteArray) = d := ⟨_, rfl⟩
 obtain ⟨n, hn⟩ : ∃ n, negS s.data.toList = n := ⟨_, rfl⟩
 have HC : Hid (∀ w, Calls Tryz.prog 127 #[.string s, .string ⟨#[45]⟩] w fun e w' => e = .returned (.tuple #[.string d, .bool n]) ∧ w' = w) := by
  rw [← hd, ← hn]
  exact Lib.hid (Tryz.strings_CutPrefix s ⟨#[45]⟩)
 rw [hd, hn]
 clear hd hn
 have hsz : d.size = d.data.toList.length := by simp
 by_cases h0 : d.size = 0
 ·obtain ⟨t1, t2⟩ := toList_nil h0
  have HZ := Lib.hid (shapeV_no (d := d) (n := n) (by unfold okS; rw [← hsz, h0]; rfl))
  clear h0 hsz
  go_enter Tryz.func102, Tryz.ntmps102
  go_wp2_with fail
  refine (HC.out _).mono ?_
  rintro e w' ⟨rfl, rfl⟩
  go_wp2
  go_ret3
  exact ⟨by rw [HZ.out]; rfl, Below.refl _ _⟩
 ·obtain ⟨t1, t2⟩ := toList_ne (by omega : 0 < d.size)
  by_cases h6 : 60 < d.size
  ·have HZ := Lib.hid (shapeV_no (d := d) (n := n) (by unfold okS; rw [← hsz, show decide (d.size ≤ 60) = false from decide_eq_false (by omega)]; simp))
   have q1 : decide ((60 : Int) < (d.size : Int)) = true := decide_eq_true (by omega)
   clear h0 h6 hsz
   go_enter Tryz.func102, Tryz.ntmps102
   go_wp2_with fail
   refine (HC.out _).mono ?_
   rintro e w' ⟨rfl, rfl⟩
   go_wp2
   go_ret3
   exact ⟨by rw [HZ.out]; rfl, Below.refl _ _⟩
  ·have q1 : decide ((60 : Int) < (d.size : Int)) = false := decide_eq_false (by omega)
   have HT := Lib.hid (trim_c d (by omega))
   obtain ⟨t, ht⟩ : ∃ t : ByteArray, (⟨(Lib.trimS d.data.toList digs).toArray⟩ : ByteArray) = t := ⟨_, rfl⟩
   rw [ht] at HT
   have htz : t.size = 0 ↔ d.data.toList.all (digs.contains ·) = true := by
    rw [← trim_nil, ← ht, show (⟨(Lib.trimS d.data.toList digs).toArray⟩ : ByteArray).size = (Lib.trimS d.data.toList digs).length from by show (Lib.trimS d.data.toList digs).toArray.size = _; simp]
    exact List.length_eq_zero_iff
   by_cases hz : t.size = 0
   ·obtain ⟨t3, t4⟩ := toList_nil hz
    have hok : okS d.data.toList = true := by
     unfold okS
     rw [← hsz, htz.1 hz, decide_eq_true (by omega : 0 < d.size), decide_eq_true (by omega : d.size ≤ 60)]
     rfl
    obtain ⟨x, hx⟩ : ∃ x, d.data.toList.head? = some x := by
     cases hh : d.data.toList with
     | nil => rw [hh] at hsz; exact absurd hsz h0
     | cons a l => exact ⟨a, rfl⟩
    have hx0 : ∀ h, ((d[0]'h).toNat : Int) = x.toNat := by
     intro h
     have : d[0]'h = x := by
      show d.data[0] = x
      rw [List.head?_eq_getElem?] at hx
      have h2 : d.data.toList[0]? = some (d.data[0]'h) := by simp
      rw [h2] at hx
      exact Option.some.inj hx
     rw [this]
    have HZ := Lib.hid (show shapeV d n = .tuple #[.string d, .bool n, .bool ((x != 48) || (d.data.toList == [48] && !n))] by
     unfold shapeV
     rw [hok, hx, show (some x != some (48 : UInt8)) = (x != 48) from rfl]
     rfl)
    have q2 : (0 < d.size) = True := eq_true (by omega)
    have q3 : ((0 : Int) < (d.size : Int)) = True := eq_true (by omega)
    clear h0 h6 hsz htz hz ht hok hx
    go_enter Tryz.func102, Tryz.ntmps102
    go_wp2_with fail
    refine (HC.out _).mono ?_
    rintro e w' ⟨rfl, rfl⟩
    go_wp2_with fail
    refine (HT.out _).mono ?_
    rintro e w2 ⟨rfl, hb⟩
    have HB := Lib.hid hb
    clear hb
    go_wp2
    ·rename_i h1 h2
     go_ret3
     have hx : x = 48 := UInt8.toNat_inj.1 (by have : (48 : UInt8).toNat = 48 := rfl; omega)
     refine ⟨by rw [HZ.out, hx, ← Lib.toList_data, h2]; rfl, HB.out⟩
    ·rename_i h1 h2
     go_ret3
     have hx : x = 48 := UInt8.toNat_inj.1 (by have : (48 : UInt8).toNat = 48 := rfl; omega)
     refine ⟨by rw [HZ.out, hx, ← Lib.toList_data, show (d.toList == [48]) = false from beq_eq_false_iff_ne.mpr h2]; rfl, HB.out⟩
    ·rename_i h1
     go_ret3
     have hx : (x != 48) = true := bne_iff_ne.mpr fun he => h1 (by rw [he]; rfl)
     refine ⟨by rw [HZ.out, hx]; rfl, HB.out⟩
   ·obtain ⟨t3, t4⟩ := toList_ne (by omega : 0 < t.size)
    have HZ := Lib.hid (shapeV_no (d := d) (n := n) (by unfold okS; rw [show d.data.toList.all (digs.contains ·) = false from by cases h : d.data.toList.all (digs.contains ·) with | false => rfl | true => exact absurd (htz.2 h) hz]; simp))
    clear h0 h6 hsz htz hz ht
    go_enter Tryz.func102, Tryz.ntmps102
    go_wp2_with fail
    refine (HC.out _).mono ?_
    rintro e w' ⟨rfl, rfl⟩
    go_wp2_with fail
    refine (HT.out _).mono ?_
    rintro e w2 ⟨rfl, hb⟩
    have HB := Lib.hid hb
    clear hb
    go_wp2
    go_ret3
    exact ⟨by rw [HZ.out]; rfl, HB.out⟩
end Go.Proofs.YtoijlbcbbblbfaaGreatDoor
