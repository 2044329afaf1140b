import Derived.Test.YtoijlbcbbblbfaaGreatDoorY2G2x0
import Derived.Test.YtoijlbcbbblbfaaGreatDoorY2Zc
namespace Go.Proofs.YtoijlbcbbblbfaaGreatDoor
open Go.RowKit
open Num hiding B B_eq Lim sumB win sumB_congr Bp Bs sumB_bd subD subC sub_one addD addC add_one win_s win_congr take_step mul_one addp_step lv sumB_zero lv_of lv_bd lv_nil lv_trim Lim_zero win_zero sum_step Bmono sum_end len_of_lv ordN_val lv_lt_of_len ordL_val take_end win_split mul_step win_low win_bd win_change YB lv_set OfI dgt_lv
open Num32
set_option linter.unusedVariables false
set_option linter.unusedSimpArgs false

structure ParR (D : List UInt8) (n : Nat) (w w1 : World) (k : Nat) (A : Option Addr) (l : List Int) (c : Nat) : Prop where
 ra : RL w1 A l
 la : Lim l
 ta : Tr l
 val : lv l = dv (D.take k)
 bd : lv l < B ^ k
 ca : l.length ≤ c
 bel : Below w.heap.size w w1
 e0 : w1.cell? ⟨n, 0, none⟩ = some (.bool false)
 e1 : w1.cell? ⟨n, 1, none⟩ = some (.string ⟨#[]⟩)
 f0 : w1.frozen? ⟨n, 0, none⟩ = false
 f1 : w1.frozen? ⟨n, 1, none⟩ = false
 sz : n < w1.heap.size
 dig : ∀ (j : Nat) (y : UInt8), j < k → D[j]? = some y → 48 ≤ y.toNat ∧ y.toNat ≤ 57
theorem ParR.le {D : List UInt8} {n : Nat} {w w1 : World} {k : Nat} {A : Option Addr} {l : List Int} {c : Nat} (h : ParR D n w w1 k A l c) : l.length ≤ k := len_of_lv h.ta h.la h.bd
theorem ParR.step {D : List UInt8} {n : Nat} {w w1 w2 : World} {k : Nat} {A : Option Addr} {l : List Int} {c : Nat} {x : UInt8} (h : ParR D n w w1 k A l c) (hb : Below w1.heap.size w1 w2) (hx : D[k]? = some x) (hd : 48 ≤ x.toNat ∧ x.toNat ≤ 57)
  {A2 : Option Addr} {r : List Int} {c2 : Nat} (hr : RL w2 A2 r) (hl : Lim r) (ht : Tr r) (hc : r.length ≤ c2) (hv : lv r = lv l * 10 + ((x.toNat : Int) - 48)) : ParR D n w w2 (k + 1) A2 r c2 := by
 refine ⟨hr, hl, ht, by rw [hv, h.val, dv_take hx], ?_, hc, h.bel.trans (hb.mono h.bel.size), (hb.cell h.sz).trans h.e0, (hb.cell h.sz).trans h.e1, (hb.frozen h.sz).trans h.f0, (hb.frozen h.sz).trans h.f1, Nat.lt_of_lt_of_le h.sz hb.size, ?_⟩
 ·have h1 := h.bd
  have h2 := (lv_bd h.la).1
  rw [hv, Int.pow_succ]
  generalize B ^ k = p at *
  have h3 : (B : Int) = 4294967296 := rfl
  rw [h3]
  omega
 ·intro j y hj hy
  by_cases e : j = k
  ·subst e
   rw [hx] at hy
   cases hy
   exact hd
  ·exact h.dig j y (by omega) hy
theorem okS_of {D : List UInt8} (h0 : 0 < D.length) (h6 : D.length ≤ 60) (h : ∀ (j : Nat) (y : UInt8), j < D.length → D[j]? = some y → 48 ≤ y.toNat ∧ y.toNat ≤ 57) : okS D = true := by
 unfold okS
 rw [decide_eq_true h0, decide_eq_true h6]
 simp only [Bool.true_and, List.all_eq_true]
 intro y hy
 obtain ⟨j, hj⟩ := List.getElem?_of_mem hy
 have h1 := h j y (List.getElem?_eq_some_iff.1 hj).1 hj
 have hc : y.toNat = 48 ∨ y.toNat = 49 ∨ y.toNat = 50 ∨ y.toNat = 51 ∨ y.toNat = 52 ∨ y.toNat = 53 ∨ y.toNat = 54 ∨ y.toNat = 55 ∨ y.toNat = 56 ∨ y.toNat = 57 := by omega
 have e : ∀ m : UInt8, y.toNat = m.toNat → y = m := fun m h => UInt8.toNat_inj.1 h
 rcases hc with h | h | h | h | h | h | h | h | h | h <;> first | (rw [e 48 h]; rfl) | (rw [e 49 h]; rfl) | (rw [e 50 h]; rfl) | (rw [e 51 h]; rfl) | (rw [e 52 h]; rfl) | (rw [e 53 h]; rfl) | (rw [e 54 h]; rfl) | (rw [e 55 h]; rfl) | (rw [e 56 h]; rfl) | (rw [e 57 h]; rfl)
theorem okS_no {D : List UInt8} {k : Nat} {y : UInt8} (hy : D[k]? = some y) (h : y.toNat < 48 ∨ 57 < y.toNat) : okS D = false := by
 cases ho : okS D with
 | false => rfl
 | true =>
  have := dig_of ho hy
  omega
theorem numS_no {D : List UInt8} {n : Bool} (h : okS D = false) : numS D n = false := by unfold numS; rw [h]; rfl
theorem numS_zero {D : List UInt8} {n : Bool} (hx : D.head? = some 48) (h : 1 < D.length ∨ n = true) : numS D n = false := by
 unfold numS
 rw [hx]
 have h1 : (D == [48] && !n) = false := by
  rcases h with h | h
  ·rw [show (D == [48]) = false from beq_eq_false_iff_ne.mpr fun e => by rw [e] at h; simp at h]
   rfl
  ·rw [h]; simp
 rw [h1]
 simp
theorem numS_yes {D : List UInt8} {n : Bool} (h : okS D = true) (hz : ¬ (D.head? = some 48 ∧ (1 < D.length ∨ n = true))) : numS D n = true := by
 unfold numS
 rw [h, Bool.true_and]
 by_cases hx : D.head? = some 48
 ·have h1 : ¬ (1 < D.length ∨ n = true) := fun hh => hz ⟨hx, hh⟩
  have hn : n = false := by cases n with | false => rfl | true => exact absurd (.inr rfl) h1
  match D, hx, h1 with
  | [a], hx, _ => simp at hx; subst hx; subst hn; rfl
  | a :: b :: r, _, h1 => exact absurd (.inl (by simp)) h1
 ·rw [show (D.head? != some 48) = true from bne_iff_ne.mpr hx]
  rfl
theorem Lim_nil32 : Lim [] := fun j => by simp [lg]; decide
theorem lim_one32 {x : Int} (h : 0 ≤ x ∧ x < 4294967296) : Lim [x] := fun j => by
 match j with
 | 0 => exact h
 | j + 1 => exact ⟨by show (0 : Int) ≤ 0; omega, by show (0 : Int) < 4294967296; omega⟩
theorem lv_one32 (x : Int) : lv [x] = x := by simp [lv, sumB, lg]
theorem parseV_no {l : List UInt8} (h : numS (restS l) (negS l) = false) : parseV l = .tuple #[.agg #[.bool false, .string ⟨#[]⟩], .int .i64 4] := by
 unfold parseV
 rw [h]
 rfl
theorem parseV_yes {l : List UInt8} (h : numS (restS l) (negS l) = true) : parseV l = .tuple #[putV (sgn (negS l) (dv (restS l))), .int .i64 0] := by
 unfold parseV
 rw [h]
 rfl

set_option maxHeartbeats 2000000 in
set_option maxRecDepth 100000 in
theorem parse_r (s : ByteArray) (w : World) :
  Calls Tryz.prog 22 #[.string s] w fun e w' => e = .returned (parseV s.data.toList) ∧ Below w.heap.size w w' := by
 obtain ⟨w0, hw0⟩ : ∃ w0, w0 = w.alloc (.cells #[.bool false, .string ⟨#[]⟩] 24) := ⟨_, rfl⟩
 have hb0 : Below w.heap.size w w0 := by rw [hw0]; exact (Below.refl _ _).alloc (Nat.le_refl _) _
 have d0 : w0.cell? ⟨w.heap.size, 0, none⟩ = some (.bool false) := by rw [hw0]; simp [go_sem]
 have d1 : w0.cell? ⟨w.heap.size, 1, none⟩ = some (.string ⟨#[]⟩) := by rw [hw0]; simp [go_sem]
 have d2 : w0.frozen? ⟨w.heap.size, 0, none⟩ = false := by rw [hw0]; simp [go_sem]
 have d3 : w0.frozen? ⟨w.heap.size, 1, none⟩ = false := by rw [hw0]; simp [go_sem]
 have hsz : w0.heap.size = w.heap.size + 1 := by rw [hw0]; simp
 have HW := Lib.hid hw0
 have HB := Lib.hid hb0
 have HSZ := Lib.hid hsz
 have HE := Lib.hid (And.intro d0 (And.intro d1 (And.intro d2 d3)))
 obtain ⟨D, hD⟩ : ∃ D, restS s.data.toList = D := ⟨_, rfl⟩
 obtain ⟨n, hn⟩ : ∃ n, negS s.data.toList = n := ⟨_, rfl⟩
 have HDN := Lib.hid (And.intro hD hn)
 have hsl : s.size = s.data.toList.length := by simp
 have HSL := Lib.hid hsl
 clear hw0 hb0 hsz d0 d1 d2 d3 hD hn hsl
 go_enter Tryz.func22, Tryz.ntmps22
 go_upto_region 1 with fail
 rw [← HW.out]
 go_cut [4] (fun a wx => a = .bool n ∧ w0 = wx)
 case first =>
  by_cases h0 : s.size = 0
  ·have q1 : (0 < s.size) = False := eq_false (by omega)
   have q2 : ((0 : Int) < (s.size : Int)) = False := eq_false (by omega)
   have q3 : decide ((0 : Int) < (s.size : Int)) = false := decide_eq_false (by omega)
   have hl : s.data.toList = [] := List.eq_nil_of_length_eq_zero (by rw [← HSL.out]; exact h0)
   have HN := Lib.hid (show n = false by rw [← HDN.out.2, hl]; rfl)
   clear hl
   go_wp2
   go_meet
   exact ⟨by rw [HN.out], rfl⟩
  ·have q1 : (0 < s.size) = True := eq_true (by omega)
   have q2 : ((0 : Int) < (s.size : Int)) = True := eq_true (by omega)
   have q3 : decide ((0 : Int) < (s.size : Int)) = true := decide_eq_true (by omega)
   obtain ⟨x, r, hl⟩ : ∃ x r, s.data.toList = x :: r := by
    cases hh : s.data.toList with
    | nil => rw [HSL.out, hh] at h0; exact absurd rfl h0
    | cons a r => exact ⟨a, r, rfl⟩
   have hx0 : ∀ h : 0 < s.size, ((s[0]'h).toNat : Int) = x.toNat := by
    intro h
    have : s[0]'h = x := by
     show s.data[0] = x
     have h2 : s.data.toList[0]? = some (s.data[0]'h) := by simp
     rw [hl] at h2
     exact (Option.some.inj h2).symm
    rw [this]
   by_cases hx : x = 45
   ·have y1 : ((x.toNat : Int) == 45) = true := by rw [hx]; rfl
    have HN := Lib.hid (show n = true by rw [← HDN.out.2, hl, hx]; rfl)
    clear hl hx
    go_wp2
    go_meet
    exact ⟨by rw [HN.out], rfl⟩
   ·have y1 : ((x.toNat : Int) == 45) = false := beq_eq_false_iff_ne.mpr fun h => hx (UInt8.toNat_inj.1 (by have : (45 : UInt8).toNat = 45 := rfl; omega))
    have HN := Lib.hid (show n = false by
     rw [← HDN.out.2, hl]
     unfold negS Lib.hasPrefix
     simp only [List.isPrefixOf, Bool.and_true]
     exact beq_eq_false_iff_ne.mpr fun h => hx h.symm)
    clear hl hx
    go_wp2
    go_meet
    exact ⟨by rw [HN.out], rfl⟩
 case rest =>
  obtain ⟨rfl, rfl⟩ := hcut
  go_upto_if 17 with fail
  go_cut [5] (fun b wx => ∃ d : ByteArray, b = .string d ∧ Hid (d.data.toList = D) ∧ w0 = wx)
  case first =>
   cases n with
   | false =>
    have HD := Lib.hid (show s.data.toList = D by
     have h2 := HDN.out.2
     rw [← HDN.out.1]
     unfold restS Lib.trimPrefix
     unfold negS at h2
     rw [h2]
     rfl)
    go_wp2
    go_meet
    exact ⟨s, rfl, HD, rfl⟩
   | true =>
    have hs1 : 1 ≤ s.size := by
     have h2 := HDN.out.2
     rw [HSL.out]
     refine Nat.le_of_not_lt fun h => ?_
     rw [List.eq_nil_of_length_eq_zero (l := s.data.toList) (by omega)] at h2
     exact absurd h2 (by decide)
    have q1 : ((1 : Int) ≤ (s.size : Int)) = True := eq_true (by omega)
    have q2 : (1 ≤ s.size) = True := eq_true hs1
    go_wp2
    go_meet
    refine ⟨_, rfl, Lib.hid ?_, rfl⟩
    have h2 := HDN.out.2
    rw [← HDN.out.1]
    unfold restS Lib.trimPrefix
    unfold negS at h2
    rw [h2]
    rw [ByteArray.data_extract, Array.toList_extract]
    exact List.take_of_length_le (by simp)
  case rest =>
   obtain ⟨d, rfl, HD, rfl⟩ := hcut
   have e0 := HE.out.1
   have e1 := HE.out.2.1
   have e2 := HE.out.2.2.1
   have e3 := HE.out.2.2.2
   have HDL := Lib.hid (show d.size = D.length by rw [← HD.out]; simp)
   have HV := HDN.out
   by_cases h1 : d.size < 1
   ·have t1 : decide ((d.size : Int) < 1) = true := decide_eq_true (by omega)
    have HZ := Lib.hid (parseV_no (l := s.data.toList) (by rw [HV.1, HV.2]; exact numS_no (by unfold okS; rw [decide_eq_false (by rw [← HDL.out]; omega)]; rfl)))
    clear HV h1
    go_wp2
    refine bodyPost_ret (by simp [results, Tryz.results22, go_sem, e0, e1, e2, e3]; try rfl) rfl ?_
    exact ⟨by rw [HZ.out], (HB.out.setCell (by simp; try omega) _).setCell (by simp; try omega) _⟩
   ·by_cases h6 : 60 < d.size
    ·have t1 : decide ((d.size : Int) < 1) = false := decide_eq_false (by omega)
     have t2 : decide ((60 : Int) < (d.size : Int)) = true := decide_eq_true (by omega)
     have HZ := Lib.hid (parseV_no (l := s.data.toList) (by rw [HV.1, HV.2]; exact numS_no (by unfold okS; rw [show decide (D.length ≤ 60) = false from decide_eq_false (by rw [← HDL.out]; omega)]; simp)))
     clear HV h1 h6
     go_wp2
     refine bodyPost_ret (by simp [results, Tryz.results22, go_sem, e0, e1, e2, e3]; try rfl) rfl ?_
     exact ⟨by rw [HZ.out], (HB.out.setCell (by simp; try omega) _).setCell (by simp; try omega) _⟩
    ·have t1 : decide ((d.size : Int) < 1) = false := decide_eq_false (by omega)
     have t2 : decide ((60 : Int) < (d.size : Int)) = false := decide_eq_false (by omega)
     obtain ⟨x, hx⟩ : ∃ x, D[0]? = some x := ⟨_, List.getElem?_eq_getElem (by rw [← HDL.out]; omega)⟩
     have hxh : D.head? = some x := by rw [List.head?_eq_getElem?]; exact hx
     have hbyte : ∀ (k : Nat) (y : UInt8), D[k]? = some y → ∀ h : k < d.size, ((d[k]'h).toNat : Int) = y.toNat := by
      intro k y hy h
      have : d[k]'h = y := by
       show d.data[k] = y
       have h2 : d.data.toList[k]? = some (d.data[k]'h) := by simp
       rw [HD.out, hy] at h2
       exact (Option.some.inj h2).symm
      rw [this]
     have HBY := Lib.hid hbyte
     have hx0 := hbyte 0 x hx
     have q1 : (0 < d.size) = True := eq_true (by omega)
     have q2 : ((0 : Int) < (d.size : Int)) = True := eq_true (by omega)
     have HLEN := Lib.hid (show 0 < D.length ∧ D.length ≤ 60 by rw [← HDL.out]; omega)
     by_cases hz : x = 48 ∧ (1 < D.length ∨ n = true)
     ·have HZ := Lib.hid (parseV_no (l := s.data.toList) (by rw [HV.1, HV.2]; exact numS_zero (by rw [hxh, hz.1]) hz.2))
      have y1 : ((x.toNat : Int) == 48) = true := by rw [hz.1]; rfl
      by_cases hl : 1 < d.size
      ·have t3 : decide ((1 : Int) < (d.size : Int)) = true := decide_eq_true (by omega)
       clear HV h1 h6 hz hx hxh hbyte hl
       go_wp2
       refine bodyPost_ret (by simp [results, Tryz.results22, go_sem, e0, e1, e2, e3]; try rfl) rfl ?_
       exact ⟨by rw [HZ.out], (HB.out.setCell (by simp; try omega) _).setCell (by simp; try omega) _⟩
      ·have t3 : decide ((1 : Int) < (d.size : Int)) = false := decide_eq_false (by omega)
       have hn : n = true := by
        rcases hz.2 with h | h
        ·rw [HDL.out] at hl; exact absurd h hl
        ·exact h
       clear h1 h6 hz hx hxh hbyte hl
       subst hn
       clear HV
       go_wp2
       refine bodyPost_ret (by simp [results, Tryz.results22, go_sem, e0, e1, e2, e3]; try rfl) rfl ?_
       exact ⟨by rw [HZ.out], (HB.out.setCell (by simp; try omega) _).setCell (by simp; try omega) _⟩
     ·have HNZ := Lib.hid hz
      have HXH := Lib.hid hxh
      by_cases h48 : x = 48
      ·have y1 : ((x.toNat : Int) == 48) = true := by rw [h48]; rfl
       have hlen1 : ¬ 1 < D.length := fun h => hz ⟨h48, .inl h⟩
       have hnf : n = false := by
        cases n with
        | false => rfl
        | true => exact absurd ⟨h48, .inr rfl⟩ hz
       have t3 : decide ((1 : Int) < (d.size : Int)) = false := decide_eq_false (by rw [HDL.out]; omega)
       clear h1 h6 hz hx hxh hbyte h48 hlen1 HV
       subst hnf
       go_upto_region 9 with fail
       have H0 := Lib.hid (show ParR D w.heap.size w w0 0 none [] 0 from ⟨⟨by simp, fun h => absurd h (by simp)⟩, Lim_nil32, .inl rfl, rfl, by decide, Nat.le_refl _, HB.out, HE.out.1, HE.out.2.1, HE.out.2.2.1, HE.out.2.2.2, by rw [HSZ.out]; omega, fun j y h => by omega⟩)
       clear e0 e1 e2 e3
       go_loopg [6, 7] d.size (fun gk o t w1 => ∃ k A l na c, Hid (gk = d.size - k ∧ k ≤ d.size) ∧ o = .slice A na c ∧ t = .int .i64 k ∧ Hid (l.length = na) ∧ Hid (ParR D w.heap.size w w1 k A l c))
       case atStart => exact ⟨0, none, [], 0, 0, Lib.hid ⟨rfl, Nat.zero_le _⟩, rfl, rfl, Lib.hid rfl, H0⟩
       case round =>
        obtain ⟨k, A, l, na, c, hgk, rfl, rfl, HLN, HI⟩ := hrel
        have HNA := Lib.hid (show na ≤ 60 by have h1 := HI.out.le; have h2 := HLEN.out.2; have h3 := hgk.out.2; rw [HLN.out] at h1; rw [HDL.out] at h3; omega)
        have HCA := Lib.hid (show na ≤ c by have h1 := HI.out.ca; rw [HLN.out] at h1; exact h1)
        by_cases hlt : k < d.size
        ·have h1 : decide ((k : Int) < (d.size : Int)) = true := by simp; omega
         obtain ⟨y, hy⟩ : ∃ y, D[k]? = some y := ⟨_, List.getElem?_eq_getElem (by rw [← HDL.out]; exact hlt)⟩
         have hyb := HBY.out k y hy
         obtain ⟨z, hz⟩ : ∃ z : Nat, y.toNat = z := ⟨_, rfl⟩
         rw [hz] at hyb
         have hz256 : z < 256 := by rw [← hz]; exact y.toNat_lt
         have HY := Lib.hid (And.intro hy hz)
         have c1 := eq_true (show (k : Int) < (d.size : Int) by omega)
         have c2 := eq_true (show (0 : Int) ≤ (k : Int) by omega)
         have c3 := eq_true hlt
         by_cases hd : z < 48 ∨ 57 < z
         ·have e0 := HI.out.e0
          have e1 := HI.out.e1
          have e2 := HI.out.f0
          have e3 := HI.out.f1
          have HZ := Lib.hid (parseV_no (l := s.data.toList) (by rw [HDN.out.1, HDN.out.2]; exact numS_no (okS_no hy (by rw [hz]; exact hd))))
          have HBL := Lib.hid HI.out.bel
          by_cases hd1 : z < 48
          ·have t1 : decide ((z : Int) < 48) = true := decide_eq_true (by omega)
           clear hd hd1 hy hz hlt
           go_wp2
           refine bodyPost_ret (by simp [results, Tryz.results22, go_sem, e0, e1, e2, e3]; try rfl) rfl ?_
           exact ⟨by rw [HZ.out] <;> rfl, (HBL.out.setCell (by simp; try omega) _).setCell (by simp; try omega) _⟩
          ·have t1 : decide ((z : Int) < 48) = false := decide_eq_false (by omega)
           have t2 : decide ((57 : Int) < (z : Int)) = true := decide_eq_true (by omega)
           clear hd hd1 hy hz hlt
           go_wp2
           refine bodyPost_ret (by simp [results, Tryz.results22, go_sem, e0, e1, e2, e3]; try rfl) rfl ?_
           exact ⟨by rw [HZ.out] <;> rfl, (HBL.out.setCell (by simp; try omega) _).setCell (by simp; try omega) _⟩
         ·have t1 : decide ((z : Int) < 48) = false := decide_eq_false (by omega)
          have t2 : decide ((57 : Int) < (z : Int)) = false := decide_eq_false (by omega)
          have HDG := Lib.hid (show 48 ≤ z ∧ z ≤ 57 by omega)
          have hk59 : k < 60 := by have h2 := HLEN.out.2; rw [HDL.out] at hlt; omega
          have a3 : IntKind.i64.wrap ((k : Int) + 1) = ((k + 1 : Nat) : Int) := by rw [IntWalk.i64_in _ (by omega)]; rfl
          have HLT := Lib.hid hlt
          have HM := Lib.hid (mul_r A (some ⟨wr.heap.size, 0, none⟩) na 1 c 1 l [10] HLN.out rfl (by have := HNA.out; omega) (by omega) (wr.alloc (.cells #[.int .u64 10] 79)) (rl_below ((Below.refl _ _).alloc (Nat.le_refl _) _) HI.out.ra (Nat.le_refl _)) (rl_one wr 10) HI.out.la (lim_one32 ⟨by omega, by omega⟩))
          clear hd hy hz hlt
          go_wp2_with fail
          refine (HM.out).mono ?_
          rintro e w3 ⟨q, r, rfl, ⟨g1, c1', rfl, hg1, hr0, hrl⟩, hlr, htr, hvr, hbr⟩
          have HB1 := Lib.hid (show Below wr.heap.size wr w3 from ((Below.refl _ _).alloc (Nat.le_refl _) _).trans (hbr.mono (by simp)))
          have hv10 : lv r = lv l * 10 := by rw [hvr, lv_one32]
          have hr4 : r.length ≤ k + 1 := by
           apply len_of_lv htr hlr
           have h1 := HI.out.bd
           rw [hv10, Int.pow_succ]
           generalize B ^ k = p at *
           have h3 : (B : Int) = 4294967296 := rfl
           have h4 := (lv_bd HI.out.la).1
           rw [h3]
           omega
          obtain ⟨nr, hnr⟩ : ∃ nr, r.length = nr := ⟨_, rfl⟩
          have HNR := Lib.hid (show r.length = nr ∧ nr ≤ 100 from ⟨hnr, by have := HLEN.out.2; have h2 := HLT.out; rw [HDL.out] at h2; omega⟩)
          have HR1 := Lib.hid (And.intro hrl (And.intro hlr (And.intro hv10 (And.intro htr hr0))))
          rw [hnr]
          clear hbr hvr hv10 hr4 hr0 hnr hrl hlr htr hg1
          by_cases h48 : z = 48
          ·have t3 : decide ((48 : Int) < (z : Int)) = false := decide_eq_false (by omega)
           have hfin := HI.out.step HB1.out HY.out.1 (by rw [HY.out.2]; exact HDG.out) HR1.out.1 HR1.out.2.1 HR1.out.2.2.2.1 HR1.out.2.2.2.2 (by rw [HR1.out.2.2.1, HY.out.2, h48]; omega)
           have HF := Lib.hid hfin
           clear hfin h48
           go_wp2
           go_roundg (d.size - (k + 1))
           case measure => have := hgk.out; have := HLT.out; omega
           case rel => exact ⟨k + 1, _, r, _, _, Lib.hid ⟨rfl, HLT.out⟩, rfl, by simp, Lib.hid HNR.out.1, HF⟩
          ·have t3 : decide ((48 : Int) < (z : Int)) = true := decide_eq_true (by have := HDG.out.1; omega)
           have a1 : IntKind.u8.wrap ((z : Int) - 48) = (z : Int) - 48 := by have := HDG.out.1; unfold IntKind.wrap; simp [IntKind.bits, IntKind.signed]; omega
           have a2 : IntKind.u64.wrap ((z : Int) - 48) = (z : Int) - 48 := by have := HDG.out.1; exact wrap_u _ ⟨by omega, by rw [Num.B_eq]; omega⟩
           have HA2 := Lib.hid (add_r (some ⟨g1, 0, none⟩) (some ⟨w3.heap.size, 0, none⟩) nr 1 c1' 1 r [(z : Int) - 48] HNR.out.1 rfl (by have := HNR.out.2; omega) (by omega) (w3.alloc (.cells #[.int .u64 ((z : Int) - 48)] 79)) (rl_below ((Below.refl _ _).alloc (Nat.le_refl _) _) HR1.out.1 (Nat.le_refl _)) (rl_one w3 _) HR1.out.2.1 (lim_one32 (by obtain ⟨h1, h2⟩ := HDG.out; exact ⟨by omega, by omega⟩)))
           clear h48
           go_wp2_with fail
           refine (HA2.out).mono ?_
           rintro e w4 ⟨q2, r2, rfl, ⟨g2, c2', rfl, hg2, hr20, hrl2⟩, hlr2, htr2, hvr2, hbr2⟩
           have hfin := HI.out.step (HB1.out.trans (((Below.refl _ _).alloc (Nat.le_refl _) _).trans (hbr2.mono (by simp)) |>.mono HB1.out.size)) HY.out.1 (by rw [HY.out.2]; exact HDG.out) hrl2 hlr2 htr2 hr20 (by rw [hvr2, lv_one32, HR1.out.2.2.1, HY.out.2])
           have HF := Lib.hid hfin
           clear hfin hrl2 hlr2 htr2 hr20 hvr2 hbr2 hg2
           go_wp2
           go_roundg (d.size - (k + 1))
           case measure => have := hgk.out; have := HLT.out; omega
           case rel => exact ⟨k + 1, _, r2, _, _, Lib.hid ⟨rfl, HLT.out⟩, rfl, by simp, Lib.hid rfl, HF⟩
        ·have h1 : decide ((k : Int) < (d.size : Int)) = false := by simp; omega
         have hke : k = d.size := by have := hgk.out.2; omega
         have c1 : (k < d.size) = False := eq_false (by omega)
         have c2 : ((k : Int) < (d.size : Int)) = False := eq_false (by omega)
         have HK := Lib.hid hke
         have HM := Lib.hid (make0_r false A na c l HLN.out (by have := HNA.out; omega) HCA.out wr HI.out.ra HI.out.la)
         have e0 := HI.out.e0
         have e1 := HI.out.e1
         have e2 := HI.out.f0
         have e3 := HI.out.f1
         clear hlt hke
         go_wp2_with fail
         refine (HM.out).mono ?_
         rintro e w2 ⟨rfl, hbt⟩
         have q0 := (hbt.cell HI.out.sz).trans e0
         have q1 := (hbt.cell HI.out.sz).trans e1
         have q2 := (hbt.frozen HI.out.sz).trans e2
         have q3 := (hbt.frozen HI.out.sz).trans e3
         have HB3 := Lib.hid (HI.out.bel.trans (hbt.mono HI.out.bel.size))
         have hok : okS D = true := okS_of HLEN.out.1 HLEN.out.2 (fun j y hj hy => HI.out.dig j y (by rw [HK.out, HDL.out]; exact hj) hy)
         have HZ := Lib.hid (parseV_yes (l := s.data.toList) (by rw [HDN.out.1, HDN.out.2]; exact numS_yes hok (by rw [HXH.out]; exact fun h => HNZ.out ⟨Option.some.inj h.1, h.2⟩)))
         have HVL := Lib.hid (show lv l = dv D by rw [HI.out.val, HK.out, HDL.out, List.take_length])
         clear hbt e0 e1 e2 e3 hok
         unfold putV
         go_wp2
         refine bodyPost_ret (by simp [results, Tryz.results22, go_sem, q0, q1]; try rfl) rfl ?_
         refine ⟨?_, (HB3.out.setCell (by simp; try omega) _).setCell (by simp; try omega) _⟩
         rw [HZ.out, HDN.out.1, HDN.out.2, HVL.out]
         rfl
      ·have y1 : ((x.toNat : Int) == 48) = false := beq_eq_false_iff_ne.mpr fun h => h48 (UInt8.toNat_inj.1 (by have : (48 : UInt8).toNat = 48 := rfl; omega))
       clear h1 h6 hz hx hxh hbyte h48 HV
       go_upto_region 9 with fail
       have H0 := Lib.hid (show ParR D w.heap.size w w0 0 none [] 0 from ⟨⟨by simp, fun h => absurd h (by simp)⟩, Lim_nil32, .inl rfl, rfl, by decide, Nat.le_refl _, HB.out, HE.out.1, HE.out.2.1, HE.out.2.2.1, HE.out.2.2.2, by rw [HSZ.out]; omega, fun j y h => by omega⟩)
       clear e0 e1 e2 e3
       go_loopg [6, 7] d.size (fun gk o t w1 => ∃ k A l na c, Hid (gk = d.size - k ∧ k ≤ d.size) ∧ o = .slice A na c ∧ t = .int .i64 k ∧ Hid (l.length = na) ∧ Hid (ParR D w.heap.size w w1 k A l c))
       case atStart => exact ⟨0, none, [], 0, 0, Lib.hid ⟨rfl, Nat.zero_le _⟩, rfl, rfl, Lib.hid rfl, H0⟩
       case round =>
        obtain ⟨k, A, l, na, c, hgk, rfl, rfl, HLN, HI⟩ := hrel
        have HNA := Lib.hid (show na ≤ 60 by have h1 := HI.out.le; have h2 := HLEN.out.2; have h3 := hgk.out.2; rw [HLN.out] at h1; rw [HDL.out] at h3; omega)
        have HCA := Lib.hid (show na ≤ c by have h1 := HI.out.ca; rw [HLN.out] at h1; exact h1)
        by_cases hlt : k < d.size
        ·have h1 : decide ((k : Int) < (d.size : Int)) = true := by simp; omega
         obtain ⟨y, hy⟩ : ∃ y, D[k]? = some y := ⟨_, List.getElem?_eq_getElem (by rw [← HDL.out]; exact hlt)⟩
         have hyb := HBY.out k y hy
         obtain ⟨z, hz⟩ : ∃ z : Nat, y.toNat = z := ⟨_, rfl⟩
         rw [hz] at hyb
         have hz256 : z < 256 := by rw [← hz]; exact y.toNat_lt
         have HY := Lib.hid (And.intro hy hz)
         have c1 := eq_true (show (k : Int) < (d.size : Int) by omega)
         have c2 := eq_true (show (0 : Int) ≤ (k : Int) by omega)
         have c3 := eq_true hlt
         by_cases hd : z < 48 ∨ 57 < z
         ·have e0 := HI.out.e0
          have e1 := HI.out.e1
          have e2 := HI.out.f0
          have e3 := HI.out.f1
          have HZ := Lib.hid (parseV_no (l := s.data.toList) (by rw [HDN.out.1, HDN.out.2]; exact numS_no (okS_no hy (by rw [hz]; exact hd))))
          have HBL := Lib.hid HI.out.bel
          by_cases hd1 : z < 48
          ·have t1 : decide ((z : Int) < 48) = true := decide_eq_true (by omega)
           clear hd hd1 hy hz hlt
           go_wp2
           refine bodyPost_ret (by simp [results, Tryz.results22, go_sem, e0, e1, e2, e3]; try rfl) rfl ?_
           exact ⟨by rw [HZ.out] <;> rfl, (HBL.out.setCell (by simp; try omega) _).setCell (by simp; try omega) _⟩
          ·have t1 : decide ((z : Int) < 48) = false := decide_eq_false (by omega)
           have t2 : decide ((57 : Int) < (z : Int)) = true := decide_eq_true (by omega)
           clear hd hd1 hy hz hlt
           go_wp2
           refine bodyPost_ret (by simp [results, Tryz.results22, go_sem, e0, e1, e2, e3]; try rfl) rfl ?_
           exact ⟨by rw [HZ.out] <;> rfl, (HBL.out.setCell (by simp; try omega) _).setCell (by simp; try omega) _⟩
         ·have t1 : decide ((z : Int) < 48) = false := decide_eq_false (by omega)
          have t2 : decide ((57 : Int) < (z : Int)) = false := decide_eq_false (by omega)
          have HDG := Lib.hid (show 48 ≤ z ∧ z ≤ 57 by omega)
          have hk59 : k < 60 := by have h2 := HLEN.out.2; rw [HDL.out] at hlt; omega
          have a3 : IntKind.i64.wrap ((k : Int) + 1) = ((k + 1 : Nat) : Int) := by rw [IntWalk.i64_in _ (by omega)]; rfl
          have HLT := Lib.hid hlt
          have HM := Lib.hid (mul_r A (some ⟨wr.heap.size, 0, none⟩) na 1 c 1 l [10] HLN.out rfl (by have := HNA.out; omega) (by omega) (wr.alloc (.cells #[.int .u64 10] 79)) (rl_below ((Below.refl _ _).alloc (Nat.le_refl _) _) HI.out.ra (Nat.le_refl _)) (rl_one wr 10) HI.out.la (lim_one32 ⟨by omega, by omega⟩))
          clear hd hy hz hlt
          go_wp2_with fail
          refine (HM.out).mono ?_
          rintro e w3 ⟨q, r, rfl, ⟨g1, c1', rfl, hg1, hr0, hrl⟩, hlr, htr, hvr, hbr⟩
          have HB1 := Lib.hid (show Below wr.heap.size wr w3 from ((Below.refl _ _).alloc (Nat.le_refl _) _).trans (hbr.mono (by simp)))
          have hv10 : lv r = lv l * 10 := by rw [hvr, lv_one32]
          have hr4 : r.length ≤ k + 1 := by
           apply len_of_lv htr hlr
           have h1 := HI.out.bd
           rw [hv10, Int.pow_succ]
           generalize B ^ k = p at *
           have h3 : (B : Int) = 4294967296 := rfl
           have h4 := (lv_bd HI.out.la).1
           rw [h3]
           omega
          obtain ⟨nr, hnr⟩ : ∃ nr, r.length = nr := ⟨_, rfl⟩
          have HNR := Lib.hid (show r.length = nr ∧ nr ≤ 100 from ⟨hnr, by have := HLEN.out.2; have h2 := HLT.out; rw [HDL.out] at h2; omega⟩)
          have HR1 := Lib.hid (And.intro hrl (And.intro hlr (And.intro hv10 (And.intro htr hr0))))
          rw [hnr]
          clear hbr hvr hv10 hr4 hr0 hnr hrl hlr htr hg1
          by_cases h48 : z = 48
          ·have t3 : decide ((48 : Int) < (z : Int)) = false := decide_eq_false (by omega)
           have hfin := HI.out.step HB1.out HY.out.1 (by rw [HY.out.2]; exact HDG.out) HR1.out.1 HR1.out.2.1 HR1.out.2.2.2.1 HR1.out.2.2.2.2 (by rw [HR1.out.2.2.1, HY.out.2, h48]; omega)
           have HF := Lib.hid hfin
           clear hfin h48
           go_wp2
           go_roundg (d.size - (k + 1))
           case measure => have := hgk.out; have := HLT.out; omega
           case rel => exact ⟨k + 1, _, r, _, _, Lib.hid ⟨rfl, HLT.out⟩, rfl, by simp, Lib.hid HNR.out.1, HF⟩
          ·have t3 : decide ((48 : Int) < (z : Int)) = true := decide_eq_true (by have := HDG.out.1; omega)
           have a1 : IntKind.u8.wrap ((z : Int) - 48) = (z : Int) - 48 := by have := HDG.out.1; unfold IntKind.wrap; simp [IntKind.bits, IntKind.signed]; omega
           have a2 : IntKind.u64.wrap ((z : Int) - 48) = (z : Int) - 48 := by have := HDG.out.1; exact wrap_u _ ⟨by omega, by rw [Num.B_eq]; omega⟩
           have HA2 := Lib.hid (add_r (some ⟨g1, 0, none⟩) (some ⟨w3.heap.size, 0, none⟩) nr 1 c1' 1 r [(z : Int) - 48] HNR.out.1 rfl (by have := HNR.out.2; omega) (by omega) (w3.alloc (.cells #[.int .u64 ((z : Int) - 48)] 79)) (rl_below ((Below.refl _ _).alloc (Nat.le_refl _) _) HR1.out.1 (Nat.le_refl _)) (rl_one w3 _) HR1.out.2.1 (lim_one32 (by obtain ⟨h1, h2⟩ := HDG.out; exact ⟨by omega, by omega⟩)))
           clear h48
           go_wp2_with fail
           refine (HA2.out).mono ?_
           rintro e w4 ⟨q2, r2, rfl, ⟨g2, c2', rfl, hg2, hr20, hrl2⟩, hlr2, htr2, hvr2, hbr2⟩
           have hfin := HI.out.step (HB1.out.trans (((Below.refl _ _).alloc (Nat.le_refl _) _).trans (hbr2.mono (by simp)) |>.mono HB1.out.size)) HY.out.1 (by rw [HY.out.2]; exact HDG.out) hrl2 hlr2 htr2 hr20 (by rw [hvr2, lv_one32, HR1.out.2.2.1, HY.out.2])
           have HF := Lib.hid hfin
           clear hfin hrl2 hlr2 htr2 hr20 hvr2 hbr2 hg2
           go_wp2
           go_roundg (d.size - (k + 1))
           case measure => have := hgk.out; have := HLT.out; omega
           case rel => exact ⟨k + 1, _, r2, _, _, Lib.hid ⟨rfl, HLT.out⟩, rfl, by simp, Lib.hid rfl, HF⟩
        ·have h1 : decide ((k : Int) < (d.size : Int)) = false := by simp; omega
         have hke : k = d.size := by have := hgk.out.2; omega
         have c1 : (k < d.size) = False := eq_false (by omega)
         have c2 : ((k : Int) < (d.size : Int)) = False := eq_false (by omega)
         have HK := Lib.hid hke
         have HM := Lib.hid (make0_r n A na c l HLN.out (by have := HNA.out; omega) HCA.out wr HI.out.ra HI.out.la)
         have e0 := HI.out.e0
         have e1 := HI.out.e1
         have e2 := HI.out.f0
         have e3 := HI.out.f1
         clear hlt hke
         go_wp2_with fail
         refine (HM.out).mono ?_
         rintro e w2 ⟨rfl, hbt⟩
         have q0 := (hbt.cell HI.out.sz).trans e0
         have q1 := (hbt.cell HI.out.sz).trans e1
         have q2 := (hbt.frozen HI.out.sz).trans e2
         have q3 := (hbt.frozen HI.out.sz).trans e3
         have HB3 := Lib.hid (HI.out.bel.trans (hbt.mono HI.out.bel.size))
         have hok : okS D = true := okS_of HLEN.out.1 HLEN.out.2 (fun j y hj hy => HI.out.dig j y (by rw [HK.out, HDL.out]; exact hj) hy)
         have HZ := Lib.hid (parseV_yes (l := s.data.toList) (by rw [HDN.out.1, HDN.out.2]; exact numS_yes hok (by rw [HXH.out]; exact fun h => HNZ.out ⟨Option.some.inj h.1, h.2⟩)))
         have HVL := Lib.hid (show lv l = dv D by rw [HI.out.val, HK.out, HDL.out, List.take_length])
         clear hbt e0 e1 e2 e3 hok
         unfold putV
         go_wp2
         refine bodyPost_ret (by simp [results, Tryz.results22, go_sem, q0, q1]; try rfl) rfl ?_
         refine ⟨?_, (HB3.out.setCell (by simp; try omega) _).setCell (by simp; try omega) _⟩
         rw [HZ.out, HDN.out.1, HDN.out.2, HVL.out]
         rfl
end Go.Proofs.YtoijlbcbbblbfaaGreatDoor
