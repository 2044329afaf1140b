import Derived.Test.YtoijlbcbbblbfaaGreatDoorY2U
import Derived.Deep.RegionHeld3
namespace Go.Proofs.YtoijlbcbbblbfaaGreatDoor
open Go.RowKit Num
set_option linter.unusedVariables false
set_option linter.unusedSimpArgs false

def GcdP (n1 : Bool) (s1 : ByteArray) (n2 : Bool) (s2 : ByteArray) (w : World) (e : Ending) (w' : World) : Prop :=
 (bad2 n1 s1 n2 s2 ≠ 0 → e = .returned (.tuple #[.agg #[.bool false, .string ⟨#[]⟩], .int .i64 (bad2 n1 s1 n2 s2)])) ∧
 (bad2 n1 s1 n2 s2 = 0 → e = .returned (.tuple #[.agg #[.bool false, .string (encN ((Nat.gcd (nv s1).toNat (nv s2).toNat : Nat) : Int))], .int .i64 0])) ∧ Below w.heap.size w w'
structure GcdI (n : Nat) (G : Nat) (w w1 : World) (A : Option Addr) (a : List Int) (c : Nat) (A' : Option Addr) (b : List Int) (c' : Nat) : Prop where
 ra : RL w1 A a
 rb : RL w1 A' b
 la : Lim a
 lb : Lim b
 tb : Tr b
 na : a.length ≤ 4000
 nb : b.length ≤ 4000
 ca : a.length ≤ c
 cb : b.length ≤ c'
 gcd : Nat.gcd (lv a).toNat (lv b).toNat = G
 bel : Below w.heap.size w w1
 e0 : w1.cell? ⟨n + 2, 0, none⟩ = some (.bool false)
 e1 : w1.cell? ⟨n + 2, 1, none⟩ = some (.string ⟨#[]⟩)
 f0 : w1.frozen? ⟨n + 2, 0, none⟩ = false
 f1 : w1.frozen? ⟨n + 2, 1, none⟩ = false
 sz : n + 2 < w1.heap.size
theorem gcd_step {x y : Int} (hx : 0 ≤ x) (hy : 0 < y) : Nat.gcd y.toNat (x % y).toNat = Nat.gcd x.toNat y.toNat := by
 obtain ⟨a, rfl⟩ := Int.eq_ofNat_of_zero_le hx
 obtain ⟨b, rfl⟩ := Int.eq_ofNat_of_zero_le (Int.le_of_lt hy)
 rw [show ((a : Int) % (b : Int)) = ((a % b : Nat) : Int) from rfl, Int.toNat_natCast, Int.toNat_natCast, Int.toNat_natCast, Nat.gcd_comm b, ← Nat.gcd_rec, Nat.gcd_comm]
theorem GcdI.drN {n G : Nat} {w w1 : World} {A : Option Addr} {a : List Int} {c : Nat} {A' : Option Addr} {b : List Int} {c' : Nat} (h : GcdI n G w w1 A a c A' b c') (k : Nat) : GcdI n G w (w1.drewN k) A a c A' b c' :=
 ⟨h.ra.drN _, h.rb.drN _, h.la, h.lb, h.tb, h.na, h.nb, h.ca, h.cb, h.gcd, bdrN h.bel _, h.e0, h.e1, h.f0, h.f1, h.sz⟩
theorem GcdI.step {n G : Nat} {w w1 w2 : World} {A : Option Addr} {a : List Int} {c : Nat} {A' : Option Addr} {b : List Int} {c' : Nat} (h : GcdI n G w w1 A a c A' b c') (hb : Below w1.heap.size w1 w2) (h0 : ¬ b.length = 0) {A2 : Option Addr} {r : List Int} {c2 : Nat} (hr : RL w2 A2 r) (hl : Lim r) (ht : Tr r) (hc : r.length ≤ c2) (hv : lv r = lv a % lv b) : GcdI n G w w2 A' b c' A2 r c2 ∧ (lv r).toNat < (lv b).toNat := by
 have hp : 0 < lv b := by
  have h1 := (lv_bd h.lb).1
  have h2 : lv b ≠ 0 := fun e => h0 (len_zero h.tb e h.lb)
  omega
 have h3 := Int.emod_nonneg (lv a) (Int.ne_of_gt hp)
 have h4 := Int.emod_lt_of_pos (lv a) hp
 have hle : r.length ≤ b.length := by
  apply len_of_lv ht hl
  have := (lv_bd h.lb).2
  omega
 exact ⟨⟨h.rb.below hb (Nat.le_refl _), hr, h.lb, hl, ht, h.nb, by have := h.nb; omega, h.cb, hc, by rw [hv, gcd_step (lv_bd h.la).1 hp]; exact h.gcd, h.bel.trans (hb.mono h.bel.size), (hb.cell h.sz).trans h.e0, (hb.cell h.sz).trans h.e1, (hb.frozen h.sz).trans h.f0, (hb.frozen h.sz).trans h.f1, Nat.lt_of_lt_of_le h.sz hb.size⟩, by omega⟩

set_option maxHeartbeats 1000000 in
set_option maxRecDepth 100000 in
theorem gcdw_c (n1 : Bool) (s1 : ByteArray) (n2 : Bool) (s2 : ByteArray) (h1 : s1.size ≤ 15000) (h2 : s2.size ≤ 15000) (w : World) :
  Calls Tryz.prog 77 #[.agg #[.bool n1, .string s1], .agg #[.bool n2, .string s2]] w (GcdP n1 s1 n2 s2 w) := by
 obtain ⟨w4, hw4⟩ : ∃ w4, w4 = (((w.alloc (.cells #[.bool n1, .string s1] 24)).alloc (.cells #[.bool n2, .string s2] 24)).alloc (.cells #[.bool false, .string ⟨#[]⟩] 24)).alloc (.cells #[.bool n1, .string s1, .bool n2, .string s2] 24) := ⟨_, rfl⟩
 have hb4 : Below w.heap.size w w4 := by rw [hw4]; exact ((((Below.refl _ _).alloc (Nat.le_refl _) _).alloc (by simp; try omega) _).alloc (by simp; try omega) _).alloc (by simp; try omega) _
 have d0 : w4.cell? ⟨w.heap.size + 3, 0, none⟩ = some (.bool n1) := by rw [hw4]; simp [go_sem]
 have d1 : w4.cell? ⟨w.heap.size + 3, 1, none⟩ = some (.string s1) := by rw [hw4]; simp [go_sem]
 have d2 : w4.cell? ⟨w.heap.size + 3, 2, none⟩ = some (.bool n2) := by rw [hw4]; simp [go_sem]
 have d3 : w4.cell? ⟨w.heap.size + 3, 3, none⟩ = some (.string s2) := by rw [hw4]; simp [go_sem]
 have u0 : w4.cell? ⟨w.heap.size, 0, none⟩ = some (.bool n1) := by rw [hw4]; simp [go_sem]
 have u1 : w4.cell? ⟨w.heap.size + 1, 0, none⟩ = some (.bool n2) := by rw [hw4]; simp [go_sem]
 have u2 : w4.cell? ⟨w.heap.size + 2, 0, none⟩ = some (.bool false) := by rw [hw4]; simp [go_sem]
 have u3 : w4.cell? ⟨w.heap.size + 2, 1, none⟩ = some (.string ⟨#[]⟩) := by rw [hw4]; simp [go_sem]
 have u4 : w4.frozen? ⟨w.heap.size + 2, 0, none⟩ = false := by rw [hw4]; simp [go_sem]
 have u5 : w4.frozen? ⟨w.heap.size + 2, 1, none⟩ = false := by rw [hw4]; simp [go_sem]
 have hsz : w4.heap.size = w.heap.size + 4 := by rw [hw4]; simp
 have hkk : ∀ (w' : World) (h : Below w4.heap.size w4 w'), w'.cell? ⟨w.heap.size, 0, none⟩ = some (.bool n1) ∧ w'.cell? ⟨w.heap.size + 1, 0, none⟩ = some (.bool n2) ∧ w'.cell? ⟨w.heap.size + 2, 0, none⟩ = some (.bool false) ∧ w'.cell? ⟨w.heap.size + 2, 1, none⟩ = some (.string ⟨#[]⟩) ∧ w'.frozen? ⟨w.heap.size + 2, 0, none⟩ = false ∧ w'.frozen? ⟨w.heap.size + 2, 1, none⟩ = false :=
  fun w' h => ⟨(h.cell (by simp [hsz]; try omega)).trans u0, (h.cell (by simp [hsz]; try omega)).trans u1, (h.cell (by simp [hsz]; try omega)).trans u2, (h.cell (by simp [hsz]; try omega)).trans u3, (h.frozen (by simp [hsz]; try omega)).trans u4, (h.frozen (by simp [hsz]; try omega)).trans u5⟩
 have HW := Lib.hid hw4
 have HS := Lib.hid hb4
 have HSZ := Lib.hid hsz
 have HK := Lib.hid hkk
 unfold GcdP
 by_cases hb : bad2 n1 s1 n2 s2 = 0
 ·obtain ⟨o1, o2⟩ := bad2_ok.1 hb
  rw [hb]
  have HC := Lib.hid (read2_c n1 s1 n2 s2 _ 2 w4 d0 d1 d2 d3 o1 o2)
  clear d0 d1 d2 d3 u0 u1 u2 u3 u4 u5 hsz hkk hb4 hw4 hb o1 o2 h1 h2
  go_enter Tryz.func77, Tryz.ntmps77
  go_wp2_with fail
  rw [← HW.out]
  refine (HC.out).mono ?_
  rintro e w' ⟨g, c, g1, k1, r1, g2, k2, r2, rfl, hg, hc, N1, N2, hbr⟩
  have c0 := N1.c0
  have c1 := N1.c1
  have c2 := N2.c0
  have c3 := N2.c1
  obtain ⟨e0, e1, e2, e3, e4, e5⟩ := HK.out _ hbr
  have hg2 : g < w'.heap.size := World.block_lt_of_cell? w' _ c0
  have HR := Lib.hid (HS.out.trans (hbr.mono (by rw [HSZ.out]; omega)))
  have HL := Lib.hid (show w.heap.size + 2 < w'.heap.size by have := hbr.size; rw [HSZ.out] at this; omega)
  have HI0 := Lib.hid (show GcdI w.heap.size (Nat.gcd (nv s1).toNat (nv s2).toNat) w w' (some ⟨g1, 0, none⟩) r1 k1 (some ⟨g2, 0, none⟩) r2 k2 from ⟨N1.row, N2.row, N1.lim, N2.lim, N2.tr, by rw [N1.len]; exact N1.le, by rw [N2.len]; exact N2.le, by rw [N1.len]; exact Nat.le_refl _, by rw [N2.len]; exact Nat.le_refl _, by rw [N1.val, N2.val], HR.out, e2, e3, e4, e5, HL.out⟩)
  have HLEN := Lib.hid (And.intro N1.len N2.len)
  clear hg hbr N1 N2
  go_wp2
  repeat (go_quiet (fail); try go_wp2)
  rw [← HLEN.out.1, ← HLEN.out.2]
  rw [← HLEN.out.1, ← HLEN.out.2] at HI0
  clear c0 c1 c2 c3 e0 e1 e2 e3 e4 e5
  go_loopg [8, 9] (lv r2).toNat (fun gk x y w1 => ∃ A a na c A' b nb c', Hid (gk = (lv b).toNat) ∧ x = .slice A na c ∧ y = .slice A' nb c' ∧ Hid (a.length = na ∧ b.length = nb) ∧ Hid (GcdI w.heap.size (Nat.gcd (nv s1).toNat (nv s2).toNat) w w1 A a c A' b c'))
  case atStart => exact ⟨_, _, _, _, _, _, _, _, rfl, rfl, rfl, Lib.hid ⟨rfl, rfl⟩, Lib.hid (GcdI.drN HI0.out _)⟩
  case round =>
   obtain ⟨A, a, na, ca, A', b, nb, cb, hgk, rfl, rfl, HL, HI⟩ := hrel
   have HNA := Lib.hid (show na ≤ 4000 by have := HI.out.na; rw [HL.out.1] at this; exact this)
   have HNB := Lib.hid (show nb ≤ 4000 by have := HI.out.nb; rw [HL.out.2] at this; exact this)
   have HCA := Lib.hid (show na ≤ ca by have := HI.out.ca; rw [HL.out.1] at this; exact this)
   have HCB := Lib.hid (show nb ≤ cb by have := HI.out.cb; rw [HL.out.2] at this; exact this)
   by_cases hz : nb = 0
   ·have ht : decide ((0 : Int) < (nb : Int)) = false := decide_eq_false (by omega)
    have ht2 : (0 < nb) = False := eq_false (by omega)
    have ht3 : ((0 : Int) < (nb : Int)) = False := eq_false (by omega)
    have hlz : lv b = 0 := by unfold lv; rw [HL.out.2, hz]; rfl
    have HG := Lib.hid (show lv a = ((Nat.gcd (nv s1).toNat (nv s2).toNat : Nat) : Int) by have h1 := HI.out.gcd; rw [hlz] at h1; have h2 := (lv_bd HI.out.la).1; rw [← h1]; simp; omega)
    clear hz hlz
    go_wp2_with fail
    refine (told_c false A na ca a HL.out.1 HNA.out HCA.out _ HI.out.ra HI.out.la).mono ?_
    rintro e w2 ⟨rfl, hbt⟩
    have q0 := (hbt.cell HI.out.sz).trans HI.out.e0
    have q1 := (hbt.cell HI.out.sz).trans HI.out.e1
    have q2 := (hbt.frozen HI.out.sz).trans HI.out.f0
    have q3 := (hbt.frozen HI.out.sz).trans HI.out.f1
    have HB3 := Lib.hid (HI.out.bel.trans (hbt.mono HI.out.bel.size))
    clear hbt
    go_wp2
    refine bodyPost_ret (by simp [results, Tryz.results77, go_sem, q0, q1]; try rfl) rfl ?_
    exact ⟨fun h => absurd rfl h, fun _ => by rw [← HG.out, show decide (sgn false (lv a) < 0) = false from decide_eq_false (by have := (lv_bd HI.out.la).1; simp [sgn]; omega)], (HB3.out.setCell (by simp; try omega) _).setCell (by simp; try omega) _⟩
   ·have ht : decide ((0 : Int) < (nb : Int)) = true := decide_eq_true (by omega)
    have ht2 : (0 < nb) = True := eq_true (by omega)
    have ht3 : ((0 : Int) < (nb : Int)) = True := eq_true (by omega)
    have HZ := Lib.hid (show ¬ b.length = 0 by rw [HL.out.2]; exact hz)
    clear hz
    go_wp2_with fail
    refine (div_c A A' na nb ca cb a b HL.out.1 HL.out.2 HNA.out HNB.out HCA.out HCB.out _ HI.out.ra HI.out.rb HI.out.la HI.out.lb (fun e => HZ.out (len_zero HI.out.tb e HI.out.lb))).mono ?_
    rintro e w2 ⟨x, y, q, r, rfl, hq, hr, hlq, htq, hlr, htr, hvq, hvr, hbr⟩
    obtain ⟨A1, c1, rfl, hqc, hql⟩ := hq
    obtain ⟨A2, c2, rfl, hrc, hrl⟩ := hr
    have HN := Lib.hid (HI.out.step hbr HZ.out hrl hlr htr hrc hvr)
    clear hqc hql hrc hrl hlq htq hlr htr hvq hvr hbr
    go_wp2
    go_roundg (lv r).toNat
    case measure => rw [hgk.out]; exact HN.out.2
    case rel => exact ⟨_, b, _, _, _, r, _, _, rfl, rfl, rfl, Lib.hid ⟨HL.out.2, rfl⟩, Lib.hid HN.out.1⟩
 ·have HC := Lib.hid (read2_bad n1 s1 n2 s2 _ 2 w4 d0 d1 d2 d3 hb)
  have hz1 : (bad2 n1 s1 n2 s2 == 0) = false := beq_eq_false_iff_ne.mpr hb
  have hz2 : (bad2 n1 s1 n2 s2 != 0) = true := bne_iff_ne.mpr hb
  have HN := Lib.hid hb
  clear d0 d1 d2 d3 u0 u1 u2 u3 u4 u5 hsz hkk hb4 hw4 hb h1 h2
  go_enter Tryz.func77, Tryz.ntmps77
  go_wp2_with fail
  rw [← HW.out]
  refine (HC.out).mono ?_
  rintro e w' ⟨rfl, hbr⟩
  obtain ⟨e0, e1, e2, e3, e4, e5⟩ := HK.out _ hbr
  have HR := Lib.hid (HS.out.trans (hbr.mono (by rw [HSZ.out]; omega)))
  clear hbr
  go_wp2
  refine bodyPost_ret (by simp [results, Tryz.results77, go_sem, e0, e1, e2, e3, e4, e5]; try rfl) rfl ?_
  exact ⟨fun _ => rfl, fun h => absurd h HN.out, (HR.out.setCell (by simp; try omega) _).setCell (by simp; try omega) _⟩
end Go.Proofs.YtoijlbcbbblbfaaGreatDoor
