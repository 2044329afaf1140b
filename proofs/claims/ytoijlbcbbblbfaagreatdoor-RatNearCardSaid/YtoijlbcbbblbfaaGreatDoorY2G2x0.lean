import Derived.Test.YtoijlbcbbblbfaaGreatDoorY2L0
namespace Go.Proofs.YtoijlbcbbblbfaaGreatDoor
open Go.RowKit Num
set_option linter.unusedVariables false
set_option linter.unusedSimpArgs false

def natB (s : ByteArray) : Bool := !decide (0 < s.size ∧ byt s (s.size - 1) = 0)
set_option maxHeartbeats 1000000 in
theorem isnat_r (s : ByteArray) (w : World) : Calls Tryz.prog 55 #[.string s] w fun e w' => e = .returned (.bool (natB s)) ∧ Below w.heap.size w w' := by
 by_cases h0 : s.size = 0
 ·obtain ⟨t1, t2⟩ := toList_nil h0
  have HZ := Lib.hid (show natB s = true by unfold natB; rw [decide_eq_false (by omega)]; rfl)
  clear h0
  go_enter Tryz.func55, Tryz.ntmps55
  go_wp2
  repeat (go_quiet (fail); try go_wp2)
  go_ret
  exact ⟨by rw [HZ.out] <;> rfl, by first | exact Below.refl _ _ | exact bdrN (Below.refl _ _) _⟩
 ·obtain ⟨t1, t2⟩ := toList_ne (by omega : 0 < s.size)
  obtain ⟨t0, ht0⟩ : ∃ t0, byt s (s.size - 1) = t0 := ⟨_, rfl⟩
  have hx : ∀ h : 0 < s.size, ((s[0]'h).toNat : Int) = t0 := fun h => by
   rw [← ht0]; unfold byt
   rw [dif_pos (by omega)]
   congr 3
   omega
  have q1 := eq_true (show (0 : Int) < (s.size : Int) by omega)
  have q2 := eq_true (show 0 < s.size by omega)
  by_cases hz : t0 = 0
  ·have HZ := Lib.hid (show natB s = false by unfold natB; rw [decide_eq_true ⟨by omega, by rw [ht0]; exact hz⟩]; rfl)
   subst hz
   clear h0 ht0
   go_enter Tryz.func55, Tryz.ntmps55
   go_wp2
   repeat (go_quiet (fail); try go_wp2)
   go_ret
   exact ⟨by rw [HZ.out] <;> rfl, by first | exact Below.refl _ _ | exact bdrN (Below.refl _ _) _⟩
  ·have HZ := Lib.hid (show natB s = true by unfold natB; rw [decide_eq_false (by rw [ht0]; exact fun h => hz h.2)]; rfl)
   have y1 : (t0 == 0) = false := beq_eq_false_iff_ne.mpr hz
   have y2 : (t0 != 0) = true := bne_iff_ne.mpr hz
   clear h0 ht0 hz
   go_enter Tryz.func55, Tryz.ntmps55
   go_wp2
   repeat (go_quiet (fail); try go_wp2)
   go_ret
   exact ⟨by rw [HZ.out] <;> rfl, by first | exact Below.refl _ _ | exact bdrN (Below.refl _ _) _⟩

set_option maxHeartbeats 1000000 in
theorem check_r (n : Bool) (s : ByteArray) (w : World) : Calls Tryz.prog 48 #[.agg #[.bool n, .string s]] w fun e w' => e = .returned (.int .i64 (chk n s)) ∧ Below w.heap.size w w' := by
 have hb0 : Below w.heap.size w (w.alloc (.cells #[.bool n, .string s] 24)) := (Below.refl _ _).alloc (Nat.le_refl _) _
 have HB := Lib.hid hb0
 clear hb0
 by_cases h1 : 32000 < s.size
 ·have HZ := Lib.hid (show chk n s = 5 by unfold chk; rw [if_pos h1])
  have t1 : decide ((32000 : Int) < (s.size : Int)) = true := decide_eq_true (by omega)
  clear h1
  go_enter Tryz.func48, Tryz.ntmps48
  go_wp2
  go_ret
  exact ⟨by rw [HZ.out] <;> rfl, HB.out⟩
 ·have t1 : decide ((32000 : Int) < (s.size : Int)) = false := decide_eq_false (by omega)
  have HC := Lib.hid (isnat_r s)
  by_cases h2 : 0 < s.size ∧ byt s (s.size - 1) = 0
  ·have HZ := Lib.hid (show chk n s = 1 by unfold chk; rw [if_neg h1, if_pos h2])
   rw [show natB s = false by unfold natB; rw [decide_eq_true h2]; rfl] at HC
   clear h1 h2
   go_enter Tryz.func48, Tryz.ntmps48
   go_wp2_with fail
   refine (HC.out _).mono ?_
   rintro e w2 ⟨rfl, hb⟩
   have HB2 := Lib.hid (HB.out.trans (hb.mono HB.out.size))
   clear hb
   go_wp2
   repeat (go_quiet (fail); try go_wp2)
   go_ret
   exact ⟨by rw [HZ.out] <;> rfl, by first | exact HB2.out | exact bdrN HB2.out _⟩
  ·rw [show natB s = true by unfold natB; rw [decide_eq_false h2]; rfl] at HC
   cases n with
   | false =>
    have HZ := Lib.hid (show chk false s = 0 by unfold chk; rw [if_neg h1, if_neg h2, if_neg (by simp)])
    clear h1 h2
    go_enter Tryz.func48, Tryz.ntmps48
    go_wp2_with fail
    refine (HC.out _).mono ?_
    rintro e w2 ⟨rfl, hb⟩
    have c0 := hb.cell (p := ⟨w.heap.size, 0, none⟩) (by simp)
    have c1 := hb.cell (p := ⟨w.heap.size, 1, none⟩) (by simp)
    rw [show (w.alloc (.cells #[.bool false, .string s] 24)).cell? ⟨w.heap.size, 0, none⟩ = some (.bool false) from by simp [go_sem]] at c0
    rw [show (w.alloc (.cells #[.bool false, .string s] 24)).cell? ⟨w.heap.size, 1, none⟩ = some (.string s) from by simp [go_sem]] at c1
    have HB2 := Lib.hid (HB.out.trans (hb.mono HB.out.size))
    clear hb
    go_wp2
    repeat (go_quiet (fail); try go_wp2)
    go_ret
    exact ⟨by rw [HZ.out] <;> rfl, by first | exact HB2.out | exact bdrN HB2.out _⟩
   | true =>
    by_cases h3 : s.size = 0
    ·have HZ := Lib.hid (show chk true s = 1 by unfold chk; rw [if_neg h1, if_neg h2, if_pos ⟨rfl, h3⟩])
     obtain ⟨t2, t3⟩ := toList_nil h3
     clear h1 h2 h3
     go_enter Tryz.func48, Tryz.ntmps48
     go_wp2_with fail
     refine (HC.out _).mono ?_
     rintro e w2 ⟨rfl, hb⟩
     have c0 := hb.cell (p := ⟨w.heap.size, 0, none⟩) (by simp)
     have c1 := hb.cell (p := ⟨w.heap.size, 1, none⟩) (by simp)
     rw [show (w.alloc (.cells #[.bool true, .string s] 24)).cell? ⟨w.heap.size, 0, none⟩ = some (.bool true) from by simp [go_sem]] at c0
     rw [show (w.alloc (.cells #[.bool true, .string s] 24)).cell? ⟨w.heap.size, 1, none⟩ = some (.string s) from by simp [go_sem]] at c1
     have HB2 := Lib.hid (HB.out.trans (hb.mono HB.out.size))
     clear hb
     go_wp2
     repeat (go_quiet (fail); try go_wp2)
     go_ret
     exact ⟨by rw [HZ.out] <;> rfl, by first | exact HB2.out | exact bdrN HB2.out _⟩
    ·have HZ := Lib.hid (show chk true s = 0 by unfold chk; rw [if_neg h1, if_neg h2, if_neg (fun h => h3 h.2)])
     obtain ⟨t2, t3⟩ := toList_ne (by omega : 0 < s.size)
     clear h1 h2 h3
     go_enter Tryz.func48, Tryz.ntmps48
     go_wp2_with fail
     refine (HC.out _).mono ?_
     rintro e w2 ⟨rfl, hb⟩
     have c0 := hb.cell (p := ⟨w.heap.size, 0, none⟩) (by simp)
     have c1 := hb.cell (p := ⟨w.heap.size, 1, none⟩) (by simp)
     rw [show (w.alloc (.cells #[.bool true, .string s] 24)).cell? ⟨w.heap.size, 0, none⟩ = some (.bool true) from by simp [go_sem]] at c0
     rw [show (w.alloc (.cells #[.bool true, .string s] 24)).cell? ⟨w.heap.size, 1, none⟩ = some (.string s) from by simp [go_sem]] at c1
     have HB2 := Lib.hid (HB.out.trans (hb.mono HB.out.size))
     clear hb
     go_wp2
     repeat (go_quiet (fail); try go_wp2)
     go_ret
     exact ⟨by rw [HZ.out] <;> rfl, by first | exact HB2.out | exact bdrN HB2.out _⟩

set_option maxHeartbeats 1000000 in
theorem both_r (n1 : Bool) (s1 : ByteArray) (n2 : Bool) (s2 : ByteArray) (w : World) : Calls Tryz.prog 15 #[.agg #[.bool n1, .string s1], .agg #[.bool n2, .string s2]] w fun e w' => e = .returned (.int .i64 (bad2 n1 s1 n2 s2)) ∧ Below w.heap.size w w' := by
 have hb0 : Below w.heap.size w ((w.alloc (.cells #[.bool n1, .string s1] 24)).alloc (.cells #[.bool n2, .string s2] 24)) := ((Below.refl _ _).alloc (Nat.le_refl _) _).alloc (by simp) _
 have HB := Lib.hid hb0
 clear hb0
 have HC1 := Lib.hid (check_r n1 s1)
 have HC2 := Lib.hid (check_r n2 s2)
 have d0 : ((w.alloc (.cells #[.bool n1, .string s1] 24)).alloc (.cells #[.bool n2, .string s2] 24)).cell? ⟨w.heap.size + 1, 0, none⟩ = some (.bool n2) := by simp [go_sem]
 have d1 : ((w.alloc (.cells #[.bool n1, .string s1] 24)).alloc (.cells #[.bool n2, .string s2] 24)).cell? ⟨w.heap.size + 1, 1, none⟩ = some (.string s2) := by simp [go_sem]
 have D0 := Lib.hid d0
 have D1 := Lib.hid d1
 clear d0 d1
 by_cases h : chk n1 s1 = 0
 ·have HZ := Lib.hid (show bad2 n1 s1 n2 s2 = chk n2 s2 by unfold bad2; rw [if_neg (fun hc => hc h)])
  rw [h] at HC1
  clear h
  go_enter Tryz.func15, Tryz.ntmps15
  go_wp2_with fail
  refine (HC1.out _).mono ?_
  rintro e w2 ⟨rfl, hb⟩
  have c0 := (hb.cell (p := ⟨w.heap.size + 1, 0, none⟩) (by simp)).trans D0.out
  have c1 := (hb.cell (p := ⟨w.heap.size + 1, 1, none⟩) (by simp)).trans D1.out
  have HB2 := Lib.hid (HB.out.trans (hb.mono HB.out.size))
  clear hb
  go_wp2_with fail
  refine (HC2.out _).mono ?_
  rintro e w3 ⟨rfl, hb⟩
  have HB3 := Lib.hid (HB2.out.trans (hb.mono HB2.out.size))
  clear hb c0 c1
  go_wp2
  go_ret
  exact ⟨by rw [HZ.out] <;> rfl, HB3.out⟩
 ·have HZ := Lib.hid (show bad2 n1 s1 n2 s2 = chk n1 s1 by unfold bad2; rw [if_pos h])
  have y1 : (chk n1 s1 == 0) = false := beq_eq_false_iff_ne.mpr h
  have y2 : (chk n1 s1 != 0) = true := bne_iff_ne.mpr h
  clear h
  go_enter Tryz.func15, Tryz.ntmps15
  go_wp2_with fail
  refine (HC1.out _).mono ?_
  rintro e w2 ⟨rfl, hb⟩
  have HB2 := Lib.hid (HB.out.trans (hb.mono HB.out.size))
  clear hb
  go_wp2
  go_ret
  exact ⟨by rw [HZ.out] <;> rfl, HB2.out⟩
end Go.Proofs.YtoijlbcbbblbfaaGreatDoor

namespace Go.Proofs.YtoijlbcbbblbfaaGreatDoor
open Go.RowKit
open Num hiding B B_eq Lim sumB win sumB_congr Bp Bs sumB_bd subD subC sub_one addD addC add_one win_s win_congr take_step mul_one addp_step lv sumB_zero lv_of lv_bd lv_nil lv_trim Lim_zero win_zero sum_step Bmono sum_end len_of_lv ordN_val lv_lt_of_len ordL_val take_end win_split mul_step win_low win_bd win_change YB lv_set OfI dgt_lv
open Num32
set_option linter.unusedVariables false
set_option linter.unusedSimpArgs false

/-- A call's end: a row of digits to the base 2^32, trimmed, of a value. -/
def RowF (M : Nat) (w : World) (v : Value) (r : List Int) : Prop := ∃ g c, v = .slice (some ⟨g, 0, none⟩) r.length c ∧ M ≤ g ∧ r.length ≤ c ∧ RL w (some ⟨g, 0, none⟩) r
def RowR (v : Int) (w : World) (e : Ending) (w' : World) : Prop := ∃ x r, e = .returned x ∧ RowF w.heap.size w' x r ∧ Lim r ∧ Tr r ∧ lv r = v ∧ Below w.heap.size w w'
theorem rowR_end {w wr : World} {g N : Nat} {L : List Int} {v : Int} (hg : w.heap.size ≤ g) (hb : Blk wr g L) (hN : L.length = N) (hn : N ≤ 100000) (hL : Lim L) (hv : lv L = v) (hbel : Below w.heap.size w wr) (nd : Nat) : RowR v w (.returned (.slice (some ⟨g, 0, none⟩) (trimN L N) N)) (wr.drewN nd) := by
 subst hN
 have h1 := take_trim_len L
 exact ⟨_, L.take (trimN L L.length), rfl, ⟨_, L.length, by rw [h1], hg, by rw [h1]; exact trimN_le _ _, ((hb.RL (by omega)).take _).drN _⟩, hL.take _, Tr_trim L, (lv_trim L).trans hv, bdrN hbel _⟩
theorem trim_end {w wr : World} {g N : Nat} {L : List Int} {v : Int} (hg : w.heap.size ≤ g) (hb : Blk wr g L) (hN : L.length = N) (hn : N ≤ 100000) (hL : Lim L) (hv : lv L = v) (hbel : Below w.heap.size w wr) :
  Calls Tryz.prog 86 #[.slice (some ⟨g, 0, none⟩) N N] wr (RowR v w) :=
 (trim_r (some ⟨g, 0, none⟩) N N L hN (Nat.le_refl _) wr (hb.RL (by omega))).mono fun e w' ⟨he, ⟨nd, hd⟩⟩ => by
  subst hd
  rw [he]
  exact rowR_end hg hb hN hn hL hv hbel nd
structure OfW32 (g N8 : Nat) (s : ByteArray) (w : World) (k : Nat) (L : List Int) (w1 : World) : Prop where
 blk : Blk w1 g L
 inv : OfI (byt s) N8 k L
 only : Only g w w1

set_option maxHeartbeats 1000000 in
set_option maxRecDepth 100000 in
theorem digits_r (s : ByteArray) (h : s.size ≤ 32000) (w : World) : Calls Tryz.prog 52 #[.string s] w (RowR (nv s) w) := by
 have hb1 : Below w.heap.size w (w.alloc (.cells (madeCells #[.int .u64 0] ((s.size + 3) / 4)) 79)) := (Below.refl _ _).alloc (Nat.le_refl _) _
 have hk0 := made_blk w ((s.size + 3) / 4)
 have hmk := make_run ((s.size + 3) / 4) (by omega)
 rw [show (((s.size + 3) / 4 : Nat) : Int) = ((s.size : Int) + 3) / 4 by omega] at hmk
 have hs4 : s.size ≤ 32000 := h
 go_enter Tryz.func52, Tryz.ntmps52
 go_wp2
 obtain ⟨N8, hN8⟩ : ∃ N8, (s.size + 3) / 4 = N8 := ⟨_, rfl⟩
 rw [hN8] at hb1 hk0 ⊢
 have HN8 := Lib.hid hN8
 generalize hw3 : w.alloc (.cells (madeCells #[.int .u64 0] N8) 79) = w3 at *
 obtain ⟨g, hg⟩ : ∃ g, w.heap.size = g := ⟨_, rfl⟩
 have HB1 := Lib.hid (And.intro hb1 hg)
 rw [hg] at hk0 ⊢
 have H0 := Lib.hid (show OfW32 g N8 s w3 0 (List.replicate N8 0) w3 from ⟨hk0, OfI.start _ _, Only.refl _ _⟩)
 clear hN8 hmk hk0 hb1 hg hw3 h
 go_loopw [4] (fun t w1 => ∃ (k : Nat) (L : List Int), k ≤ s.size ∧ t = .int .i64 k ∧ OfW32 g N8 s w3 k L w1) (fun t _ => s.size - (intOf t).toNat)
 case atStart => exact ⟨0, _, Nat.zero_le _, rfl, H0.out⟩
 case round =>
  obtain ⟨k, L, hk, rfl, hI⟩ := hrel
  by_cases hlt : k < s.size
  ·have h1 : decide ((k : Int) < (s.size : Int)) = true := by simp; omega
   have ho := hI.only
   have hj8 : k / 4 < N8 := by have := HN8.out; omega
   obtain ⟨⟨s1, s2, s3⟩, s4⟩ := hI.inv.step (byt_bd s) hj8
   have hblk := hI.blk
   have hce := hblk.cell (k / 4) (by rw [hI.inv.len]; exact hj8)
   have hfr := hblk.free (k / 4)
   obtain ⟨j, hj⟩ : ∃ j, j = s.size - 1 - k := ⟨_, rfl⟩
   have hx : ∀ h : j < s.size, ((s[j]'h).toNat : Int) = byt s k := fun h => by
    unfold byt
    rw [dif_pos hlt]
    subst hj
    rfl
   obtain ⟨q8, hq8⟩ : ∃ q8, k / 4 = q8 := ⟨_, rfl⟩
   obtain ⟨e8, he8⟩ : ∃ e8, 8 * (k % 4) = e8 := ⟨_, rfl⟩
   obtain ⟨X, hX⟩ : ∃ X, byt s k * 256 ^ (k % 4) = X := ⟨_, rfl⟩
   rw [hq8] at hj8 s3 s4 hce hfr
   rw [hX] at s1 s2 s3 s4
   have hX2 : byt s k * 2 ^ e8 = X := by rw [← he8, ← Y2, hX]
   have hB : (B : Int) = 4294967296 := rfl
   rw [hB] at s2 s3
   have hl0 := (hI.inv.lim q8).1
   have a4 : IntKind.u64.wrap (byt s k * 2 ^ e8) = X := by rw [hX2]; exact wrap_u _ ⟨s1, by rw [Num.B_eq]; omega⟩
   have a7 : IntKind.u64.wrap (byt s k * 2 ^ min e8 64) = X := by rw [Nat.min_eq_left (by omega), a4]
   have a5 : IntKind.u64.wrap (lg L q8 + X) = lg L q8 + X := wrap_u _ ⟨by omega, by rw [Num.B_eq]; omega⟩
   have a6 : IntKind.u64.wrap (byt s k) = byt s k := wrap_u _ ⟨(byt_bd s k).1, by have := (byt_bd s k).2; rw [Num.B_eq]; omega⟩
   have a8 : IntKind.u64.wrap X = X := wrap_u _ ⟨s1, by rw [Num.B_eq]; omega⟩
   have b0 := (byt_bd s k).1
   have HI := Lib.hid (And.intro hblk ho)
   have HS := Lib.hid s4
   have HJ := Lib.hid (And.intro hj hk)
   have c1 := eq_true (show (q8 : Int) < (N8 : Int) by omega)
   have c2 := eq_true (show (0 : Int) ≤ (q8 : Int) by omega)
   have c3 := eq_true (show (j : Int) < (s.size : Int) by omega)
   have c4 := eq_true (show (0 : Int) ≤ (j : Int) by omega)
   have c5 := eq_true (show j < s.size by omega)
   have c6 := eq_true (show (0 : Int) ≤ (e8 : Int) by omega)
   have c7 := eq_true (show q8 < N8 from hj8)
   have a0 : IntKind.i64.wrap ((k : Int) / 4) = (q8 : Int) := by rw [show (k : Int) / 4 = (q8 : Int) by omega]; exact IntWalk.i64_in _ (by omega)
   have a1 := IntWalk.i64_in ((s.size : Int) - 1) (by omega)
   have a2 : IntKind.i64.wrap ((s.size : Int) - 1 - (k : Int)) = (j : Int) := by rw [show (s.size : Int) - 1 - (k : Int) = (j : Int) by omega]; exact IntWalk.i64_in _ (by omega)
   have a3 : IntKind.i64.wrap (((k : Int) % 4) * 8) = (e8 : Int) := by rw [show ((k : Int) % 4) * 8 = (e8 : Int) by omega]; exact IntWalk.i64_in _ (by omega)
   have d0 : (k : Int) / 4 = (q8 : Int) := by omega
   have d2 : (s.size : Int) - 1 - (k : Int) = (j : Int) := by omega
   have d3 : ((k : Int) % 4) * 8 = (e8 : Int) := by omega
   have hmd : (k : Int).tmod 4 = (k : Int) % 4 := Int.tmod_eq_emod_of_nonneg (by omega)
   have hdv : (k : Int).tdiv 4 = (k : Int) / 4 := Int.tdiv_eq_ediv_of_nonneg (by omega)
   clear hj hk hI s1 s2 s3 s4 hblk ho hq8 he8 hX hX2 hB hl0
   go_wp2
   go_region
   go_wp2
   obtain ⟨i1, i2⟩ := HI.out
   obtain ⟨hj, hk⟩ := HJ.out
   exact ⟨⟨k + 1, _, by omega, by simp, ⟨i1.set _ _, HS.out, (i2.set _ _).dr⟩⟩, by simp [intOf]; omega⟩
  ·have he : k = s.size := by omega
   subst he
   have h1 : decide ((s.size : Int) < (s.size : Int)) = false := by simp
   have HI := Lib.hid hI
   have HT := Lib.hid (trim_end (w := w) (Nat.le_of_eq HB1.out.2) hI.blk hI.inv.len (by have := HN8.out; omega) hI.inv.lim hI.inv.val (Only.below HB1.out.1 hI.only (by rw [HB1.out.2]; exact Nat.le_refl _)))
   clear hI hlt hk
   go_wp2_with fail
   refine (HT.out).mono ?_
   rintro e w4 ⟨x, r, rfl, hr⟩
   have HR := Lib.hid hr
   clear hr
   go_wp2
   go_ret
   exact ⟨x, r, rfl, HR.out⟩
end Go.Proofs.YtoijlbcbbblbfaaGreatDoor

namespace Go.Proofs.YtoijlbcbbblbfaaGreatDoor
open Go.RowKit
open Num hiding B B_eq Lim sumB win sumB_congr Bp Bs sumB_bd subD subC sub_one addD addC add_one win_s win_congr take_step mul_one addp_step lv sumB_zero lv_of lv_bd lv_nil lv_trim Lim_zero win_zero sum_step Bmono sum_end len_of_lv ordN_val lv_lt_of_len ordL_val take_end win_split mul_step win_low win_bd win_change YB lv_set OfI dgt_lv
open Num32
set_option linter.unusedVariables false
set_option linter.unusedSimpArgs false

set_option maxHeartbeats 1000000 in
set_option maxRecDepth 100000 in
theorem cmp_r (A0 A1 : Option Addr) (n m c0 c1 : Nat) (a b : List Int) (hn : a.length = n) (hm : b.length = m) (hn4 : n ≤ 100000) (hm4 : m ≤ 100000) (w : World) (ha : RL w A0 a) (hb : RL w A1 b) (hla : Lim a) (hlb : Lim b) (hta : Tr a) (htb : Tr b) :
  Calls Tryz.prog 84 #[.slice A0 n c0, .slice A1 m c1] w fun e w' => e = .returned (.int .i64 (cmpI (lv a) (lv b))) ∧ Below w.heap.size w w' := by
 have HV := Lib.hid (show ordL a b n m = cmpI (lv a) (lv b) by rw [← hn, ← hm]; exact ordL_val hla hlb hta htb)
 rw [← HV.out]
 clear HV
 unfold ordL
 by_cases hnm : n = m
 ·subst hnm
  rw [if_pos (cmpI_eq _)]
  have HA := Lib.hid ha
  have HB := Lib.hid hb
  have HN := Lib.hid (And.intro hn hm)
  have h1 : ((n : Int) != (n : Int)) = false := by simp
  clear ha hb hn hm
  go_enter Tryz.func84, Tryz.ntmps84
  go_wp2
  repeat (go_quiet (fail); try go_wp2)
  go_loopw [5] (fun t w1 => ∃ (k : Nat), k ≤ n ∧ t = .int .i64 ((k : Int) - 1) ∧ Hid (ordN a b k = ordN a b n) ∧ Dr w w1) (fun t _ => (intOf t + 1).toNat)
  case atStart => exact ⟨n, Nat.le_refl _, by first | rfl | simp, Lib.hid rfl, by repeat (first | exact Dr.refl _ | apply Dr.step)⟩
  case round =>
   obtain ⟨k, hk, rfl, HO, ⟨nd, rfl⟩⟩ := hrel
   cases k with
   | zero =>
    have h0 : decide ((0 : Int) ≤ ((0 : Nat) : Int) - 1) = false := by simp
    go_wp2
    repeat (go_quiet (fail); try go_wp2)
    go_ret
    exact ⟨by rw [← HO.out]; rfl, by repeat (first | exact Below.refl _ _ | apply bdrN)⟩
   | succ k =>
    have h0 : decide ((0 : Int) ≤ ((k + 1 : Nat) : Int) - 1) = true := by simp
    have hsub : ((k + 1 : Nat) : Int) - 1 = (k : Int) := by omega
    rw [hsub]
    have hkn : k < n := by omega
    obtain ⟨ad, rfl, hca⟩ := HA.out.2 (by rw [HN.out.1]; omega)
    obtain ⟨ad', rfl, hcb⟩ := HB.out.2 (by rw [HN.out.2]; omega)
    have ca := hca k (by rw [HN.out.1]; omega)
    have cb := hcb k (by rw [HN.out.2]; omega)
    clear hca hcb
    have HO1 := HO.out
    obtain ⟨x, hx⟩ : ∃ x, lg a k = x := ⟨_, rfl⟩
    obtain ⟨y, hy⟩ : ∃ y, lg b k = y := ⟨_, rfl⟩
    rw [hx] at ca
    rw [hy] at cb
    have hk1 : (0 : Int) ≤ (k : Int) := by omega
    rcases cmpI_cases x y with ⟨hl, hc⟩ | ⟨hl, hc⟩ | ⟨hl, hc⟩
    ·have t1 : decide (x < y) = true := decide_eq_true hl
     have HR := Lib.hid (show ordN a b n = -1 by rw [← HO1, ordN_s1 (by rw [hx, hy, hc]; decide), hx, hy, hc])
     clear hx hy hl hc HO1
     go_wp2
     repeat (go_quiet (fail); try go_wp2)
     go_ret
     exact ⟨by rw [HR.out] <;> rfl, by repeat (first | exact Below.refl _ _ | apply bdrN)⟩
    ·subst hl
     have t1 : decide (x < x) = false := by simp
     have HR := Lib.hid (show ordN a b k = ordN a b n by rw [← HO1, ordN_s0 (by rw [hx, hy]; exact cmpI_eq x)])
     clear hx hy hc HO1
     go_wp2
     repeat (go_quiet (fail); try go_wp2)
     exact ⟨⟨k, by omega, by first | rfl | simp, HR, by repeat (first | exact Dr.refl _ | apply Dr.step)⟩, by simp [intOf] <;> omega⟩
    ·have t1 : decide (x < y) = false := decide_eq_false (by omega)
     have t2 : decide (y < x) = true := decide_eq_true hl
     have HR := Lib.hid (show ordN a b n = 1 by rw [← HO1, ordN_s1 (by rw [hx, hy, hc]; decide), hx, hy, hc])
     clear hx hy hl hc HO1
     go_wp2
     repeat (go_quiet (fail); try go_wp2)
     go_ret
     exact ⟨by rw [HR.out] <;> rfl, by repeat (first | exact Below.refl _ _ | apply bdrN)⟩
 ·have h1 : ((n : Int) != (m : Int)) = true := bne_iff_ne.mpr (by omega)
  have h2 : ((n : Int) == (m : Int)) = false := beq_eq_false_iff_ne.mpr (by omega)
  have hne : cmpI (n : Int) (m : Int) ≠ 0 := fun h => hnm (cmpI_self h)
  rw [if_neg hne]
  rcases cmpI_cases (n : Int) (m : Int) with ⟨hl, hc⟩ | ⟨hl, hc⟩ | ⟨hl, hc⟩
  ·rw [hc]
   have t1 : decide ((n : Int) < (m : Int)) = true := decide_eq_true hl
   have t2 : (n < m) = True := eq_true (by omega)
   have t3 : decide (n < m) = true := decide_eq_true (by omega)
   clear ha hb hn hm hne hl hc
   go_enter Tryz.func84, Tryz.ntmps84
   go_wp2
   repeat (go_quiet (fail); try go_wp2)
   go_ret
   exact ⟨rfl, by repeat (first | exact Below.refl _ _ | apply bdrN)⟩
  ·exact absurd (by omega) hnm
  ·rw [hc]
   have t1 : decide ((n : Int) < (m : Int)) = false := decide_eq_false (by omega)
   have t2 : (n < m) = False := eq_false (by omega)
   have t3 : decide (n < m) = false := decide_eq_false (by omega)
   clear ha hb hn hm hne hl hc
   go_enter Tryz.func84, Tryz.ntmps84
   go_wp2
   repeat (go_quiet (fail); try go_wp2)
   go_ret
   exact ⟨rfl, by repeat (first | exact Below.refl _ _ | apply bdrN)⟩
end Go.Proofs.YtoijlbcbbblbfaaGreatDoor

namespace Go.Proofs.YtoijlbcbbblbfaaGreatDoor
open Go.RowKit
open Num hiding B B_eq Lim sumB win sumB_congr Bp Bs sumB_bd subD subC sub_one addD addC add_one win_s win_congr take_step mul_one addp_step lv sumB_zero lv_of lv_bd lv_nil lv_trim Lim_zero win_zero sum_step Bmono sum_end len_of_lv ordN_val lv_lt_of_len ordL_val take_end win_split mul_step win_low win_bd win_change YB lv_set OfI dgt_lv
open Num32
set_option linter.unusedVariables false
set_option linter.unusedSimpArgs false

structure AddI32 (g N : Nat) (x y : List Int) (w : World) (k : Nat) (c : Int) (L' : List Int) (w1 : World) : Prop where
 blk : Blk w1 g L'
 len : L'.length = N
 lim : Lim L'
 bit : c = 0 ∨ c = 1
 val : win L' 0 k + c * B ^ k = sumB (lg x) k + sumB (lg y) k
 only : Only g w w1
theorem AddI32.step {g N k : Nat} {x y L' : List Int} {w w1 : World} {c : Int} (h : AddI32 g N x y w k c L' w1) (hk : k < N) (hx : Lim x) (hy : Lim y) {T : Int} (hT : T = lg x k + lg y k + c) :
  AddI32 g N x y w (k + 1) (T / 4294967296) (L'.set k (T % 4294967296)) (w1.setCell ⟨g, k, none⟩ (.int .u64 (T % 4294967296))) := by
 obtain ⟨s1, s2, s3⟩ := sum_step (by rw [h.len]; exact hk) h.lim hx hy h.bit h.val
 subst hT
 exact ⟨h.blk.set _ _, by rw [List.length_set]; exact h.len, s1, s2, s3, h.only.set _ _⟩
theorem AddI32.cell {g N k : Nat} {x y L' : List Int} {w w1 : World} {c : Int} (h : AddI32 g N x y w k c L' w1) (hk : k < N) : w1.cell? ⟨g, k, none⟩ = some (.int .u64 (lg L' k)) := h.blk.cell k (by rw [h.len]; exact hk)
theorem int_max (n m : Nat) : max (n : Int) (m : Int) = ((max n m : Nat) : Int) := by omega

set_option maxHeartbeats 2000000 in
set_option maxRecDepth 100000 in
theorem add_r (A0 A1 : Option Addr) (n m c0 c1 : Nat) (a b : List Int) (hn : a.length = n) (hm : b.length = m) (hn4 : n ≤ 30000) (hm4 : m ≤ 30000) (w : World) (ha : RL w A0 a) (hb : RL w A1 b) (hla : Lim a) (hlb : Lim b) :
  Calls Tryz.prog 68 #[.slice A0 n c0, .slice A1 m c1] w (RowR (lv a + lv b) w) := by
 obtain ⟨M, hM⟩ : ∃ M, max n m = M := ⟨_, rfl⟩
 have hmk := make_run (M + 1) (by omega)
 rw [show ((M + 1 : Nat) : Int) = (M : Int) + 1 by omega] at hmk
 have hmx : max (n : Int) (m : Int) = (M : Int) := by omega
 have hmx2 : (if (n : Int) ≤ (m : Int) then (m : Int) else (n : Int)) = (M : Int) := by split <;> omega
 have hmx3 : (if (n : Int) < (m : Int) then (m : Int) else (n : Int)) = (M : Int) := by split <;> omega
 have HA := Lib.hid (And.intro ha (And.intro hn hla))
 have HB := Lib.hid (And.intro hb (And.intro hm hlb))
 have HM := Lib.hid (show n ≤ M ∧ m ≤ M ∧ M ≤ 30000 by omega)
 have hm9 : M ≤ 30000 := by omega
 clear ha hb hn hm hla hlb hM
 go_enter Tryz.func68, Tryz.ntmps68
 go_wp2
 have hb1 : Below w.heap.size w (w.alloc (.cells (madeCells #[.int .u64 0] (M + 1)) 79)) := (Below.refl _ _).alloc (Nat.le_refl _) _
 have hk0 := made_blk w (M + 1)
 have hx1 := HA.out.1.below hb1 (Nat.le_refl _)
 have hy1 := HB.out.1.below hb1 (Nat.le_refl _)
 have hax : 0 < a.length → ∀ ad, A0 = some ad → ad.block ≠ w.heap.size := fun h ad e => Nat.ne_of_lt (HA.out.1.lt h ad e)
 have hbx : 0 < b.length → ∀ ad, A1 = some ad → ad.block ≠ w.heap.size := fun h ad e => Nat.ne_of_lt (HB.out.1.lt h ad e)
 generalize hw3 : w.alloc (.cells (madeCells #[.int .u64 0] (M + 1)) 79) = w3 at *
 obtain ⟨g, hg⟩ : ∃ g, w.heap.size = g := ⟨_, rfl⟩
 have HB1 := Lib.hid (And.intro hb1 hg)
 rw [hg] at hk0 hax hbx ⊢
 have HI0 := Lib.hid (show AddI32 g (M + 1) a b w3 0 0 (List.replicate (M + 1) 0) w3 from ⟨hk0, by simp, Lim_zero _, .inl rfl, by simp [win, sumB], Only.refl _ _⟩)
 have HX := Lib.hid hx1
 have HY := Lib.hid hy1
 have HAX := Lib.hid hax
 have HBX := Lib.hid hbx
 clear hk0 hx1 hy1 hax hbx hb1 hw3 hmk hg hmx hmx2 hmx3
 go_loopw [6, 7] (fun cv t w4 => ∃ (k : Nat) (c : Int) (L' : List Int), k ≤ M + 1 ∧ t = .int .i64 k ∧ cv = .int .u64 c ∧ AddI32 g (M + 1) a b w3 k c L' w4) (fun _ t _ => M + 1 - (intOf t).toNat)
 case atStart => exact ⟨0, 0, _, Nat.zero_le _, rfl, rfl, HI0.out⟩
 case round =>
  obtain ⟨k, c, L', hk, rfl, rfl, hI⟩ := hrel
  by_cases hlt : k < M + 1
  ·have h1 : decide ((k : Int) < (M : Int) + 1) = true := by simp; omega
   have hbit : 0 ≤ c ∧ c ≤ 1 := by rcases hI.bit with h | h <;> omega
   have hce := hI.cell hlt
   have hfr := hI.blk.free k
   have HX2 := Lib.hid (HX.out.only hI.only HAX.out)
   have HY2 := Lib.hid (HY.out.only hI.only HBX.out)
   have lx := HA.out.2.2 k
   have ly := HB.out.2.2 k
   rw [show (B : Int) = 4294967296 from rfl] at lx ly
   obtain ⟨x, hx⟩ : ∃ x, lg a k = x := ⟨_, rfl⟩
   obtain ⟨y, hy⟩ : ∃ y, lg b k = y := ⟨_, rfl⟩
   rw [hx] at lx
   rw [hy] at ly
   have HXY := Lib.hid (And.intro hx hy)
   have HI := Lib.hid hI
   have HLT := Lib.hid hlt
   have z1 : (k : Int) < (M : Int) + 1 := by omega
   have z2 : k < M + 1 := hlt
   clear hI hlt hk
   by_cases hka : k < n
   ·by_cases hkb : k < m
    ·skip
     have t1 : decide ((k : Int) < (n : Int)) = true := by simp; omega
     obtain ⟨ad, rfl, hcl⟩ := HX2.out.2 (by rw [HA.out.2.1]; omega)
     have ca := hcl k (by rw [HA.out.2.1]; omega)
     rw [HXY.out.1] at ca
     clear hcl
     have t2 : decide ((k : Int) < (m : Int)) = true := by simp; omega
     obtain ⟨ad2, rfl, hcl⟩ := HY2.out.2 (by rw [HB.out.2.1]; omega)
     have cb := hcl k (by rw [HB.out.2.1]; omega)
     rw [HXY.out.2] at cb
     clear hcl
     have a1 : IntKind.u64.wrap (c + x) = c + x := wrap_u _ ⟨by omega, by rw [Num.B_eq]; omega⟩
     have a2 : IntKind.u64.wrap (c + x + y) = c + x + y := wrap_u _ ⟨by omega, by rw [Num.B_eq]; omega⟩
     have a3 : (c + x + y).tmod 4294967296 = (c + x + y) % 4294967296 := Int.tmod_eq_emod_of_nonneg (by omega)
     have a4 : (c + x + y).tdiv 4294967296 = (c + x + y) / 4294967296 := Int.tdiv_eq_ediv_of_nonneg (by omega)
     have a5 : IntKind.u64.wrap ((c + x + y) % 4294967296) = (c + x + y) % 4294967296 := wrap_u _ ⟨by omega, by rw [Num.B_eq]; omega⟩
     have a6 : IntKind.u64.wrap ((c + x + y) / 4294967296) = (c + x + y) / 4294967296 := wrap_u _ ⟨by omega, by rw [Num.B_eq]; omega⟩
     have HS := Lib.hid (HI.out.step HLT.out HA.out.2.2 HB.out.2.2 (T := c + x + y) (by rw [HXY.out.1, HXY.out.2]; omega))
     go_wp2
     exact ⟨⟨k + 1, _, _, HLT.out, by simp, rfl, HS.out⟩, by have := HLT.out; simp [intOf]; omega⟩
    ·skip
     have t1 : decide ((k : Int) < (n : Int)) = true := by simp; omega
     obtain ⟨ad, rfl, hcl⟩ := HX2.out.2 (by rw [HA.out.2.1]; omega)
     have ca := hcl k (by rw [HA.out.2.1]; omega)
     rw [HXY.out.1] at ca
     clear hcl
     have t2 : decide ((k : Int) < (m : Int)) = false := by simp; omega
     have hy0 : y = 0 := by rw [← HXY.out.2]; exact lg_out (by rw [HB.out.2.1]; omega)
     have a1 : IntKind.u64.wrap (c + x) = c + x := wrap_u _ ⟨by omega, by rw [Num.B_eq]; omega⟩
     have a3 : (c + x).tmod 4294967296 = (c + x) % 4294967296 := Int.tmod_eq_emod_of_nonneg (by omega)
     have a4 : (c + x).tdiv 4294967296 = (c + x) / 4294967296 := Int.tdiv_eq_ediv_of_nonneg (by omega)
     have a5 : IntKind.u64.wrap ((c + x) % 4294967296) = (c + x) % 4294967296 := wrap_u _ ⟨by omega, by rw [Num.B_eq]; omega⟩
     have a6 : IntKind.u64.wrap ((c + x) / 4294967296) = (c + x) / 4294967296 := wrap_u _ ⟨by omega, by rw [Num.B_eq]; omega⟩
     have HS := Lib.hid (HI.out.step HLT.out HA.out.2.2 HB.out.2.2 (T := c + x) (by rw [HXY.out.1, HXY.out.2]; omega))
     clear hy0
     go_wp2
     exact ⟨⟨k + 1, _, _, HLT.out, by simp, rfl, HS.out⟩, by have := HLT.out; simp [intOf]; omega⟩
   ·by_cases hkb : k < m
    ·skip
     have t1 : decide ((k : Int) < (n : Int)) = false := by simp; omega
     have hx0 : x = 0 := by rw [← HXY.out.1]; exact lg_out (by rw [HA.out.2.1]; omega)
     have t2 : decide ((k : Int) < (m : Int)) = true := by simp; omega
     obtain ⟨ad2, rfl, hcl⟩ := HY2.out.2 (by rw [HB.out.2.1]; omega)
     have cb := hcl k (by rw [HB.out.2.1]; omega)
     rw [HXY.out.2] at cb
     clear hcl
     have a2 : IntKind.u64.wrap (c + y) = c + y := wrap_u _ ⟨by omega, by rw [Num.B_eq]; omega⟩
     have a3 : (c + y).tmod 4294967296 = (c + y) % 4294967296 := Int.tmod_eq_emod_of_nonneg (by omega)
     have a4 : (c + y).tdiv 4294967296 = (c + y) / 4294967296 := Int.tdiv_eq_ediv_of_nonneg (by omega)
     have a5 : IntKind.u64.wrap ((c + y) % 4294967296) = (c + y) % 4294967296 := wrap_u _ ⟨by omega, by rw [Num.B_eq]; omega⟩
     have a6 : IntKind.u64.wrap ((c + y) / 4294967296) = (c + y) / 4294967296 := wrap_u _ ⟨by omega, by rw [Num.B_eq]; omega⟩
     have HS := Lib.hid (HI.out.step HLT.out HA.out.2.2 HB.out.2.2 (T := c + y) (by rw [HXY.out.1, HXY.out.2]; omega))
     clear hx0
     go_wp2
     exact ⟨⟨k + 1, _, _, HLT.out, by simp, rfl, HS.out⟩, by have := HLT.out; simp [intOf]; omega⟩
    ·skip
     have t1 : decide ((k : Int) < (n : Int)) = false := by simp; omega
     have hx0 : x = 0 := by rw [← HXY.out.1]; exact lg_out (by rw [HA.out.2.1]; omega)
     have t2 : decide ((k : Int) < (m : Int)) = false := by simp; omega
     have hy0 : y = 0 := by rw [← HXY.out.2]; exact lg_out (by rw [HB.out.2.1]; omega)
     have a3 : (c).tmod 4294967296 = (c) % 4294967296 := Int.tmod_eq_emod_of_nonneg (by omega)
     have a4 : (c).tdiv 4294967296 = (c) / 4294967296 := Int.tdiv_eq_ediv_of_nonneg (by omega)
     have a5 : IntKind.u64.wrap ((c) % 4294967296) = (c) % 4294967296 := wrap_u _ ⟨by omega, by rw [Num.B_eq]; omega⟩
     have a6 : IntKind.u64.wrap ((c) / 4294967296) = (c) / 4294967296 := wrap_u _ ⟨by omega, by rw [Num.B_eq]; omega⟩
     have HS := Lib.hid (HI.out.step HLT.out HA.out.2.2 HB.out.2.2 (T := c) (by rw [HXY.out.1, HXY.out.2]; omega))
     clear hx0
     clear hy0
     go_wp2
     exact ⟨⟨k + 1, _, _, HLT.out, by simp, rfl, HS.out⟩, by have := HLT.out; simp [intOf]; omega⟩
  ·have he : k = M + 1 := by omega
   subst he
   have h1 : decide (((M + 1 : Nat) : Int) < (M : Int) + 1) = false := by simp
   have HT := Lib.hid (trim_end (w := w) (Nat.le_of_eq HB1.out.2) hI.blk hI.len (by omega) hI.lim (sum_end hI.len hI.lim HA.out.2.2 HB.out.2.2 (by rw [HA.out.2.1]; exact HM.out.1) (by rw [HB.out.2.1]; exact HM.out.2.1) hI.bit hI.val) (Only.below HB1.out.1 hI.only (by rw [HB1.out.2]; exact Nat.le_refl _)))
   have hlen := hI.len
   clear hI hlt hk
   go_wp2_with fail
   refine (HT.out).mono ?_
   rintro e w4 ⟨x, r, rfl, hr⟩
   have HR := Lib.hid hr
   clear hr
   go_wp2
   go_ret
   exact ⟨x, r, rfl, HR.out⟩
end Go.Proofs.YtoijlbcbbblbfaaGreatDoor

namespace Go.Proofs.YtoijlbcbbblbfaaGreatDoor
open Go.RowKit
open Num hiding B B_eq Lim sumB win sumB_congr Bp Bs sumB_bd subD subC sub_one addD addC add_one win_s win_congr take_step mul_one addp_step lv sumB_zero lv_of lv_bd lv_nil lv_trim Lim_zero win_zero sum_step Bmono sum_end len_of_lv ordN_val lv_lt_of_len ordL_val take_end win_split mul_step win_low win_bd win_change YB lv_set OfI dgt_lv
open Num32
set_option linter.unusedVariables false
set_option linter.unusedSimpArgs false

theorem sub_step {L' x y : List Int} {k : Nat} {c : Int} (hk : k < L'.length) (hL : Lim L') (hx : Lim x) (hy : Lim y) (hc : c = 0 ∨ c = 1)
  (hv : win L' 0 k - c * B ^ k = sumB (lg x) k - sumB (lg y) k) :
  let L2 := L'.set k (subD (lg x k) (lg y k) c); let c2 := subC (lg x k) (lg y k) c
  Lim L2 ∧ (c2 = 0 ∨ c2 = 1) ∧ win L2 0 (k + 1) - c2 * B ^ (k + 1) = sumB (lg x) (k + 1) - sumB (lg y) (k + 1) := by
 intro L2 c2
 obtain ⟨a0, a1, a2, a3⟩ := sub_one (hx k) (hy k) hc
 refine ⟨hL.set _ ⟨a0, a1⟩, a2, ?_⟩
 have e1 : win L2 0 k = win L' 0 k := win_congr fun j hj => by
  show lg (L'.set k _) _ = _
  rw [lg_set, if_neg (by omega)]
 have e2 : lg L2 (0 + k) = subD (lg x k) (lg y k) c := by
  show lg (L'.set k _) _ = _
  rw [lg_set, if_pos ⟨by omega, hk⟩]
 rw [win_s, e1, e2, a3, show sumB (lg x) (k + 1) = sumB (lg x) k + lg x k * B ^ k from rfl, show sumB (lg y) (k + 1) = sumB (lg y) k + lg y k * B ^ k from rfl, Bs]
 have hv2 : win L' 0 k = sumB (lg x) k - sumB (lg y) k + c * B ^ k := by omega
 rw [hv2]
 show _ - subC (lg x k) (lg y k) c * (B ^ k * B) = _
 generalize subC (lg x k) (lg y k) c = q
 generalize B ^ k = p
 grind
theorem sub_end {L x y : List Int} {n : Nat} {c : Int} (hL : L.length = n) (hlim : Lim L) (hx : Lim x) (hy : Lim y) (hxn : x.length = n) (ty : Tr y) (hc : c = 0 ∨ c = 1) (hle : lv y ≤ lv x)
  (hv : win L 0 n - c * B ^ n = sumB (lg x) n - sumB (lg y) n) : lv L = lv x - lv y := by
 have hyn : y.length ≤ n := by
  apply len_of_lv ty hy
  have := (lv_bd hx).2
  rw [hxn] at this
  omega
 rw [lv_of hyn, lv_of (Nat.le_of_eq hxn)] at hv
 have e : win L 0 n = lv L := by rw [← hL]; exact win_zero L
 rw [e] at hv
 have h1 := lv_bd hlim
 rw [hL] at h1
 rcases hc with rfl | rfl
 ·omega
 ·omega
structure SubI32 (g N : Nat) (x y : List Int) (w : World) (k : Nat) (c : Int) (L' : List Int) (w1 : World) : Prop where
 blk : Blk w1 g L'
 len : L'.length = N
 lim : Lim L'
 bit : c = 0 ∨ c = 1
 val : win L' 0 k - c * B ^ k = sumB (lg x) k - sumB (lg y) k
 only : Only g w w1
theorem SubI32.step {g N k : Nat} {x y L' : List Int} {w w1 : World} {c : Int} (h : SubI32 g N x y w k c L' w1) (hk : k < N) (hx : Lim x) (hy : Lim y) {D C : Int} (hD : D = subD (lg x k) (lg y k) c) (hC : C = subC (lg x k) (lg y k) c) :
  SubI32 g N x y w (k + 1) C (L'.set k D) (w1.setCell ⟨g, k, none⟩ (.int .u64 D)) := by
 obtain ⟨s1, s2, s3⟩ := sub_step (by rw [h.len]; exact hk) h.lim hx hy h.bit h.val
 subst hD
 subst hC
 exact ⟨h.blk.set _ _, by rw [List.length_set]; exact h.len, s1, s2, s3, h.only.set _ _⟩

set_option maxHeartbeats 2000000 in
set_option maxRecDepth 100000 in
theorem sub_r (A0 A1 : Option Addr) (n m c0 c1 : Nat) (a b : List Int) (hn : a.length = n) (hm : b.length = m) (hn4 : n ≤ 30000) (hm4 : m ≤ 30000) (w : World) (ha : RL w A0 a) (hb : RL w A1 b) (hla : Lim a) (hlb : Lim b) (htb : Tr b) (hle : lv b ≤ lv a) :
  Calls Tryz.prog 85 #[.slice A0 n c0, .slice A1 m c1] w (RowR (lv a - lv b) w) := by
 have hmk := make_run n (by omega)
 have HA := Lib.hid (And.intro ha (And.intro hn hla))
 have HB := Lib.hid (And.intro hb (And.intro hm hlb))
 have HT := Lib.hid (And.intro htb hle)
 clear ha hb hn hm hla hlb htb hle
 go_enter Tryz.func85, Tryz.ntmps85
 go_wp2
 have hb1 : Below w.heap.size w (w.alloc (.cells (madeCells #[.int .u64 0] n) 79)) := (Below.refl _ _).alloc (Nat.le_refl _) _
 have hk0 := made_blk w n
 have hx1 := HA.out.1.below hb1 (Nat.le_refl _)
 have hy1 := HB.out.1.below hb1 (Nat.le_refl _)
 have hax : 0 < a.length → ∀ ad, A0 = some ad → ad.block ≠ w.heap.size := fun h ad e => Nat.ne_of_lt (HA.out.1.lt h ad e)
 have hbx : 0 < b.length → ∀ ad, A1 = some ad → ad.block ≠ w.heap.size := fun h ad e => Nat.ne_of_lt (HB.out.1.lt h ad e)
 generalize hw3 : w.alloc (.cells (madeCells #[.int .u64 0] n) 79) = w3 at *
 obtain ⟨g, hg⟩ : ∃ g, w.heap.size = g := ⟨_, rfl⟩
 have HB1 := Lib.hid (And.intro hb1 hg)
 rw [hg] at hk0 hax hbx ⊢
 have HI0 := Lib.hid (show SubI32 g n a b w3 0 0 (List.replicate n 0) w3 from ⟨hk0, by simp, Lim_zero _, .inl rfl, by simp [win, sumB], Only.refl _ _⟩)
 have HX := Lib.hid hx1
 have HY := Lib.hid hy1
 have HAX := Lib.hid hax
 have HBX := Lib.hid hbx
 clear hk0 hx1 hy1 hax hbx hb1 hw3 hmk hg
 go_loopw [6, 7] (fun cv t w4 => ∃ (k : Nat) (c : Int) (L' : List Int), k ≤ n ∧ t = .int .i64 k ∧ cv = .int .u64 c ∧ SubI32 g n a b w3 k c L' w4) (fun _ t _ => n - (intOf t).toNat)
 case atStart => exact ⟨0, 0, _, Nat.zero_le _, rfl, rfl, HI0.out⟩
 case round =>
  obtain ⟨k, c, L', hk, rfl, rfl, hI⟩ := hrel
  by_cases hlt : k < n
  ·have h1 : decide ((k : Int) < (n : Int)) = true := by simp; omega
   have hbit : 0 ≤ c ∧ c ≤ 1 := by rcases hI.bit with h | h <;> omega
   have hce := hI.blk.cell k (by rw [hI.len]; exact hlt)
   have hfr := hI.blk.free k
   have HX2 := Lib.hid (HX.out.only hI.only HAX.out)
   have HY2 := Lib.hid (HY.out.only hI.only HBX.out)
   have lx := HA.out.2.2 k
   have ly := HB.out.2.2 k
   rw [show (B : Int) = 4294967296 from rfl] at lx ly
   obtain ⟨x, hx⟩ : ∃ x, lg a k = x := ⟨_, rfl⟩
   obtain ⟨y, hy⟩ : ∃ y, lg b k = y := ⟨_, rfl⟩
   rw [hx] at lx
   rw [hy] at ly
   have HXY := Lib.hid (And.intro hx hy)
   have HI := Lib.hid hI
   have HLT := Lib.hid hlt
   have z2 : k < n := hlt
   obtain ⟨ad, rfl, hcl⟩ := HX2.out.2 (by rw [HA.out.2.1]; omega)
   have ca := hcl k (by rw [HA.out.2.1]; omega)
   rw [HXY.out.1] at ca
   clear hcl hI hlt hk
   by_cases hkb : k < m
   ·by_cases hxy : x < c + y
    ·skip
     have t2 : decide ((k : Int) < (m : Int)) = true := by simp; omega
     obtain ⟨ad2, rfl, hcl⟩ := HY2.out.2 (by rw [HB.out.2.1]; omega)
     have cb := hcl k (by rw [HB.out.2.1]; omega)
     rw [HXY.out.2] at cb
     clear hcl
     have a1 : IntKind.u64.wrap (c + y) = c + y := wrap_u _ ⟨by omega, by rw [Num.B_eq]; omega⟩
     have t3 : decide (x < c + y) = true := decide_eq_true hxy
     have a2 : IntKind.u64.wrap (x + 4294967296) = x + 4294967296 := wrap_u _ ⟨by omega, by rw [Num.B_eq]; omega⟩
     have a3 : IntKind.u64.wrap (x + 4294967296 - (c + y)) = x + 4294967296 - (c + y) := wrap_u _ ⟨by omega, by rw [Num.B_eq]; omega⟩
     have HS := Lib.hid (HI.out.step HLT.out HA.out.2.2 HB.out.2.2 (D := x + 4294967296 - (c + y)) (C := 1) (by rw [HXY.out.1, HXY.out.2]; unfold subD; rw [show (B : Int) = 4294967296 from rfl]; omega) (by rw [HXY.out.1, HXY.out.2]; unfold subC; rw [if_pos (by omega)]))
     clear hxy
     go_wp2
     exact ⟨⟨k + 1, _, _, HLT.out, by simp, rfl, HS.out⟩, by have := HLT.out; simp [intOf]; omega⟩
    ·skip
     have t2 : decide ((k : Int) < (m : Int)) = true := by simp; omega
     obtain ⟨ad2, rfl, hcl⟩ := HY2.out.2 (by rw [HB.out.2.1]; omega)
     have cb := hcl k (by rw [HB.out.2.1]; omega)
     rw [HXY.out.2] at cb
     clear hcl
     have a1 : IntKind.u64.wrap (c + y) = c + y := wrap_u _ ⟨by omega, by rw [Num.B_eq]; omega⟩
     have t3 : decide (x < c + y) = false := decide_eq_false hxy
     have a3 : IntKind.u64.wrap (x - (c + y)) = x - (c + y) := wrap_u _ ⟨by omega, by rw [Num.B_eq]; omega⟩
     have HS := Lib.hid (HI.out.step HLT.out HA.out.2.2 HB.out.2.2 (D := x - (c + y)) (C := 0) (by rw [HXY.out.1, HXY.out.2]; unfold subD; rw [show (B : Int) = 4294967296 from rfl]; omega) (by rw [HXY.out.1, HXY.out.2]; unfold subC; rw [if_neg (by omega)]))
     clear hxy
     go_wp2
     exact ⟨⟨k + 1, _, _, HLT.out, by simp, rfl, HS.out⟩, by have := HLT.out; simp [intOf]; omega⟩
   ·by_cases hxy : x < c
    ·skip
     have t2 : decide ((k : Int) < (m : Int)) = false := by simp; omega
     have hy0 : y = 0 := by rw [← HXY.out.2]; exact lg_out (by rw [HB.out.2.1]; omega)
     have t3 : decide (x < c) = true := decide_eq_true hxy
     have a2 : IntKind.u64.wrap (x + 4294967296) = x + 4294967296 := wrap_u _ ⟨by omega, by rw [Num.B_eq]; omega⟩
     have a3 : IntKind.u64.wrap (x + 4294967296 - (c)) = x + 4294967296 - (c) := wrap_u _ ⟨by omega, by rw [Num.B_eq]; omega⟩
     have HS := Lib.hid (HI.out.step HLT.out HA.out.2.2 HB.out.2.2 (D := x + 4294967296 - (c)) (C := 1) (by rw [HXY.out.1, HXY.out.2]; unfold subD; rw [show (B : Int) = 4294967296 from rfl]; omega) (by rw [HXY.out.1, HXY.out.2]; unfold subC; rw [if_pos (by omega)]))
     clear hy0
     clear hxy
     go_wp2
     exact ⟨⟨k + 1, _, _, HLT.out, by simp, rfl, HS.out⟩, by have := HLT.out; simp [intOf]; omega⟩
    ·skip
     have t2 : decide ((k : Int) < (m : Int)) = false := by simp; omega
     have hy0 : y = 0 := by rw [← HXY.out.2]; exact lg_out (by rw [HB.out.2.1]; omega)
     have t3 : decide (x < c) = false := decide_eq_false hxy
     have a3 : IntKind.u64.wrap (x - (c)) = x - (c) := wrap_u _ ⟨by omega, by rw [Num.B_eq]; omega⟩
     have HS := Lib.hid (HI.out.step HLT.out HA.out.2.2 HB.out.2.2 (D := x - (c)) (C := 0) (by rw [HXY.out.1, HXY.out.2]; unfold subD; rw [show (B : Int) = 4294967296 from rfl]; omega) (by rw [HXY.out.1, HXY.out.2]; unfold subC; rw [if_neg (by omega)]))
     clear hy0
     clear hxy
     go_wp2
     exact ⟨⟨k + 1, _, _, HLT.out, by simp, rfl, HS.out⟩, by have := HLT.out; simp [intOf]; omega⟩
  ·have he : k = n := by omega
   subst he
   have h1 : decide ((k : Int) < (k : Int)) = false := by simp
   have HTR := Lib.hid (trim_end (w := w) (Nat.le_of_eq HB1.out.2) hI.blk hI.len (by omega) hI.lim (sub_end hI.len hI.lim HA.out.2.2 HB.out.2.2 HA.out.2.1 HT.out.1 hI.bit HT.out.2 hI.val) (Only.below HB1.out.1 hI.only (by rw [HB1.out.2]; exact Nat.le_refl _)))
   clear hI hlt hk
   go_wp2_with fail
   refine (HTR.out).mono ?_
   rintro e w4 ⟨x, r, rfl, hr⟩
   have HR := Lib.hid hr
   clear hr
   go_wp2
   go_ret
   exact ⟨x, r, rfl, HR.out⟩
end Go.Proofs.YtoijlbcbbblbfaaGreatDoor

namespace Go.Proofs.YtoijlbcbbblbfaaGreatDoor
open Go.RowKit
open Num hiding B B_eq Lim sumB win sumB_congr Bp Bs sumB_bd subD subC sub_one addD addC add_one win_s win_congr take_step mul_one addp_step lv sumB_zero lv_of lv_bd lv_nil lv_trim Lim_zero win_zero sum_step Bmono sum_end len_of_lv ordN_val lv_lt_of_len ordL_val take_end win_split mul_step win_low win_bd win_change YB lv_set OfI dgt_lv
open Num32
set_option linter.unusedVariables false
set_option linter.unusedSimpArgs false

structure MulI32 (g N m : Nat) (a b : List Int) (w : World) (k : Nat) (L' : List Int) (w1 : World) : Prop where
 blk : Blk w1 g L'
 len : L'.length = N
 lim : Lim L'
 zero : ∀ j, k + m ≤ j → lg L' j = 0
 val : win L' 0 (k + m) = sumB (lg a) k * lv b
 only : Only g w w1
/-- Within a round: j digits of b are through; L is the row as the round began. -/
structure MulJ32 (g N m : Nat) (b : List Int) (w : World) (k : Nat) (x : Int) (L : List Int) (j : Nat) (c : Int) (L' : List Int) (w1 : World) : Prop where
 blk : Blk w1 g L'
 len : L'.length = N
 lim : Lim L'
 far : ∀ i, (i < k ∨ k + j ≤ i) → lg L' i = lg L i
 car : 0 ≤ c ∧ c < B
 val : win L' k j + c * B ^ j = win L k j + x * sumB (lg b) j
 only : Only g w w1
theorem MulJ32.step {g N m k j : Nat} {b L L' : List Int} {w w1 : World} {x c T : Int} (h : MulJ32 g N m b w k x L j c L' w1) (hk : k + j < N) (hx : 0 ≤ x ∧ x < B) (hb : Lim b) (hT : T = x * lg b j + lg L' (k + j) + c) :
  MulJ32 g N m b w k x L (j + 1) (T / 4294967296) (L'.set (k + j) (T % 4294967296)) (w1.setCell ⟨g, k + j, none⟩ (.int .u64 (T % 4294967296))) := by
 have hB : (B : Int) = 4294967296 := rfl
 have h1 := hb j
 have h2 := h.lim (k + j)
 have h3 := h.car
 rw [hB] at hx h1 h2 h3
 have hmul : 0 ≤ x * lg b j := Int.mul_nonneg hx.1 h1.1
 have hmul2 : x * lg b j ≤ 4294967295 * 4294967295 := Int.mul_le_mul (by omega) (by omega) h1.1 (by omega)
 have hd : T % 4294967296 + T / 4294967296 * 4294967296 = T := by omega
 obtain ⟨s1, s2, s3⟩ := addp_step (by rw [h.len]; exact hk) h.lim hb h.far (by rw [hB]; exact hx) h.car h.val (d := T % 4294967296) (c2 := T / 4294967296) (by rw [hB]; omega) (by rw [hB, hd, hT])
 exact ⟨h.blk.set _ _, by rw [List.length_set]; exact h.len, s1, s2, by rw [hB]; omega, s3, h.only.set _ _⟩
theorem MulJ32.dr {g N m k j : Nat} {b L L' : List Int} {w w1 : World} {x c : Int} (h : MulJ32 g N m b w k x L j c L' w1) : MulJ32 g N m b w k x L j c L' w1.drew := ⟨h.blk.drN 1, h.len, h.lim, h.far, h.car, h.val, h.only.dr⟩
theorem MulI32.start {g N m : Nat} {a b L : List Int} {w w1 : World} {k : Nat} (h : MulI32 g N m a b w k L w1) (x : Int) : MulJ32 g N m b w k x L 0 0 L w1 :=
 ⟨h.blk, h.len, h.lim, fun _ _ => rfl, ⟨Int.le_refl _, by decide⟩, by simp [win, sumB], h.only⟩
theorem MulJ32.done {g N m k : Nat} {a b L L' : List Int} {w w1 : World} {c : Int} (h : MulJ32 g N m b w k (lg a k) L m c L' w1) (h0 : ∀ j, k + m ≤ j → lg L j = 0) (hv : win L 0 (k + m) = sumB (lg a) k * lv b) (hk : k + m < N) (hlen : L.length = N) (hb : b.length = m) :
  MulI32 g N m a b w (k + 1) (L'.set (k + m) c) (w1.setCell ⟨g, k + m, none⟩ (.int .u64 c)) := by
 have hv2 : win L' k m + c * B ^ m = win L k m + lg a k * lv b := by
  rw [h.val, ← hb]; rfl
 obtain ⟨s1, s2, s3⟩ := mul_step (L' := L) (L2 := L') (by rw [h.len, hlen]) (by rw [hlen]; exact hk) h.lim h.far h0 h.car hv2 hv
 exact ⟨h.blk.set _ _, by rw [List.length_set]; exact h.len, s1, s2, s3, h.only.set _ _⟩

set_option maxHeartbeats 2000000 in
set_option maxRecDepth 100000 in
theorem mul_r (A0 A1 : Option Addr) (n m c0 c1 : Nat) (a b : List Int) (hn : a.length = n) (hm : b.length = m) (hn4 : n ≤ 30000) (hm4 : m ≤ 30000) (w : World) (ha : RL w A0 a) (hb : RL w A1 b) (hla : Lim a) (hlb : Lim b) :
  Calls Tryz.prog 67 #[.slice A0 n c0, .slice A1 m c1] w (RowR (lv a * lv b) w) := by
 have hmk := make_run (n + m) (by omega)
 rw [show ((n + m : Nat) : Int) = (n : Int) + (m : Int) by omega] at hmk
 have HA := Lib.hid (And.intro ha (And.intro hn hla))
 have HB := Lib.hid (And.intro hb (And.intro hm hlb))
 clear ha hb hn hm hla hlb
 go_enter Tryz.func67, Tryz.ntmps67
 go_wp2
 have hb1 : Below w.heap.size w (w.alloc (.cells (madeCells #[.int .u64 0] (n + m)) 79)) := (Below.refl _ _).alloc (Nat.le_refl _) _
 have hk0 := made_blk w (n + m)
 have hx1 := HA.out.1.below hb1 (Nat.le_refl _)
 have hy1 := HB.out.1.below hb1 (Nat.le_refl _)
 have hax : 0 < a.length → ∀ ad, A0 = some ad → ad.block ≠ w.heap.size := fun h ad e => Nat.ne_of_lt (HA.out.1.lt h ad e)
 have hbx : 0 < b.length → ∀ ad, A1 = some ad → ad.block ≠ w.heap.size := fun h ad e => Nat.ne_of_lt (HB.out.1.lt h ad e)
 generalize hw3 : w.alloc (.cells (madeCells #[.int .u64 0] (n + m)) 79) = w3 at *
 obtain ⟨g, hg⟩ : ∃ g, w.heap.size = g := ⟨_, rfl⟩
 have HB1 := Lib.hid (And.intro hb1 hg)
 rw [hg] at hk0 hax hbx ⊢
 have HI0 := Lib.hid (show MulI32 g (n + m) m a b w3 0 (List.replicate (n + m) 0) w3 from ⟨hk0, by simp, Lim_zero _, fun j _ => lg_replicate _ _, by
  have : win (List.replicate (n + m) 0) 0 (0 + m) = 0 := sumB_zero (m := 0) (by omega) fun j _ _ => lg_replicate _ _
  rw [this]; simp [sumB], Only.refl _ _⟩)
 have HX := Lib.hid hx1
 have HY := Lib.hid hy1
 have HAX := Lib.hid hax
 have HBX := Lib.hid hbx
 clear hk0 hx1 hy1 hax hbx hb1 hw3 hmk hg
 go_loopg [6] n (fun gk t w4 => ∃ (k : Nat) (L : List Int), Hid (gk = n - k ∧ k ≤ n) ∧ t = .int .i64 k ∧ Hid (MulI32 g (n + m) m a b w3 k L w4))
 case atStart => exact ⟨0, _, Lib.hid ⟨rfl, Nat.zero_le _⟩, rfl, HI0⟩
 case round =>
  obtain ⟨k, L, hgk, rfl, HI⟩ := hrel
  by_cases hlt : k < n
  ·have h1 : decide ((k : Int) < (n : Int)) = true := by simp; omega
   obtain ⟨x, hx⟩ : ∃ x, lg a k = x := ⟨_, rfl⟩
   have lx := HA.out.2.2 k
   rw [show (B : Int) = 4294967296 from rfl, hx] at lx
   have HLX := Lib.hid (And.intro hx lx)
   have HLT := Lib.hid hlt
   have HJ0 := Lib.hid (HI.out.start x)
   have z1 : k < n := hlt
   clear hlt hx
   go_wp2
   go_loopg [7, 8] m (fun gj cv t w5 => ∃ (j : Nat) (c : Int) (L' : List Int), Hid (gj = m - j ∧ j ≤ m) ∧ t = .int .i64 j ∧ cv = .int .u64 c ∧ Hid (MulJ32 g (n + m) m b w3 k x L j c L' w5))
   case atStart => exact ⟨0, 0, _, Lib.hid ⟨rfl, Nat.zero_le _⟩, rfl, rfl, HJ0⟩
   case round =>
    obtain ⟨j, c, L', hgj, rfl, rfl, HJ⟩ := hrel
    by_cases hlt : j < m
    ·have h2 : decide ((j : Int) < (m : Int)) = true := by simp; omega
     obtain ⟨ad, rfl, hcl⟩ := (HX.out.only HJ.out.only HAX.out).2 (by rw [HA.out.2.1]; omega)
     have ca := hcl k (by rw [HA.out.2.1]; omega)
     rw [HLX.out.1] at ca
     obtain ⟨ad2, rfl, hcl2⟩ := (HY.out.only HJ.out.only HBX.out).2 (by rw [HB.out.2.1]; omega)
     have cb := hcl2 j (by rw [HB.out.2.1]; omega)
     obtain ⟨y, hy⟩ : ∃ y, lg b j = y := ⟨_, rfl⟩
     have ly := HB.out.2.2 j
     rw [show (B : Int) = 4294967296 from rfl, hy] at ly
     rw [hy] at cb
     have hce := HJ.out.blk.cell (k + j) (by rw [HJ.out.len]; omega)
     have hfr := HJ.out.blk.free (k + j)
     obtain ⟨t, ht⟩ : ∃ t, lg L' (k + j) = t := ⟨_, rfl⟩
     have lt := HJ.out.lim (k + j)
     rw [show (B : Int) = 4294967296 from rfl, ht] at lt
     rw [ht] at hce
     have lc := HJ.out.car
     rw [show (B : Int) = 4294967296 from rfl] at lc
     obtain ⟨P, hP⟩ : ∃ P, x * y = P := ⟨_, rfl⟩
     have p0 : 0 ≤ P := by rw [← hP]; exact Int.mul_nonneg lx.1 ly.1
     have p1 : P ≤ 18446744065119617025 := by
      rw [← hP]
      have : x * y ≤ 4294967295 * 4294967295 := Int.mul_le_mul (by omega) (by omega) ly.1 (by omega)
      omega
     have HS := Lib.hid (HJ.out.step (by omega) (by rw [show (B : Int) = 4294967296 from rfl]; exact lx) HB.out.2.2 (T := P + t + c) (by rw [hy, ht, hP]))
     have a0 : IntKind.u64.wrap P = P := wrap_u _ ⟨by omega, by rw [Num.B_eq]; omega⟩
     have a1 : IntKind.u64.wrap (P + t) = P + t := wrap_u _ ⟨by omega, by rw [Num.B_eq]; omega⟩
     have a2 : IntKind.u64.wrap (P + t + c) = P + t + c := wrap_u _ ⟨by omega, by rw [Num.B_eq]; omega⟩
     have a3 : (P + t + c).tmod 4294967296 = (P + t + c) % 4294967296 := Int.tmod_eq_emod_of_nonneg (by omega)
     have a4 : (P + t + c).tdiv 4294967296 = (P + t + c) / 4294967296 := Int.tdiv_eq_ediv_of_nonneg (by omega)
     have a5 : IntKind.u64.wrap ((P + t + c) % 4294967296) = (P + t + c) % 4294967296 := wrap_u _ ⟨by omega, by rw [Num.B_eq]; omega⟩
     have a6 : IntKind.u64.wrap ((P + t + c) / 4294967296) = (P + t + c) / 4294967296 := wrap_u _ ⟨by omega, by rw [Num.B_eq]; omega⟩
     have z3 : j < m := hlt
     have z4 : k + j < n + m := by omega
     have z5 : (k : Int) + (j : Int) < (n : Int) + (m : Int) := by omega
     have HLT2 := Lib.hid hlt
     clear hcl hcl2 ht hy hlt
     go_wp2
     go_region
     go_wp2
     go_roundg (m - (j + 1))
     case measure => have := hgj.out; have := HLT2.out; omega
     case rel => exact ⟨j + 1, _, _, Lib.hid ⟨rfl, HLT2.out⟩, by simp, rfl, Lib.hid HS.out.dr⟩
    ·have hjm : j = m := by have := hgj.out.2; omega
     subst hjm
     have h2 : decide ((j : Int) < (j : Int)) = false := by simp
     have hkn := HLT.out
     have hce := HJ.out.blk.cell (k + j) (by rw [HJ.out.len]; omega)
     have hfr := HJ.out.blk.free (k + j)
     have HJ2 := HJ.out
     rw [← HLX.out.1] at HJ2
     have HD := Lib.hid (HJ2.done HI.out.zero HI.out.val (by omega) HI.out.len HB.out.2.1)
     have z4 : k + j < n + j := by omega
     have z5 : (k : Int) + (j : Int) < (n : Int) + (j : Int) := by omega
     clear hlt HJ2 hkn
     go_wp2
     go_roundg (n - (k + 1))
     case measure => have := hgk.out; have := HLT.out; omega
     case rel => exact ⟨k + 1, _, Lib.hid ⟨rfl, HLT.out⟩, by simp, HD⟩
  ·have he : k = n := by have := hgk.out.2; omega
   subst he
   have h1 : decide ((k : Int) < (k : Int)) = false := by simp
   have hlv : lv L = lv a * lv b := by
    have h2 := HI.out.val
    have h3 := HI.out.len
    rw [← h3, win_zero] at h2
    rw [h2]
    unfold lv
    rw [HA.out.2.1]
   have HTR := Lib.hid (trim_end (w := w) (Nat.le_of_eq HB1.out.2) HI.out.blk HI.out.len (by omega) HI.out.lim hlv (Only.below HB1.out.1 HI.out.only (by rw [HB1.out.2]; exact Nat.le_refl _)))
   clear hlv hlt
   go_wp2_with fail
   refine (HTR.out).mono ?_
   rintro e w4 ⟨x, r, rfl, hr⟩
   have HR := Lib.hid hr
   clear hr
   go_wp2
   go_ret
   exact ⟨x, r, rfl, HR.out⟩
end Go.Proofs.YtoijlbcbbblbfaaGreatDoor

namespace Go.Proofs.YtoijlbcbbblbfaaGreatDoor
open Go.RowKit
open Num hiding B B_eq Lim sumB win sumB_congr Bp Bs sumB_bd subD subC sub_one addD addC add_one win_s win_congr take_step mul_one addp_step lv sumB_zero lv_of lv_bd lv_nil lv_trim Lim_zero win_zero sum_step Bmono sum_end len_of_lv ordN_val lv_lt_of_len ordL_val take_end win_split mul_step win_low win_bd win_change YB lv_set OfI dgt_lv
open Num32
set_option linter.unusedVariables false
set_option linter.unusedSimpArgs false

structure DblI32 (g N : Nat) (x : List Int) (b0 : Int) (w : World) (k : Nat) (c : Int) (L' : List Int) (w1 : World) : Prop where
 blk : Blk w1 g L'
 len : L'.length = N
 lim : Lim L'
 bit : c = 0 ∨ c = 1
 val : win L' 0 k + c * B ^ k = 2 * sumB (lg x) k + b0
 only : Only g w w1
theorem dbl_step {L' x : List Int} {k : Nat} {c b0 : Int} (hk : k < L'.length) (hL : Lim L') (hx : Lim x) (hc : c = 0 ∨ c = 1)
  (hv : win L' 0 k + c * B ^ k = 2 * sumB (lg x) k + b0) {T : Int} (hT : T = 2 * lg x k + c) :
  let L2 := L'.set k (T % 4294967296); let c2 := T / 4294967296
  Lim L2 ∧ (c2 = 0 ∨ c2 = 1) ∧ win L2 0 (k + 1) + c2 * B ^ (k + 1) = 2 * sumB (lg x) (k + 1) + b0 := by
 intro L2 c2
 have hB : (B : Int) = 4294967296 := rfl
 have h1 := hx k
 rw [hB] at h1
 refine ⟨hL.set _ (by rw [hB]; omega), by show T / 4294967296 = 0 ∨ T / 4294967296 = 1; omega, ?_⟩
 have e1 : win L2 0 k = win L' 0 k := win_congr fun j hj => by
  show lg (L'.set k _) _ = _
  rw [lg_set, if_neg (by omega)]
 have e2 : lg L2 (0 + k) = T % 4294967296 := by
  show lg (L'.set k _) _ = _
  rw [lg_set, if_pos ⟨by omega, hk⟩]
 have hd : T % 4294967296 + T / 4294967296 * 4294967296 = T := by omega
 rw [win_s, e1, e2, show sumB (lg x) (k + 1) = sumB (lg x) k + lg x k * B ^ k from rfl, Bs]
 have hv2 : win L' 0 k = 2 * sumB (lg x) k + b0 - c * B ^ k := by omega
 rw [hv2]
 show _ + T / 4294967296 * (B ^ k * B) = _
 have e3 : T % 4294967296 * B ^ k + T / 4294967296 * (B ^ k * B) = T * B ^ k := by
  rw [← hd]
  generalize T % 4294967296 = u
  generalize T / 4294967296 = v
  generalize B ^ k = p
  rw [hB]
  grind
 have e4 : 2 * sumB (lg x) k + b0 - c * B ^ k + T % 4294967296 * B ^ k + T / 4294967296 * (B ^ k * B) = 2 * sumB (lg x) k + b0 - c * B ^ k + T * B ^ k := by
  rw [← e3]; omega
 rw [e4, hT]
 generalize B ^ k = p
 grind
theorem dbl_end {L x : List Int} {n : Nat} {c b0 : Int} (hL : L.length = n + 1) (hx : x.length = n) (hc : c = 0 ∨ c = 1) (hv : win L 0 n + c * B ^ n = 2 * sumB (lg x) n + b0) : lv (L.set n c) = 2 * lv x + b0 := by
 have e : lv (L.set n c) = win (L.set n c) 0 (n + 1) := by
  have := win_zero (L.set n c)
  rw [List.length_set, hL] at this
  exact this.symm
 rw [e, win_s]
 have e1 : win (L.set n c) 0 n = win L 0 n := win_congr fun j hj => by rw [lg_set, if_neg (by omega)]
 have e2 : lg (L.set n c) (0 + n) = c := by rw [lg_set, if_pos ⟨by omega, by omega⟩]
 rw [e1, e2, hv, show lv x = sumB (lg x) n from by unfold lv; rw [hx]]

set_option maxHeartbeats 2000000 in
set_option maxRecDepth 100000 in
theorem double_r (A0 : Option Addr) (n c0 : Nat) (a : List Int) (b0 : Int) (hb0 : b0 = 0 ∨ b0 = 1) (hn : a.length = n) (hn4 : n ≤ 60000) (w : World) (ha : RL w A0 a) (hla : Lim a) :
  Calls Tryz.prog 83 #[.slice A0 n c0, .int .u64 b0] w (RowR (2 * lv a + b0) w) := by
 have hmk := make_run (n + 1) (by omega)
 rw [show ((n + 1 : Nat) : Int) = (n : Int) + 1 by omega] at hmk
 have HA := Lib.hid (And.intro ha (And.intro hn hla))
 have HBT := Lib.hid hb0
 clear ha hn hla hb0
 go_enter Tryz.func83, Tryz.ntmps83
 go_wp2
 have hb1 : Below w.heap.size w (w.alloc (.cells (madeCells #[.int .u64 0] (n + 1)) 79)) := (Below.refl _ _).alloc (Nat.le_refl _) _
 have hk0 := made_blk w (n + 1)
 have hx1 := HA.out.1.below hb1 (Nat.le_refl _)
 have hax : 0 < a.length → ∀ ad, A0 = some ad → ad.block ≠ w.heap.size := fun h ad e => Nat.ne_of_lt (HA.out.1.lt h ad e)
 generalize hw3 : w.alloc (.cells (madeCells #[.int .u64 0] (n + 1)) 79) = w3 at *
 obtain ⟨g, hg⟩ : ∃ g, w.heap.size = g := ⟨_, rfl⟩
 have HB1 := Lib.hid (And.intro hb1 hg)
 rw [hg] at hk0 hax ⊢
 have HI0 := Lib.hid (show DblI32 g (n + 1) a b0 w3 0 b0 (List.replicate (n + 1) 0) w3 from ⟨hk0, by simp, Lim_zero _, HBT.out, by simp [win, sumB], Only.refl _ _⟩)
 have HX := Lib.hid hx1
 have HAX := Lib.hid hax
 clear hk0 hx1 hax hb1 hw3 hmk hg
 go_loopw [1, 6] (fun cv t w4 => ∃ (k : Nat) (c : Int) (L' : List Int), k ≤ n ∧ t = .int .i64 k ∧ cv = .int .u64 c ∧ DblI32 g (n + 1) a b0 w3 k c L' w4) (fun _ t _ => n - (intOf t).toNat)
 case atStart => exact ⟨0, b0, _, Nat.zero_le _, rfl, rfl, HI0.out⟩
 case round =>
  obtain ⟨k, c, L', hk, rfl, rfl, hI⟩ := hrel
  have hbit : 0 ≤ c ∧ c ≤ 1 := by rcases hI.bit with h | h <;> omega
  by_cases hlt : k < n
  ·have h1 : decide ((k : Int) < (n : Int)) = true := by simp; omega
   have hce := hI.blk.cell k (by rw [hI.len]; omega)
   have hfr := hI.blk.free k
   have HX2 := Lib.hid (HX.out.only hI.only HAX.out)
   have lx := HA.out.2.2 k
   rw [show (B : Int) = 4294967296 from rfl] at lx
   obtain ⟨x, hx⟩ : ∃ x, lg a k = x := ⟨_, rfl⟩
   rw [hx] at lx
   obtain ⟨ad, rfl, hcl⟩ := HX2.out.2 (by rw [HA.out.2.1]; omega)
   have ca := hcl k (by rw [HA.out.2.1]; omega)
   rw [hx] at ca
   obtain ⟨s1, s2, s3⟩ := dbl_step (T := 2 * x + c) (by rw [hI.len]; omega) hI.lim HA.out.2.2 hI.bit hI.val (by rw [hx])
   have HS := Lib.hid (show DblI32 g (n + 1) a b0 w3 (k + 1) ((2 * x + c) / 4294967296) (L'.set k ((2 * x + c) % 4294967296)) (wr.setCell ⟨g, k, none⟩ (.int .u64 ((2 * x + c) % 4294967296))) from ⟨hI.blk.set _ _, by rw [List.length_set]; exact hI.len, s1, s2, s3, hI.only.set _ _⟩)
   have a0 : IntKind.u64.wrap (2 * x) = 2 * x := wrap_u _ ⟨by omega, by rw [Num.B_eq]; omega⟩
   have a1 : IntKind.u64.wrap (2 * x + c) = 2 * x + c := wrap_u _ ⟨by omega, by rw [Num.B_eq]; omega⟩
   have a3 : (2 * x + c).tmod 4294967296 = (2 * x + c) % 4294967296 := Int.tmod_eq_emod_of_nonneg (by omega)
   have a4 : (2 * x + c).tdiv 4294967296 = (2 * x + c) / 4294967296 := Int.tdiv_eq_ediv_of_nonneg (by omega)
   have a5 : IntKind.u64.wrap ((2 * x + c) % 4294967296) = (2 * x + c) % 4294967296 := wrap_u _ ⟨by omega, by rw [Num.B_eq]; omega⟩
   have a6 : IntKind.u64.wrap ((2 * x + c) / 4294967296) = (2 * x + c) / 4294967296 := wrap_u _ ⟨by omega, by rw [Num.B_eq]; omega⟩
   have z1 : k < n := hlt
   have z2 : k < n + 1 := by omega
   have z3 : (k : Int) < (n : Int) + 1 := by omega
   have HLT := Lib.hid hlt
   clear hcl hx s1 s2 s3 hI hlt hk
   go_wp2
   exact ⟨⟨k + 1, _, _, HLT.out, by simp, rfl, HS.out⟩, by have := HLT.out; simp [intOf]; omega⟩
  ·have he : k = n := by omega
   subst he
   have h1 : decide ((k : Int) < (k : Int)) = false := by simp
   have hce := hI.blk.cell k (by rw [hI.len]; omega)
   have hfr := hI.blk.free k
   have z2 : k < k + 1 := by omega
   have z3 : (k : Int) < (k : Int) + 1 := by omega
   have HTR := Lib.hid (trim_end (w := w) (N := k + 1) (Nat.le_of_eq HB1.out.2) (hI.blk.set k c) (by rw [List.length_set]; exact hI.len) (by omega) (hI.lim.set k (by rw [show (B : Int) = 4294967296 from rfl]; omega)) (dbl_end hI.len HA.out.2.1 hI.bit hI.val) (Only.below HB1.out.1 (hI.only.set k (.int .u64 c)) (by rw [HB1.out.2]; exact Nat.le_refl _)))
   clear hI hlt hk
   go_wp2_with fail
   refine (HTR.out).mono ?_
   rintro e w4 ⟨x, r, rfl, hr⟩
   have HR := Lib.hid hr
   clear hr
   go_wp2
   go_ret
   exact ⟨x, r, rfl, HR.out⟩
end Go.Proofs.YtoijlbcbbblbfaaGreatDoor
