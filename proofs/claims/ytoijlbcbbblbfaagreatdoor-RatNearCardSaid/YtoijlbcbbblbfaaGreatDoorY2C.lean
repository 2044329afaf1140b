import Derived.Test.YtoijlbcbbblbfaaGreatDoorY2B
import Derived.Deep.OwnRows
import Derived.Laws.OwnMore
import Derived.Laws.NewBlocks
import Derived.Deep.DeepCutAuto
import Derived.Deep.CutBlock
import Derived.Tactics2
namespace Go.Proofs.YtoijlbcbbblbfaaGreatDoor
open Go.RowKit Num Go.Lib
set_option linter.unusedVariables false
set_option linter.unusedSimpArgs false

set_option maxHeartbeats 400000 in
theorem long_no (ad : Addr) (n c : Nat) (w : World) (hn : n ≤ 4000)
  (h : ∀ j, j < n → ∃ (A : Option Addr) (l c' : Nat), w.cell? (ad.add j) = some (.slice A l c') ∧ l ≤ 4000) :
  Calls Tryz.prog 106 #[.slice (some ad) n c] w fun e w' => e = .returned (.bool false) ∧ w = w' := by
 have H := Lib.hid h
 clear h
 go_enter Tryz.func106, Tryz.ntmps106
 go_wp2
 go_loop [4, 7] (fun _ t => ∃ k : Nat, k ≤ n ∧ t = .int .i64 k) (fun _ t => n - (intOf t).toNat)
 case atStart => exact ⟨0, Nat.zero_le _, rfl⟩
 case round =>
  obtain ⟨k, hk, rfl⟩ := hrel
  by_cases hlt : k < n
  ·obtain ⟨A, l, c', hc, hl⟩ := H.out k hlt
   have h1 : decide ((k : Int) < (n : Int)) = true := by simp; omega
   have h2 : decide ((4000 : Int) < (l : Int)) = false := by simp; omega
   go_wp2
   exact ⟨⟨k + 1, by omega, by go_num⟩, by simp [intOf]; omega⟩
  ·have h1 : decide ((k : Int) < (n : Int)) = false := by simp; omega
   go_wp2
   go_ret
   exact ⟨rfl, rfl⟩

set_option maxHeartbeats 400000 in
theorem at_c (A0 : Option Addr) (n c0 : Nat) (l : List Int) (i : Int) (hn : l.length = n) (h0 : 0 ≤ i) (w : World) (hr : RL w A0 l) :
  Calls Tryz.prog 129 #[.slice A0 n c0, .int .i64 i] w fun e w' => e = .returned (.int .u64 (lg l i.toNat)) ∧ w = w' := by
 obtain ⟨k, rfl⟩ := Int.eq_ofNat_of_zero_le h0
 rw [Int.toNat_natCast]
 have hl := hr.1
 by_cases hlt : k < n
 ·obtain ⟨ad, rfl, hc⟩ := hr.2 (by omega)
  have hc1 := hc k (by omega)
  have h1 : decide ((k : Int) < (n : Int)) = true := by simp; omega
  clear hc hr hn hl
  go_enter Tryz.func129, Tryz.ntmps129
  go_wp2
  go_ret
  exact ⟨rfl, rfl⟩
 ·have h1 : decide ((k : Int) < (n : Int)) = false := by simp; omega
  have hz : lg l k = 0 := lg_out (by omega)
  rw [hz]
  clear hr hn hl hz
  go_enter Tryz.func129, Tryz.ntmps129
  go_wp2
  go_ret
  exact ⟨rfl, rfl⟩

theorem long2 (w : World) (A0 A1 : Option Addr) (n m c0 c1 : Nat) (hn : n ≤ 4000) (hm : m ≤ 4000) :
  Calls Tryz.prog 106 #[.slice (some ⟨w.heap.size, 0, none⟩) 2 2] (w.alloc (.cells #[.slice A0 n c0, .slice A1 m c1] 63)) fun e w' => e = .returned (.bool false) ∧ w.alloc (.cells #[.slice A0 n c0, .slice A1 m c1] 63) = w' := by
 refine long_no _ _ _ _ (by omega) (fun j hj => ?_)
 match j, hj with
 | 0, _ => exact ⟨A0, n, c0, by simp [Addr.add, go_sem], hn⟩
 | 1, _ => exact ⟨A1, m, c1, by simp [Addr.add, go_sem], hm⟩
theorem long1 (w : World) (A0 : Option Addr) (n c0 : Nat) (hn : n ≤ 4000) :
  Calls Tryz.prog 106 #[.slice (some ⟨w.heap.size, 0, none⟩) 1 1] (w.alloc (.cells #[.slice A0 n c0] 63)) fun e w' => e = .returned (.bool false) ∧ w.alloc (.cells #[.slice A0 n c0] 63) = w' := by
 refine long_no _ _ _ _ (by omega) (fun j hj => ?_)
 match j, hj with
 | 0, _ => exact ⟨A0, n, c0, by simp [Addr.add, go_sem], hn⟩
/-! rows that are made -/
theorem u64_info : (Tryz.prog.info? 79).map (fun i => (i.zero, i.size, i.bytes)) = some (some (.int .u64 0), 1, 8) := by kernel_rfl
theorem make_run (n : Nat) (hn : n ≤ 100000) (w : World) : (Instr.makeSlice 63 (.int .i64 (n : Int)) (.int .i64 (n : Int))).run Tryz.prog w = .ok (.slice (some ⟨w.heap.size, 0, none⟩) n n) (w.alloc (.cells (madeCells #[.int .u64 0] n) 79)) :=
 run_make_row' 63 79 (.int .u64 0) 8 Tryz.underlying63 u64_info (by kernel_rfl) .i64 .i64 n (by omega) (by omega) w
theorem made_blk (w : World) (n : Nat) : Blk (w.alloc (.cells (madeCells #[.int .u64 0] n) 79)) w.heap.size (List.replicate n 0) := by
 refine ⟨madeCells #[.int .u64 0] n, ?_, by rw [size_madeCells]; simp, fun j hj => ?_⟩
 ·rw [show (w.alloc (.cells (madeCells #[.int .u64 0] n) 79)).heap = w.heap.push (.cells (madeCells #[.int .u64 0] n) 79) from rfl, Array.getElem?_push_size]
 ·rw [lg_replicate]
  rw [List.length_replicate] at hj
  have : (madeCells #[.int .u64 0] n).toList[j]? = some (.int .u64 0) := by rw [toList_madeCells_one]; simp [hj]
  simpa using this
/-- A call's end: a row of limbs, trimmed, of a value; no error. -/
def ResP (v : Int) (w : World) (e : Ending) (w' : World) : Prop := ∃ x r, e = .returned (.tuple #[x, .int .i64 0]) ∧ IsRow w' x r ∧ Lim r ∧ Tr r ∧ lv r = v ∧ Below w.heap.size w w'

theorem resP_end {w wr : World} {A : Option Addr} {L : List Int} {n nd : Nat} {v : Int} (hn : L.length = n) (hr : RL wr A L) (hl : Lim L) (hv : lv L = v) (hb : Below w.heap.size w wr) :
  ResP v w (.returned (.tuple #[.slice A (trimN L n) (trimN L n), .int .i64 0])) (wr.drewN nd) := by
 subst hn
 exact ⟨_, L.take (trimN L L.length), rfl, ⟨A, _, by rw [take_trim_len], by rw [take_trim_len]; exact Nat.le_refl _, (hr.take _).drN _⟩, hl.take _, Tr_trim _, by rw [lv_trim]; exact hv, bdrN hb _⟩

structure AddI (g : Nat) (N : Nat) (x y : List Int) (w : World) (k : Nat) (c : Int) (L' : List Int) (w1 : World) : Prop where
 blk : Blk w1 g L'
 len : L'.length = N
 lim : Lim L'
 bit : c = 0 ∨ c = 1
 val : win L' 0 k + c * B ^ k = sumB (lg x) k + sumB (lg y) k
 only : Only g w w1

set_option maxHeartbeats 1000000 in
theorem add_c (A0 A1 : Option Addr) (n m c0 c1 : Nat) (a b : List Int) (hn : a.length = n) (hm : b.length = m) (hn4 : n ≤ 4000) (hm4 : m ≤ 4000) (w : World) (ha : RL w A0 a) (hb : RL w A1 b) (hla : Lim a) (hlb : Lim b) :
  Calls Tryz.prog 103 #[.slice A0 n c0, .slice A1 m c1] w (ResP (lv a + lv b) w) := by
 have HA := Lib.hid ha
 have HN := Lib.hid hn
 have HB := Lib.hid hb
 have HM := Lib.hid hm
 have HLA := Lib.hid hla
 have HLB := Lib.hid hlb
 clear ha hn hb hm hla hlb
 go_enter Tryz.func103, Tryz.ntmps103
 go_wp2_with fail
 refine (long2 _ _ _ _ _ _ _ hn4 hm4).mono ?_
 rintro e w' ⟨rfl, rfl⟩
 have hb0 : Below w.heap.size w (w.alloc (.cells #[.slice A0 n c0, .slice A1 m c1] 63)) := (Below.refl _ _).alloc (Nat.le_refl _) _
 generalize hw1 : w.alloc (.cells #[.slice A0 n c0, .slice A1 m c1] 63) = w1 at *
 have HA1 := Lib.hid (HA.out.below hb0 (Nat.le_refl _))
 have HB1 := Lib.hid (HB.out.below hb0 (Nat.le_refl _))
 have HS := Lib.hid hb0
 clear hb0 hw1
 go_upto_if 18 with fail
 go_cut [0, 1] (fun s t w2 => ∃ (X Y : Option Addr) (p q cx cy : Nat) (x y : List Int), s = .slice X p cx ∧ t = .slice Y q cy ∧ q ≤ p ∧ p ≤ 4000 ∧ Hid (x.length = p ∧ y.length = q ∧ RL w1 X x ∧ RL w1 Y y ∧ Lim x ∧ Lim y ∧ lv x + lv y = lv a + lv b) ∧ w1 = w2)
 case first =>
  by_cases hlt : n < m
  ·have h1 : decide (n < m) = true := by simpa using hlt
   go_wp2
   go_meet
   exact ⟨A1, A0, m, n, c1, c0, b, a, rfl, rfl, by omega, by omega, ⟨HM.out, HN.out, HB1.out, HA1.out, HLB.out, HLA.out, by omega⟩, rfl⟩
  ·have h1 : decide (n < m) = false := by simpa using hlt
   go_wp2
   go_meet
   exact ⟨A0, A1, n, m, c0, c1, a, b, rfl, rfl, by omega, by omega, ⟨HN.out, HM.out, HA1.out, HB1.out, HLA.out, HLB.out, rfl⟩, rfl⟩
 case rest =>
  obtain ⟨X, Y, p, q, cx, cy, x, y, rfl, rfl, hqp, hp, HH, rfl⟩ := hcut
  have hmk := make_run (p + 1) (by omega)
  rw [show ((p + 1 : Nat) : Int) = (p : Int) + 1 by omega] at hmk
  go_wp2
  have hb1 : Below w1.heap.size w1 (w1.alloc (.cells (madeCells #[.int .u64 0] (p + 1)) 79)) := (Below.refl _ _).alloc (Nat.le_refl _) _
  have hk0 := made_blk w1 (p + 1)
  have hsz := HS.out.size
  generalize hg : w1.heap.size = g at *
  obtain ⟨hxl, hyl, hx, hy, hlx, hly, hsum⟩ := HH.out
  have hX := Lib.hid (hx.below hb1 (by omega))
  have hY := Lib.hid (hy.below hb1 (by omega))
  have hXg := Lib.hid (fun h ad e => Nat.ne_of_lt (by rw [← hg]; exact hx.lt h ad e) : 0 < x.length → ∀ ad, X = some ad → ad.block ≠ g)
  have hYg := Lib.hid (fun h ad e => Nat.ne_of_lt (by rw [← hg]; exact hy.lt h ad e) : 0 < y.length → ∀ ad, Y = some ad → ad.block ≠ g)
  have hW := Lib.hid (HS.out.trans (hb1.mono hsz))
  generalize hw3 : w1.alloc (.cells (madeCells #[.int .u64 0] (p + 1)) 79) = w3 at *
  have HK := Lib.hid (show AddI g (p + 1) x y w3 0 0 (List.replicate (p + 1) 0) w3 from ⟨hk0, by simp, Lim_zero _, .inl rfl, by simp [win, sumB], Only.refl _ _⟩)
  have HG := Lib.hid hg
  clear hb1 hk0 hmk hxl hyl hx hy hsum hw3 hg
  go_loopw [7, 9, 27] (fun cv _ t w4 => ∃ (k : Nat) (c : Int) (L' : List Int), k ≤ p + 1 ∧ t = .int .i64 k ∧ cv = .int .u64 c ∧ AddI g (p + 1) x y w3 k c L' w4) (fun _ _ t _ => p + 1 - (intOf t).toNat)
  case atStart => exact ⟨0, 0, _, Nat.zero_le _, rfl, rfl, HK.out⟩
  case round =>
   obtain ⟨k, c, L', hk, rfl, rfl, hI⟩ := hrel
   have HI := Lib.hid hI
   by_cases hlt : k < p + 1
   ·have h1 : decide ((k : Int) < (p : Int) + 1) = true := by simp; omega
    have hfr := hI.blk.free k
    have hce := hI.blk.cell k (by rw [hI.len]; omega)
    have hcall := call_add64 (lg x k) (lg y k) c (hlx k) (hly k) hI.bit
    have hst := Lib.hid (sum_step (by rw [hI.len]; omega) hI.lim hlx hly hI.bit hI.val)
    have hX2 := hX.out.only hI.only hXg.out
    have hY2 := hY.out.only hI.only hYg.out
    have HX2 := Lib.hid hX2
    have HY2 := Lib.hid hY2
    clear hI hX2 hY2 HK
    go_wp2_with fail
    refine (at_c _ _ _ x _ HH.out.1 (by omega) _ HX2.out).mono ?_
    rintro e w5 ⟨rfl, rfl⟩
    rw [Int.toNat_natCast]
    go_wp2_with fail
    refine (at_c _ _ _ y _ HH.out.2.1 (by omega) _ HY2.out).mono ?_
    rintro e w5 ⟨rfl, rfl⟩
    rw [Int.toNat_natCast]
    go_wp2
    have HI2 := HI.out
    obtain ⟨s1, s2, s3⟩ := hst.out
    exact ⟨⟨k + 1, _, _, by omega, by go_num, rfl, ⟨HI2.blk.set _ _, by rw [List.length_set]; exact HI2.len, s1, s2, s3, HI2.only.set _ _⟩⟩, by simp [intOf]; omega⟩
   ·have he : k = p + 1 := by omega
    subst he
    have h1 : decide (((p + 1 : Nat) : Int) < (p : Int) + 1) = false := by simp
    have hrl := hI.blk.RL (by rw [hI.len]; omega)
    have hfin := sum_end (n := p) hI.len hI.lim hlx hly (by rw [HH.out.1]; exact Nat.le_refl _) (by rw [HH.out.2.1]; exact hqp) hI.bit hI.val
    have hlen := hI.len
    have HF := Lib.hid hfin
    have HR := Lib.hid hrl
    have HN2 := Lib.hid hlen
    clear hI hrl hfin hlen HK
    go_wp2_with fail
    refine (trimmed_c _ (p + 1) _ L' HN2.out (Nat.le_refl _) _ HR.out).mono ?_
    rintro e w5 ⟨rfl, ⟨nd, rfl⟩⟩
    go_wp2
    go_ret2
    exact resP_end HN2.out HR.out HI.out.lim (HF.out.trans HH.out.2.2.2.2.2.2) (Only.below hW.out HI.out.only (by have := HG.out; omega))
end Go.Proofs.YtoijlbcbbblbfaaGreatDoor
