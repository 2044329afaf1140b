import Derived.Test.YtimpimnaknkgpaaDoorR5
namespace Go.Proofs.YtimpimnaknkgpaaDoor
open Go.RowKit
open Num hiding B B_eq Lim sumB win sumB_congr Bp Bs sumB_bd subD subC sub_one addD addC add_one win_s win_congr take_step mul_one addp_step lv sumB_zero lv_of lv_bd lv_nil lv_trim Lim_zero win_zero sum_step Bmono sum_end len_of_lv ordN_val lv_lt_of_len ordL_val take_end win_split mul_step win_low win_bd win_change YB lv_set OfI dgt_lv
open Num32
set_option linter.unusedVariables false
set_option linter.unusedSimpArgs false

/-- A call's end: a row of digits to the base 2^32, trimmed, of a value. -/
def RowF (M : Nat) (w : World) (v : Value) (r : List Int) : Prop := ∃ g c, v = .slice (some ⟨g, 0, none⟩) r.length c ∧ M ≤ g ∧ r.length ≤ c ∧ RL w (some ⟨g, 0, none⟩) r
def RowR (v : Int) (w : World) (e : Ending) (w' : World) : Prop := ∃ x r, e = .returned x ∧ RowF w.heap.size w' x r ∧ Lim r ∧ Tr r ∧ lv r = v ∧ Below w.heap.size w w'
theorem rowR_end {w wr : World} {g N : Nat} {L : List Int} {v : Int} (hg : w.heap.size ≤ g) (hb : Blk wr g L) (hN : L.length = N) (hn : N ≤ 100000) (hL : Lim L) (hv : lv L = v) (hbel : Below w.heap.size w wr) (nd : Nat) : RowR v w (.returned (.slice (some ⟨g, 0, none⟩) (trimN L N) N)) (wr.drewN nd) := by
  subst hN
  have h1 := take_trim_len L
  exact ⟨_, L.take (trimN L L.length), rfl, ⟨_, L.length, by rw [h1], hg, by rw [h1]; exact trimN_le _ _, ((hb.RL (by omega)).take _).drN _⟩, hL.take _, Tr_trim L, (lv_trim L).trans hv, bdrN hbel _⟩
theorem trim_end {w wr : World} {g N : Nat} {L : List Int} {v : Int} (hg : w.heap.size ≤ g) (hb : Blk wr g L) (hN : L.length = N) (hn : N ≤ 100000) (hL : Lim L) (hv : lv L = v) (hbel : Below w.heap.size w wr) :
    Calls Tryd.prog 67 #[.slice (some ⟨g, 0, none⟩) N N] wr (RowR v w) :=
  (trim_r (some ⟨g, 0, none⟩) N N L hN (Nat.le_refl _) wr (hb.RL (by omega))).mono fun e w' ⟨he, ⟨nd, hd⟩⟩ => by
    subst hd
    rw [he]
    exact rowR_end hg hb hN hn hL hv hbel nd
structure OfW32 (g N8 : Nat) (s : ByteArray) (w : World) (k : Nat) (L : List Int) (w1 : World) : Prop where
  blk : Blk w1 g L
  inv : OfI (byt s) N8 k L
  only : Only g w w1

set_option maxHeartbeats 1000000 in
set_option maxRecDepth 100000 in
theorem digits_r (s : ByteArray) (h : s.size ≤ 32000) (w : World) : Calls Tryd.prog 37 #[.string s] w (RowR (nv s) w) := by
  have hb1 : Below w.heap.size w (w.alloc (.cells (madeCells #[.int .u64 0] ((s.size + 3) / 4)) 57)) := (Below.refl _ _).alloc (Nat.le_refl _) _
  have hk0 := made_blk w ((s.size + 3) / 4)
  have hmk := make_run ((s.size + 3) / 4) (by omega)
  rw [show (((s.size + 3) / 4 : Nat) : Int) = ((s.size : Int) + 3) / 4 by omega] at hmk
  have hs4 : s.size ≤ 32000 := h
  go_enter Tryd.func37, Tryd.ntmps37
  go_wp2
  obtain ⟨N8, hN8⟩ : ∃ N8, (s.size + 3) / 4 = N8 := ⟨_, rfl⟩
  rw [hN8] at hb1 hk0 ⊢
  have HN8 := Lib.hid hN8
  generalize hw3 : w.alloc (.cells (madeCells #[.int .u64 0] N8) 57) = w3 at *
  obtain ⟨g, hg⟩ : ∃ g, w.heap.size = g := ⟨_, rfl⟩
  have HB1 := Lib.hid (And.intro hb1 hg)
  rw [hg] at hk0 ⊢
  have H0 := Lib.hid (show OfW32 g N8 s w3 0 (List.replicate N8 0) w3 from ⟨hk0, OfI.start _ _, Only.refl _ _⟩)
  clear hN8 hmk hk0 hb1 hg hw3 h
  go_loopw [4] (fun t w1 => ∃ (k : Nat) (L : List Int), k ≤ s.size ∧ t = .int .i64 k ∧ OfW32 g N8 s w3 k L w1) (fun t _ => s.size - (intOf t).toNat)
  case atStart => exact ⟨0, _, Nat.zero_le _, rfl, H0.out⟩
  case round =>
    obtain ⟨k, L, hk, rfl, hI⟩ := hrel
    by_cases hlt : k < s.size
    · have h1 : decide ((k : Int) < (s.size : Int)) = true := by simp; omega
      have ho := hI.only
      have hj8 : k / 4 < N8 := by have := HN8.out; omega
      obtain ⟨⟨s1, s2, s3⟩, s4⟩ := hI.inv.step (byt_bd s) hj8
      have hblk := hI.blk
      have hce := hblk.cell (k / 4) (by rw [hI.inv.len]; exact hj8)
      have hfr := hblk.free (k / 4)
      obtain ⟨j, hj⟩ : ∃ j, j = s.size - 1 - k := ⟨_, rfl⟩
      have hx : ∀ h : j < s.size, ((s[j]'h).toNat : Int) = byt s k := fun h => by
        unfold byt
        rw [dif_pos hlt]
        subst hj
        rfl
      obtain ⟨q8, hq8⟩ : ∃ q8, k / 4 = q8 := ⟨_, rfl⟩
      obtain ⟨e8, he8⟩ : ∃ e8, 8 * (k % 4) = e8 := ⟨_, rfl⟩
      obtain ⟨X, hX⟩ : ∃ X, byt s k * 256 ^ (k % 4) = X := ⟨_, rfl⟩
      rw [hq8] at hj8 s3 s4 hce hfr
      rw [hX] at s1 s2 s3 s4
      have hX2 : byt s k * 2 ^ e8 = X := by rw [← he8, ← Y2, hX]
      have hB : (B : Int) = 4294967296 := rfl
      rw [hB] at s2 s3
      have hl0 := (hI.inv.lim q8).1
      have a4 : IntKind.u64.wrap (byt s k * 2 ^ e8) = X := by rw [hX2]; exact wrap_u _ ⟨s1, by rw [Num.B_eq]; omega⟩
      have a7 : IntKind.u64.wrap (byt s k * 2 ^ min e8 64) = X := by rw [Nat.min_eq_left (by omega), a4]
      have a5 : IntKind.u64.wrap (lg L q8 + X) = lg L q8 + X := wrap_u _ ⟨by omega, by rw [Num.B_eq]; omega⟩
      have a6 : IntKind.u64.wrap (byt s k) = byt s k := wrap_u _ ⟨(byt_bd s k).1, by have := (byt_bd s k).2; rw [Num.B_eq]; omega⟩
      have a8 : IntKind.u64.wrap X = X := wrap_u _ ⟨s1, by rw [Num.B_eq]; omega⟩
      have b0 := (byt_bd s k).1
      have HI := Lib.hid (And.intro hblk ho)
      have HS := Lib.hid s4
      have HJ := Lib.hid (And.intro hj hk)
      have c1 := eq_true (show (q8 : Int) < (N8 : Int) by omega)
      have c2 := eq_true (show (0 : Int) ≤ (q8 : Int) by omega)
      have c3 := eq_true (show (j : Int) < (s.size : Int) by omega)
      have c4 := eq_true (show (0 : Int) ≤ (j : Int) by omega)
      have c5 := eq_true (show j < s.size by omega)
      have c6 := eq_true (show (0 : Int) ≤ (e8 : Int) by omega)
      have c7 := eq_true (show q8 < N8 from hj8)
      have a0 : IntKind.i64.wrap ((k : Int) / 4) = (q8 : Int) := by rw [show (k : Int) / 4 = (q8 : Int) by omega]; exact IntWalk.i64_in _ (by omega)
      have a1 := IntWalk.i64_in ((s.size : Int) - 1) (by omega)
      have a2 : IntKind.i64.wrap ((s.size : Int) - 1 - (k : Int)) = (j : Int) := by rw [show (s.size : Int) - 1 - (k : Int) = (j : Int) by omega]; exact IntWalk.i64_in _ (by omega)
      have a3 : IntKind.i64.wrap (((k : Int) % 4) * 8) = (e8 : Int) := by rw [show ((k : Int) % 4) * 8 = (e8 : Int) by omega]; exact IntWalk.i64_in _ (by omega)
      have d0 : (k : Int) / 4 = (q8 : Int) := by omega
      have d2 : (s.size : Int) - 1 - (k : Int) = (j : Int) := by omega
      have d3 : ((k : Int) % 4) * 8 = (e8 : Int) := by omega
      have hmd : (k : Int).tmod 4 = (k : Int) % 4 := Int.tmod_eq_emod_of_nonneg (by omega)
      have hdv : (k : Int).tdiv 4 = (k : Int) / 4 := Int.tdiv_eq_ediv_of_nonneg (by omega)
      clear hj hk hI s1 s2 s3 s4 hblk ho hq8 he8 hX hX2 hB hl0
      go_wp2
      go_region
      go_wp2
      obtain ⟨i1, i2⟩ := HI.out
      obtain ⟨hj, hk⟩ := HJ.out
      exact ⟨⟨k + 1, _, by omega, by simp, ⟨i1.set _ _, HS.out, (i2.set _ _).dr⟩⟩, by simp [intOf]; omega⟩
    · have he : k = s.size := by omega
      subst he
      have h1 : decide ((s.size : Int) < (s.size : Int)) = false := by simp
      have HI := Lib.hid hI
      have HT := Lib.hid (trim_end (w := w) (Nat.le_of_eq HB1.out.2) hI.blk hI.inv.len (by have := HN8.out; omega) hI.inv.lim hI.inv.val (Only.below HB1.out.1 hI.only (by rw [HB1.out.2]; exact Nat.le_refl _)))
      clear hI hlt hk
      go_wp2_with fail
      refine (HT.out).mono ?_
      rintro e w4 ⟨x, r, rfl, hr⟩
      have HR := Lib.hid hr
      clear hr
      go_wp2
      go_ret
      exact ⟨x, r, rfl, HR.out⟩
end Go.Proofs.YtimpimnaknkgpaaDoor
