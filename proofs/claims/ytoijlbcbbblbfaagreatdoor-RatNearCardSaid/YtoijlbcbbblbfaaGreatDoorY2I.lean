import Derived.Test.YtoijlbcbbblbfaaGreatDoorY2H
import Derived.Test.YtoijlbcbbblbfaaGreatDoorY2G1x0
import Derived.Lib.ConvBytes
import Derived.Lib.Strings
namespace Go.Proofs.YtoijlbcbbblbfaaGreatDoor
open Go.RowKit Num
set_option linter.unusedVariables false
set_option linter.unusedSimpArgs false

theorem toList_ne {s : ByteArray} (h : 0 < s.size) : (s.toList == ([] : List UInt8)) = false ∧ (s.toList != ([] : List UInt8)) = true := by
 have hn : s.toList ≠ [] := by
  intro e
  have : s.data.toList.length = 0 := by rw [← Lib.toList_data, e]; rfl
  have hs : s.size = s.data.toList.length := by simp
  omega
 exact ⟨beq_eq_false_iff_ne.mpr hn, bne_iff_ne.mpr hn⟩
theorem toList_nil {s : ByteArray} (h : s.size = 0) : (s.toList == ([] : List UInt8)) = true ∧ (s.toList != ([] : List UInt8)) = false := by
 have hn : s.toList = [] := by
  rw [Lib.toList_data]
  apply List.eq_nil_of_length_eq_zero
  have hs : s.size = s.data.toList.length := by simp
  omega
 rw [hn]
 exact ⟨rfl, rfl⟩
set_option maxHeartbeats 1000000 in
theorem of_limit (s : ByteArray) (h : 32000 < s.size) (w : World) :
  Calls Tryz.prog 80 #[.string s] w fun e w' => e = .returned (.tuple #[.slice none 0 0, .int .i64 5]) ∧ w' = w := by
 have h1 : decide ((32000 : Int) < (s.size : Int)) = true := by simp; omega
 go_enter Tryz.func80, Tryz.ntmps80
 go_wp2
 go_ret2
 exact ⟨rfl, rfl⟩
set_option maxHeartbeats 1000000 in
theorem of_arg (s : ByteArray) (h0 : 0 < s.size) (h : s.size ≤ 32000) (hb : byt s (s.size - 1) = 0) (w : World) :
  Calls Tryz.prog 80 #[.string s] w fun e w' => e = .returned (.tuple #[.slice none 0 0, .int .i64 1]) ∧ w' = w := by
 have h1 : decide ((32000 : Int) < (s.size : Int)) = false := by simp; omega
 obtain ⟨h2, h3⟩ := toList_ne h0
 have hx : ∀ h : 0 < s.size, ((s[0]'h).toNat : Int) = 0 := fun h => by
  rw [← hb]; unfold byt
  rw [dif_pos (by omega)]
  congr 3
  omega
 have q1 := eq_true (show (0 : Int) < (s.size : Int) by omega)
 have q2 := eq_true h0
 clear h hb
 go_enter Tryz.func80, Tryz.ntmps80
 go_wp2
 go_ret2
 exact ⟨rfl, rfl⟩

theorem isrow_of {w : World} {A : Option Addr} {n c : Nat} {l : List Int} (hl : l.length = n) (hc : n ≤ c) (hr : RL w A l) : IsRow w (.slice A n c) l := by
 subst hl
 exact ⟨A, c, rfl, hc, hr⟩
/-- A row that is read of a text: a block of its own. -/
def OfP (v : Int) (w : World) (e : Ending) (w' : World) : Prop := ∃ g n r, e = .returned (.tuple #[.slice (some ⟨g, 0, none⟩) n n, .int .i64 0]) ∧ w.heap.size ≤ g ∧ r.length = n ∧ n ≤ 4000 ∧ Blk w' g r ∧ Lim r ∧ Tr r ∧ lv r = v ∧ Below w.heap.size w w'
structure OfW (g N8 : Nat) (s : ByteArray) (w : World) (k : Nat) (L : List Int) (w1 : World) : Prop where
 blk : Blk w1 g L
 inv : OfI (byt s) N8 k L
 only : Only g w w1
set_option maxHeartbeats 1000000 in
set_option maxRecDepth 100000 in
theorem of_blk (s : ByteArray) (h : s.size ≤ 32000) (hb : 0 < s.size → byt s (s.size - 1) ≠ 0) (w : World) :
  Calls Tryz.prog 80 #[.string s] w (OfP (nv s) w) := by
 have h1 : decide ((32000 : Int) < (s.size : Int)) = false := by simp; omega
 have HT := Lib.hid hb
 have hb1 : Below w.heap.size w (w.alloc (.cells (madeCells #[.int .u64 0] ((s.size + 7) / 8)) 79)) := (Below.refl _ _).alloc (Nat.le_refl _) _
 have hk0 := made_blk w ((s.size + 7) / 8)
 have hmk := make_run ((s.size + 7) / 8) (by omega)
 rw [show (((s.size + 7) / 8 : Nat) : Int) = ((s.size : Int) + 8 - 1) / 8 by omega] at hmk
 rcases Nat.eq_zero_or_pos s.size with h0 | h0
 ·obtain ⟨h2, h3⟩ := toList_nil h0
  have hlt := decide_eq_false (show ¬ (0 : Int) < (s.size : Int) by omega)
  have hlt2 := decide_eq_false (show ¬ 0 < s.size by omega)
  have HH := Lib.hid h0
  clear hb h0
  go_enter Tryz.func80, Tryz.ntmps80
  go_wp2
  go_loopw [5, 26] (fun _ t w1 => t = .int .i64 0 ∧ Hid (w1 = w.alloc (.cells (madeCells #[.int .u64 0] ((s.size + 7) / 8)) 79))) (fun _ t _ => 0)
  case atStart => exact ⟨rfl, rfl⟩
  case round =>
   obtain ⟨rfl, hw⟩ := hrel
   go_wp2
   go_ret2
   rw [hw.out]
   have hn : (s.size + 7) / 8 = 0 := by rw [HH.out]
   rw [hn] at hk0 ⊢
   refine ⟨w.heap.size, 0, [], rfl, Nat.le_refl _, rfl, by omega, hk0, Lim_nil, .inl rfl, ?_, by rw [hn] at hb1; exact hb1⟩
   unfold nv
   rw [HH.out]
   rfl
 ·obtain ⟨h2, h3⟩ := toList_ne h0
  obtain ⟨t0, ht0⟩ : ∃ t0, byt s (s.size - 1) = t0 := ⟨_, rfl⟩
  have hx : ∀ h : 0 < s.size, ((s[0]'h).toNat : Int) = t0 := fun h => by
   rw [← ht0]; unfold byt
   rw [dif_pos (by omega)]
   congr 3
   omega
  have hne : (t0 == 0) = false := beq_eq_false_iff_ne.mpr (by rw [← ht0]; exact hb h0)
  have q1 := eq_true (show (0 : Int) < (s.size : Int) by omega)
  have q2 := eq_true h0
  clear hb ht0
  go_enter Tryz.func80, Tryz.ntmps80
  go_wp2
  obtain ⟨N8, hN8⟩ : ∃ N8, (s.size + 7) / 8 = N8 := ⟨_, rfl⟩
  rw [hN8] at hb1 hk0 ⊢
  have HN8 := Lib.hid hN8
  generalize hw3 : w.alloc (.cells (madeCells #[.int .u64 0] N8) 79) = w3 at *
  have HG : w.heap.size ≤ w.heap.size := Nat.le_refl _
  generalize hg : w.heap.size = g at HG hb1 hk0 ⊢
  have HGG := Lib.hid hg
  have HB1 := Lib.hid hb1
  have H0 := Lib.hid (show OfW g N8 s w3 0 (List.replicate N8 0) w3 from ⟨hk0, OfI.start _ _, Only.refl _ _⟩)
  clear hN8 hx q1 q2 hne h2 h3 hmk hk0 hb1 hg hw3
  go_loopw [5, 26] (fun _ t w1 => ∃ (k : Nat) (L : List Int), k ≤ s.size ∧ t = .int .i64 k ∧ OfW g N8 s w3 k L w1) (fun _ t _ => s.size - (intOf t).toNat)
  case atStart => exact ⟨0, _, Nat.zero_le _, rfl, H0.out⟩
  case round =>
   obtain ⟨k, L, hk, rfl, hI⟩ := hrel
   by_cases hlt : k < s.size
   ·have h1 : decide ((k : Int) < (s.size : Int)) = true := by simp; omega
    have ho := hI.only
    have hj8 : k / 8 < N8 := by have := HN8.out; omega
    obtain ⟨⟨s1, s2, s3⟩, s4⟩ := hI.inv.step (byt_bd s) hj8
    have hblk := hI.blk
    have hce := hblk.cell (k / 8) (by rw [hI.inv.len]; exact hj8)
    have hfr := hblk.free (k / 8)
    obtain ⟨j, hj⟩ : ∃ j, j = s.size - 1 - k := ⟨_, rfl⟩
    have hx : ∀ h : j < s.size, ((s[j]'h).toNat : Int) = byt s k := fun h => by
     unfold byt
     rw [dif_pos hlt]
     subst hj
     rfl
    obtain ⟨q8, hq8⟩ : ∃ q8, k / 8 = q8 := ⟨_, rfl⟩
    obtain ⟨e8, he8⟩ : ∃ e8, 8 * (k % 8) = e8 := ⟨_, rfl⟩
    obtain ⟨X, hX⟩ : ∃ X, byt s k * 256 ^ (k % 8) = X := ⟨_, rfl⟩
    rw [hq8] at hj8 s3 s4 hce hfr
    rw [hX] at s1 s2 s3 s4
    have a4 : IntKind.u64.wrap (byt s k * 2 ^ e8) = X := by
     rw [← he8, ← Y2, hX]
     exact wrap_u _ ⟨s1, s2⟩
    have a5 : bits .or .u64 (lg L q8) X = lg L q8 + X := by
     have hm : X % 2 ^ e8 = 0 := by rw [← hX, ← he8, ← Y2]; exact Int.mul_emod_left _ _
     have hlo : lg L q8 < 2 ^ e8 := by rw [← hq8, ← he8, ← Y2]; exact hI.inv.low
     rw [or_comm, u64_join _ _ e8 ⟨s1, s2⟩ (hI.inv.lim _).1 hlo (hI.inv.lim _).2 hm, Int.add_comm]
    have a7 : bits .or .u64 (lg L q8) (IntKind.u64.wrap (byt s k * 2 ^ min e8 64)) = lg L q8 + X := by
     rw [Nat.min_eq_left (by omega), a4, a5]
    have A7 := Lib.hid a7
    clear a4 a5 a7
    have a6 : IntKind.u64.wrap (byt s k) = byt s k := wrap_u _ ⟨(byt_bd s k).1, by have := (byt_bd s k).2; rw [B_eq]; omega⟩
    have b0 := (byt_bd s k).1
    have HI := Lib.hid (And.intro hblk ho)
    have HS := Lib.hid s4
    have HJ := Lib.hid (And.intro hj hk)
    have c1 := eq_true (show (q8 : Int) < (N8 : Int) by omega)
    have c2 := eq_true (show (0 : Int) ≤ (q8 : Int) by omega)
    have c3 := eq_true (show (j : Int) < (s.size : Int) by omega)
    have c4 := eq_true (show (0 : Int) ≤ (j : Int) by omega)
    have c5 := eq_true (show j < s.size by omega)
    have c6 := eq_true (show (0 : Int) ≤ (e8 : Int) by omega)
    have a0 : IntKind.i64.wrap ((k : Int) / 8) = (q8 : Int) := by rw [show (k : Int) / 8 = (q8 : Int) by omega]; exact IntWalk.i64_in _ (by omega)
    have a1 := IntWalk.i64_in ((s.size : Int) - 1) (by omega)
    have a2 : IntKind.i64.wrap ((s.size : Int) - 1 - (k : Int)) = (j : Int) := by rw [show (s.size : Int) - 1 - (k : Int) = (j : Int) by omega]; exact IntWalk.i64_in _ (by omega)
    have a3 : IntKind.i64.wrap (8 * ((k : Int) % 8)) = (e8 : Int) := by rw [show 8 * ((k : Int) % 8) = (e8 : Int) by omega]; exact IntWalk.i64_in _ (by omega)
    have hmd : (k : Int).tmod 8 = (k : Int) % 8 := Int.tmod_eq_emod_of_nonneg (by omega)
    clear hj hk hI s1 s2 s3 s4 hblk ho hj8 hq8 he8 hX
    go_wp2
    go_still_tail 19, (by kernel_rfl)
    change wpList _ _ _ _ _ wr.drew
    clear c1 c2 c3 c4 c5 c6 a0 a1 a2 a3 a6 b0 hmd
    go_wp2
    rw [A7.out]
    obtain ⟨i1, i2⟩ := HI.out
    exact ⟨⟨k + 1, _, by omega, by go_num, ⟨i1.set _ _, HS.out, (i2.set _ _).dr⟩⟩, by simp [intOf]; omega⟩
   ·have he : k = s.size := by omega
    have h1 : decide ((k : Int) < (s.size : Int)) = false := by simp; omega
    subst he
    have hl := hI.inv.val
    have htr := OfI.top (n := s.size) (by rw [HN8.out]; exact hI.inv) (byt_bd s) HT.out
    have hrl := hI.blk
    have hlen := hI.inv.len
    have hlim := hI.inv.lim
    have hbl : Below w.heap.size w wr := by rw [HGG.out]; exact Only.below HB1.out hI.only (Nat.le_refl _)
    clear hI
    have HH := Lib.hid (And.intro hl (And.intro htr (And.intro hrl (And.intro hlen (And.intro hlim hbl)))))
    clear hl htr hrl hlen hlim hbl
    go_wp2
    go_ret2
    obtain ⟨hl, htr, hrl, hlen, hlim, hbl⟩ := HH.out
    exact ⟨g, N8, L, rfl, by rw [HGG.out]; exact HG, hlen, by have := HN8.out; omega, hrl, hlim, htr, hl, hbl⟩
theorem of_ok (s : ByteArray) (h : s.size ≤ 32000) (hb : 0 < s.size → byt s (s.size - 1) ≠ 0) (w : World) :
  Calls Tryz.prog 80 #[.string s] w (ResP (nv s) w) :=
 (of_blk s h hb w).mono fun _ _ ⟨g, n, r, he, hg, hl, hn, hk, h1, h2, h3, h4⟩ => ⟨_, r, he, isrow_of hl (Nat.le_refl _) (hk.RL (by omega)), h1, h2, h3, h4⟩
end Go.Proofs.YtoijlbcbbblbfaaGreatDoor
