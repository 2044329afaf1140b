import Derived.Test.YtimpimnaknkgpaaGreatDoorR2
namespace Go.Proofs.YtimpimnaknkgpaaGreatDoor
open Go.RowKit
open Num hiding B B_eq Lim sumB win sumB_congr Bp Bs sumB_bd subD subC sub_one addD addC add_one win_s win_congr take_step mul_one addp_step lv sumB_zero lv_of lv_bd lv_nil lv_trim Lim_zero win_zero sum_step Bmono sum_end len_of_lv ordN_val lv_lt_of_len ordL_val take_end win_split mul_step win_low win_bd win_change YB lv_set OfI dgt_lv
open Num32
set_option linter.unusedVariables false
set_option linter.unusedSimpArgs false

theorem make2 (w : World) : (Instr.makeSlice 46 (.int .i64 0) (.int .i64 2)).run Tryz.prog w = .ok (.slice (some ⟨w.heap.size, 0, none⟩) 0 2) (w.alloc (.cells #[.int .u64 0, .int .u64 0] 61)) := by
  have h : (Tryz.prog.info? 61).map (fun i => (i.zero, i.size, i.bytes)) = some (some (.int .u64 0), 1, 8) := by kernel_rfl
  cases hi : Tryz.prog.info? 61 with
  | none => rw [hi] at h; cases h
  | some i =>
    rw [hi] at h
    simp only [Option.map_some, Option.some.injEq, Prod.mk.injEq] at h
    have := run_make (P := Tryz.prog) w 46 61 i (.int .u64 0) Tryz.underlying46 hi h.1 .i64 .i64 0 2 (by omega) (by omega) (by rw [h.2.2]; omega) (by omega)
    rw [h.2.1, show madeCells (Value.int .u64 0).cells (Int.toNat 2 * 1) = #[.int .u64 0, .int .u64 0] from by apply Array.ext'; rw [show (Value.int .u64 0).cells = #[.int .u64 0] from rfl, toList_madeCells_one]; rfl] at this
    exact this

set_option maxHeartbeats 1000000 in
set_option maxRecDepth 100000 in
theorem split_r (u : Int) (hu : 0 ≤ u ∧ u < 18446744073709551616) (A0 : Option Addr) (cc : Nat) (hcc : 1 ≤ cc) (w : World) (ha : RL w A0 [u]) :
    Calls Tryz.prog 40 #[.slice A0 1 cc] w fun e w' => ∃ x r, e = .returned x ∧ IsRow w' x r ∧ Lim r ∧ Tr r ∧ lv r = u ∧ Below w.heap.size w w' := by
  obtain ⟨ad, rfl, hc⟩ := ha.2 (by simp)
  have hu0 := hc 0 (by simp)
  rw [show ad.add 0 = ad from by simp [Addr.add], show lg [u] 0 = u from rfl] at hu0
  clear hc
  have hmk := make2
  have hu1 : u.tmod 4294967296 = u % 4294967296 := Int.tmod_eq_emod_of_nonneg hu.1
  have hu2 : u.tdiv 4294967296 = u / 4294967296 := Int.tdiv_eq_ediv_of_nonneg hu.1
  go_enter Tryz.func40, Tryz.ntmps40
  go_wp2
  obtain ⟨w1, hw1⟩ : ∃ w1, w1 = w.alloc (.cells #[.int .u64 0, .int .u64 0] 61) := ⟨_, rfl⟩
  have hb1 : Below w.heap.size w w1 := by rw [hw1]; exact (Below.refl _ _).alloc (Nat.le_refl _) _
  have u1 := (hb1.cell (World.block_lt_of_cell? w _ hu0)).trans hu0
  have hblk : w1.heap[w.heap.size]? = some (.cells #[.int .u64 0, .int .u64 0] 61 (0, 0)) := by rw [hw1]; exact heap_alloc_new w _
  have hadb := World.block_lt_of_cell? w _ hu0
  rw [← hw1]
  obtain ⟨g, hg⟩ : ∃ g, w.heap.size = g := ⟨_, rfl⟩
  rw [hg] at hblk hadb ⊢
  have HB1 := Lib.hid (And.intro hb1 hg)
  have H1 := Lib.hid hblk
  clear hw1 hmk hu0 hb1 hg ha
  go_loopg [3, 4] 1 (fun gk s t w2 => (gk = 1 ∧ s = .slice (some ⟨g, 0, none⟩) 0 2 ∧ t = .int .i64 0 ∧ w1 = w2) ∨ (gk = 0 ∧ s = .slice (some ⟨g, 0, none⟩) 2 2 ∧ t = .int .i64 1 ∧ Hid (Blk w2 g [u % 4294967296, u / 4294967296] ∧ Below w.heap.size w w2)))
  case atStart => exact .inl ⟨rfl, rfl, rfl, rfl⟩
  case round =>
    rcases hrel with ⟨rfl, rfl, rfl, rfl⟩ | ⟨rfl, rfl, rfl, HF⟩
    · have hne : ¬ ad.block = g := by omega
      have hbk : Blk w1 g [0, 0] := ⟨_, H1.out, by simp, fun j hj => by match j, hj with | 0, _ => rfl | 1, _ => rfl⟩
      have c0 := hbk.cell 0 (by simp)
      have c1 := hbk.cell 1 (by simp)
      rw [show lg [0, 0] 0 = 0 from rfl] at c0
      rw [show lg [0, 0] 1 = 0 from rfl] at c1
      have f0 := hbk.free 0
      have f1 := hbk.free 1
      have hlt := hbk.lt
      have HBK := Lib.hid hbk
      clear hbk
      go_wp2
      go_region
      have HF := Lib.hid (show Blk (((w1.setCell ⟨g, 0, none⟩ (.int .u64 (u % 4294967296))).setCell ⟨g, 1, none⟩ (.int .u64 (u / 4294967296))).alloc (.cells #[.int .u64 (u % 4294967296), .int .u64 (u / 4294967296)] 61)).drew g [u % 4294967296, u / 4294967296] ∧ Below w.heap.size w (((w1.setCell ⟨g, 0, none⟩ (.int .u64 (u % 4294967296))).setCell ⟨g, 1, none⟩ (.int .u64 (u / 4294967296))).alloc (.cells #[.int .u64 (u % 4294967296), .int .u64 (u / 4294967296)] 61)).drew by
        have h1 : Blk ((w1.setCell ⟨g, 0, none⟩ (.int .u64 (u % 4294967296))).setCell ⟨g, 1, none⟩ (.int .u64 (u / 4294967296))) g [u % 4294967296, u / 4294967296] := (HBK.out.set 0 _).set 1 _
        have h2 := HB1.out.2
        have h3 := HB1.out.1
        have h4 : Below w.heap.size w ((w1.setCell ⟨g, 0, none⟩ (.int .u64 (u % 4294967296))).setCell ⟨g, 1, none⟩ (.int .u64 (u / 4294967296))) := (h3.setCell (by simp; omega) _).setCell (by simp; omega) _
        exact ⟨(h1.below ((Below.refl _ _).alloc (Nat.le_refl _) _) h1.lt).drN 1, (h4.alloc h4.size _).drew⟩)
      clear c0 c1 f0 f1
      go_wp2
      go_roundg 0
      case measure => omega
      case rel => exact .inr ⟨rfl, rfl, by simp, HF⟩
    · have HLT := Lib.hid (show Lim [u % 4294967296, u / 4294967296] ∧ lv [u % 4294967296, u / 4294967296] = u by
        have h1 : u % 4294967296 + u / 4294967296 * 4294967296 = u := by omega
        refine ⟨fun j => ?_, ?_⟩
        · match j with
          | 0 => exact ⟨by show 0 ≤ u % 4294967296; omega, by show u % 4294967296 < 4294967296; omega⟩
          | 1 => exact ⟨by show 0 ≤ u / 4294967296; omega, by show u / 4294967296 < 4294967296; omega⟩
          | j + 2 => exact ⟨by show (0 : Int) ≤ 0; omega, by show (0 : Int) < 4294967296; omega⟩
        · show 0 + u % 4294967296 * 4294967296 ^ 0 + u / 4294967296 * 4294967296 ^ 1 = u
          rw [Int.pow_zero, Int.pow_one]
          omega)
      have HR := Lib.hid (trim_r (some ⟨g, 0, none⟩) 2 2 [u % 4294967296, u / 4294967296] rfl (by omega) wr (HF.out.1.RL (by simp)))
      have hne : ¬ ad.block = g := by omega
      clear u1 hne
      go_wp2_with fail
      refine (HR.out).mono ?_
      rintro e w4 ⟨rfl, ⟨nd, rfl⟩⟩
      go_wp2
      go_ret
      have h1 := take_trim_len [u % 4294967296, u / 4294967296]
      exact ⟨_, [u % 4294967296, u / 4294967296].take (trimN [u % 4294967296, u / 4294967296] 2), rfl, ⟨_, 2, by rw [show trimN [u % 4294967296, u / 4294967296] 2 = trimN [u % 4294967296, u / 4294967296] [u % 4294967296, u / 4294967296].length from rfl, h1]; rfl, by rw [show trimN [u % 4294967296, u / 4294967296] 2 = trimN [u % 4294967296, u / 4294967296] [u % 4294967296, u / 4294967296].length from rfl, h1]; exact trimN_le _ _, ((HF.out.1.RL (by simp)).take _).drN _⟩, HLT.out.1.take _, Tr_trim [u % 4294967296, u / 4294967296], (lv_trim [u % 4294967296, u / 4294967296]).trans HLT.out.2, bdrN HF.out.2 _⟩
end Go.Proofs.YtimpimnaknkgpaaGreatDoor
