import Derived.Test.YtimpimnaknkgpaaDoorR7
namespace Go.Proofs.YtimpimnaknkgpaaDoor
open Go.RowKit
open Num hiding B B_eq Lim sumB win sumB_congr Bp Bs sumB_bd subD subC sub_one addD addC add_one win_s win_congr take_step mul_one addp_step lv sumB_zero lv_of lv_bd lv_nil lv_trim Lim_zero win_zero sum_step Bmono sum_end len_of_lv ordN_val lv_lt_of_len ordL_val take_end win_split mul_step win_low win_bd win_change YB lv_set OfI dgt_lv
open Num32
set_option linter.unusedVariables false
set_option linter.unusedSimpArgs false

structure AddI32 (g N : Nat) (x y : List Int) (w : World) (k : Nat) (c : Int) (L' : List Int) (w1 : World) : Prop where
  blk : Blk w1 g L'
  len : L'.length = N
  lim : Lim L'
  bit : c = 0 ∨ c = 1
  val : win L' 0 k + c * B ^ k = sumB (lg x) k + sumB (lg y) k
  only : Only g w w1
theorem AddI32.step {g N k : Nat} {x y L' : List Int} {w w1 : World} {c : Int} (h : AddI32 g N x y w k c L' w1) (hk : k < N) (hx : Lim x) (hy : Lim y) {T : Int} (hT : T = lg x k + lg y k + c) :
    AddI32 g N x y w (k + 1) (T / 4294967296) (L'.set k (T % 4294967296)) (w1.setCell ⟨g, k, none⟩ (.int .u64 (T % 4294967296))) := by
  obtain ⟨s1, s2, s3⟩ := sum_step (by rw [h.len]; exact hk) h.lim hx hy h.bit h.val
  subst hT
  exact ⟨h.blk.set _ _, by rw [List.length_set]; exact h.len, s1, s2, s3, h.only.set _ _⟩
theorem AddI32.cell {g N k : Nat} {x y L' : List Int} {w w1 : World} {c : Int} (h : AddI32 g N x y w k c L' w1) (hk : k < N) : w1.cell? ⟨g, k, none⟩ = some (.int .u64 (lg L' k)) := h.blk.cell k (by rw [h.len]; exact hk)
theorem int_max (n m : Nat) : max (n : Int) (m : Int) = ((max n m : Nat) : Int) := by omega

set_option maxHeartbeats 2000000 in
set_option maxRecDepth 100000 in
theorem add_r (A0 A1 : Option Addr) (n m c0 c1 : Nat) (a b : List Int) (hn : a.length = n) (hm : b.length = m) (hn4 : n ≤ 30000) (hm4 : m ≤ 30000) (w : World) (ha : RL w A0 a) (hb : RL w A1 b) (hla : Lim a) (hlb : Lim b) :
    Calls Tryd.prog 39 #[.slice A0 n c0, .slice A1 m c1] w (RowR (lv a + lv b) w) := by
  obtain ⟨M, hM⟩ : ∃ M, max n m = M := ⟨_, rfl⟩
  have hmk := make_run (M + 1) (by omega)
  rw [show ((M + 1 : Nat) : Int) = (M : Int) + 1 by omega] at hmk
  have hmx : max (n : Int) (m : Int) = (M : Int) := by omega
  have hmx2 : (if (n : Int) ≤ (m : Int) then (m : Int) else (n : Int)) = (M : Int) := by split <;> omega
  have hmx3 : (if (n : Int) < (m : Int) then (m : Int) else (n : Int)) = (M : Int) := by split <;> omega
  have HA := Lib.hid (And.intro ha (And.intro hn hla))
  have HB := Lib.hid (And.intro hb (And.intro hm hlb))
  have HM := Lib.hid (show n ≤ M ∧ m ≤ M ∧ M ≤ 30000 by omega)
  have hm9 : M ≤ 30000 := by omega
  clear ha hb hn hm hla hlb hM
  go_enter Tryd.func39, Tryd.ntmps39
  go_wp2
  have hb1 : Below w.heap.size w (w.alloc (.cells (madeCells #[.int .u64 0] (M + 1)) 57)) := (Below.refl _ _).alloc (Nat.le_refl _) _
  have hk0 := made_blk w (M + 1)
  have hx1 := HA.out.1.below hb1 (Nat.le_refl _)
  have hy1 := HB.out.1.below hb1 (Nat.le_refl _)
  have hax : 0 < a.length → ∀ ad, A0 = some ad → ad.block ≠ w.heap.size := fun h ad e => Nat.ne_of_lt (HA.out.1.lt h ad e)
  have hbx : 0 < b.length → ∀ ad, A1 = some ad → ad.block ≠ w.heap.size := fun h ad e => Nat.ne_of_lt (HB.out.1.lt h ad e)
  generalize hw3 : w.alloc (.cells (madeCells #[.int .u64 0] (M + 1)) 57) = w3 at *
  obtain ⟨g, hg⟩ : ∃ g, w.heap.size = g := ⟨_, rfl⟩
  have HB1 := Lib.hid (And.intro hb1 hg)
  rw [hg] at hk0 hax hbx ⊢
  have HI0 := Lib.hid (show AddI32 g (M + 1) a b w3 0 0 (List.replicate (M + 1) 0) w3 from ⟨hk0, by simp, Lim_zero _, .inl rfl, by simp [win, sumB], Only.refl _ _⟩)
  have HX := Lib.hid hx1
  have HY := Lib.hid hy1
  have HAX := Lib.hid hax
  have HBX := Lib.hid hbx
  clear hk0 hx1 hy1 hax hbx hb1 hw3 hmk hg hmx hmx2 hmx3
  go_loopw [6, 7] (fun cv t w4 => ∃ (k : Nat) (c : Int) (L' : List Int), k ≤ M + 1 ∧ t = .int .i64 k ∧ cv = .int .u64 c ∧ AddI32 g (M + 1) a b w3 k c L' w4) (fun _ t _ => M + 1 - (intOf t).toNat)
  case atStart => exact ⟨0, 0, _, Nat.zero_le _, rfl, rfl, HI0.out⟩
  case round =>
    obtain ⟨k, c, L', hk, rfl, rfl, hI⟩ := hrel
    by_cases hlt : k < M + 1
    · have h1 : decide ((k : Int) < (M : Int) + 1) = true := by simp; omega
      have hbit : 0 ≤ c ∧ c ≤ 1 := by rcases hI.bit with h | h <;> omega
      have hce := hI.cell hlt
      have hfr := hI.blk.free k
      have HX2 := Lib.hid (HX.out.only hI.only HAX.out)
      have HY2 := Lib.hid (HY.out.only hI.only HBX.out)
      have lx := HA.out.2.2 k
      have ly := HB.out.2.2 k
      rw [show (B : Int) = 4294967296 from rfl] at lx ly
      obtain ⟨x, hx⟩ : ∃ x, lg a k = x := ⟨_, rfl⟩
      obtain ⟨y, hy⟩ : ∃ y, lg b k = y := ⟨_, rfl⟩
      rw [hx] at lx
      rw [hy] at ly
      have HXY := Lib.hid (And.intro hx hy)
      have HI := Lib.hid hI
      have HLT := Lib.hid hlt
      have z1 : (k : Int) < (M : Int) + 1 := by omega
      have z2 : k < M + 1 := hlt
      clear hI hlt hk
      by_cases hka : k < n
      · by_cases hkb : k < m
        · skip
          have t1 : decide ((k : Int) < (n : Int)) = true := by simp; omega
          obtain ⟨ad, rfl, hcl⟩ := HX2.out.2 (by rw [HA.out.2.1]; omega)
          have ca := hcl k (by rw [HA.out.2.1]; omega)
          rw [HXY.out.1] at ca
          clear hcl
          have t2 : decide ((k : Int) < (m : Int)) = true := by simp; omega
          obtain ⟨ad2, rfl, hcl⟩ := HY2.out.2 (by rw [HB.out.2.1]; omega)
          have cb := hcl k (by rw [HB.out.2.1]; omega)
          rw [HXY.out.2] at cb
          clear hcl
          have a1 : IntKind.u64.wrap (c + x) = c + x := wrap_u _ ⟨by omega, by rw [Num.B_eq]; omega⟩
          have a2 : IntKind.u64.wrap (c + x + y) = c + x + y := wrap_u _ ⟨by omega, by rw [Num.B_eq]; omega⟩
          have a3 : (c + x + y).tmod 4294967296 = (c + x + y) % 4294967296 := Int.tmod_eq_emod_of_nonneg (by omega)
          have a4 : (c + x + y).tdiv 4294967296 = (c + x + y) / 4294967296 := Int.tdiv_eq_ediv_of_nonneg (by omega)
          have a5 : IntKind.u64.wrap ((c + x + y) % 4294967296) = (c + x + y) % 4294967296 := wrap_u _ ⟨by omega, by rw [Num.B_eq]; omega⟩
          have a6 : IntKind.u64.wrap ((c + x + y) / 4294967296) = (c + x + y) / 4294967296 := wrap_u _ ⟨by omega, by rw [Num.B_eq]; omega⟩
          have HS := Lib.hid (HI.out.step HLT.out HA.out.2.2 HB.out.2.2 (T := c + x + y) (by rw [HXY.out.1, HXY.out.2]; omega))
          go_wp2
          exact ⟨⟨k + 1, _, _, HLT.out, by simp, rfl, HS.out⟩, by have := HLT.out; simp [intOf]; omega⟩
        · skip
          have t1 : decide ((k : Int) < (n : Int)) = true := by simp; omega
          obtain ⟨ad, rfl, hcl⟩ := HX2.out.2 (by rw [HA.out.2.1]; omega)
          have ca := hcl k (by rw [HA.out.2.1]; omega)
          rw [HXY.out.1] at ca
          clear hcl
          have t2 : decide ((k : Int) < (m : Int)) = false := by simp; omega
          have hy0 : y = 0 := by rw [← HXY.out.2]; exact lg_out (by rw [HB.out.2.1]; omega)
          have a1 : IntKind.u64.wrap (c + x) = c + x := wrap_u _ ⟨by omega, by rw [Num.B_eq]; omega⟩
          have a3 : (c + x).tmod 4294967296 = (c + x) % 4294967296 := Int.tmod_eq_emod_of_nonneg (by omega)
          have a4 : (c + x).tdiv 4294967296 = (c + x) / 4294967296 := Int.tdiv_eq_ediv_of_nonneg (by omega)
          have a5 : IntKind.u64.wrap ((c + x) % 4294967296) = (c + x) % 4294967296 := wrap_u _ ⟨by omega, by rw [Num.B_eq]; omega⟩
          have a6 : IntKind.u64.wrap ((c + x) / 4294967296) = (c + x) / 4294967296 := wrap_u _ ⟨by omega, by rw [Num.B_eq]; omega⟩
          have HS := Lib.hid (HI.out.step HLT.out HA.out.2.2 HB.out.2.2 (T := c + x) (by rw [HXY.out.1, HXY.out.2]; omega))
          clear hy0
          go_wp2
          exact ⟨⟨k + 1, _, _, HLT.out, by simp, rfl, HS.out⟩, by have := HLT.out; simp [intOf]; omega⟩
      · by_cases hkb : k < m
        · skip
          have t1 : decide ((k : Int) < (n : Int)) = false := by simp; omega
          have hx0 : x = 0 := by rw [← HXY.out.1]; exact lg_out (by rw [HA.out.2.1]; omega)
          have t2 : decide ((k : Int) < (m : Int)) = true := by simp; omega
          obtain ⟨ad2, rfl, hcl⟩ := HY2.out.2 (by rw [HB.out.2.1]; omega)
          have cb := hcl k (by rw [HB.out.2.1]; omega)
          rw [HXY.out.2] at cb
          clear hcl
          have a2 : IntKind.u64.wrap (c + y) = c + y := wrap_u _ ⟨by omega, by rw [Num.B_eq]; omega⟩
          have a3 : (c + y).tmod 4294967296 = (c + y) % 4294967296 := Int.tmod_eq_emod_of_nonneg (by omega)
          have a4 : (c + y).tdiv 4294967296 = (c + y) / 4294967296 := Int.tdiv_eq_ediv_of_nonneg (by omega)
          have a5 : IntKind.u64.wrap ((c + y) % 4294967296) = (c + y) % 4294967296 := wrap_u _ ⟨by omega, by rw [Num.B_eq]; omega⟩
          have a6 : IntKind.u64.wrap ((c + y) / 4294967296) = (c + y) / 4294967296 := wrap_u _ ⟨by omega, by rw [Num.B_eq]; omega⟩
          have HS := Lib.hid (HI.out.step HLT.out HA.out.2.2 HB.out.2.2 (T := c + y) (by rw [HXY.out.1, HXY.out.2]; omega))
          clear hx0
          go_wp2
          exact ⟨⟨k + 1, _, _, HLT.out, by simp, rfl, HS.out⟩, by have := HLT.out; simp [intOf]; omega⟩
        · skip
          have t1 : decide ((k : Int) < (n : Int)) = false := by simp; omega
          have hx0 : x = 0 := by rw [← HXY.out.1]; exact lg_out (by rw [HA.out.2.1]; omega)
          have t2 : decide ((k : Int) < (m : Int)) = false := by simp; omega
          have hy0 : y = 0 := by rw [← HXY.out.2]; exact lg_out (by rw [HB.out.2.1]; omega)
          have a3 : (c).tmod 4294967296 = (c) % 4294967296 := Int.tmod_eq_emod_of_nonneg (by omega)
          have a4 : (c).tdiv 4294967296 = (c) / 4294967296 := Int.tdiv_eq_ediv_of_nonneg (by omega)
          have a5 : IntKind.u64.wrap ((c) % 4294967296) = (c) % 4294967296 := wrap_u _ ⟨by omega, by rw [Num.B_eq]; omega⟩
          have a6 : IntKind.u64.wrap ((c) / 4294967296) = (c) / 4294967296 := wrap_u _ ⟨by omega, by rw [Num.B_eq]; omega⟩
          have HS := Lib.hid (HI.out.step HLT.out HA.out.2.2 HB.out.2.2 (T := c) (by rw [HXY.out.1, HXY.out.2]; omega))
          clear hx0
          clear hy0
          go_wp2
          exact ⟨⟨k + 1, _, _, HLT.out, by simp, rfl, HS.out⟩, by have := HLT.out; simp [intOf]; omega⟩
    · have he : k = M + 1 := by omega
      subst he
      have h1 : decide (((M + 1 : Nat) : Int) < (M : Int) + 1) = false := by simp
      have HT := Lib.hid (trim_end (w := w) (Nat.le_of_eq HB1.out.2) hI.blk hI.len (by omega) hI.lim (sum_end hI.len hI.lim HA.out.2.2 HB.out.2.2 (by rw [HA.out.2.1]; exact HM.out.1) (by rw [HB.out.2.1]; exact HM.out.2.1) hI.bit hI.val) (Only.below HB1.out.1 hI.only (by rw [HB1.out.2]; exact Nat.le_refl _)))
      have hlen := hI.len
      clear hI hlt hk
      go_wp2_with fail
      refine (HT.out).mono ?_
      rintro e w4 ⟨x, r, rfl, hr⟩
      have HR := Lib.hid hr
      clear hr
      go_wp2
      go_ret
      exact ⟨x, r, rfl, HR.out⟩
end Go.Proofs.YtimpimnaknkgpaaDoor
