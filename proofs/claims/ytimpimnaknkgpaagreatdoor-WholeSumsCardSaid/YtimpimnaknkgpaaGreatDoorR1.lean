import Derived.Test.YtimpimnaknkgpaaGreatDoorY
import Derived.Test.YtimpimnaknkgpaaGreatDoorZc
import Derived.Test.YtimpimnaknkgpaaGreatDoorR0
namespace Go.Proofs.YtimpimnaknkgpaaGreatDoor
open Go.RowKit
open Num hiding B B_eq Lim sumB win sumB_congr Bp Bs sumB_bd subD subC sub_one addD addC add_one win_s win_congr take_step mul_one addp_step lv sumB_zero lv_of lv_bd lv_nil lv_trim Lim_zero win_zero sum_step Bmono sum_end len_of_lv ordN_val lv_lt_of_len ordL_val take_end win_split mul_step win_low win_bd win_change YB lv_set OfI dgt_lv
open Num32
set_option linter.unusedVariables false
set_option linter.unusedSimpArgs false

set_option maxHeartbeats 400000 in
theorem trim_r (A0 : Option Addr) (n c0 : Nat) (l : List Int) (hn : l.length = n) (hc0 : n ≤ c0) (w : World) (hr : RL w A0 l) :
    Calls Tryz.prog 50 #[.slice A0 n c0] w fun e w' => e = .returned (.slice A0 (trimN l n) c0) ∧ Dr w w' := by
  have hl := hr.1
  have hl2 : n ≤ 9223372036854775807 := by omega
  have HR := Lib.hid hr
  have HN := Lib.hid hn
  clear hr hn hl
  go_enter Tryz.func50, Tryz.ntmps50
  go_wp2
  go_loopw [3] (fun t w' => ∃ k : Nat, k ≤ n ∧ t = .int .i64 k ∧ Hid (trimN l k = trimN l n) ∧ Dr w w') (fun t _ => (intOf t).toNat)
  case atStart => exact ⟨n, Nat.le_refl _, rfl, Lib.hid rfl, Dr.refl _⟩
  case round =>
    obtain ⟨k, hk, rfl, he, ⟨m, rfl⟩⟩ := hrel
    cases k with
    | zero =>
      have h1 : decide ((0 : Int) < ((0 : Nat) : Int)) = false := by simp
      go_wp2
      repeat (go_quiet (fail); try go_wp2)
      go_ret
      have h0 : trimN l n = 0 := he.out.symm
      rw [h0]
      exact ⟨rfl, by repeat (first | exact Dr.refl _ | apply Dr.step)⟩
    | succ k =>
      have h1 : decide ((0 : Int) < ((k + 1 : Nat) : Int)) = true := by simp
      obtain ⟨ad, rfl, hc⟩ := HR.out.2 (by have := HN.out; omega)
      have hc1 := hc k (by have := HN.out; omega)
      clear hc
      have he' := he.out
      clear he
      by_cases hz : lg l k = 0
      · rw [trimN_s0 hz] at he'
        have he := Lib.hid he'
        clear he'
        rw [hz] at hc1
        clear hz
        go_wp2
        repeat (go_quiet (fail); try go_wp2)
        exact ⟨⟨k, by omega, rfl, he, by repeat (first | exact Dr.refl _ | apply Dr.step)⟩, by simp [intOf]⟩
      · rw [trimN_s1 hz] at he'
        have he := Lib.hid he'
        clear he'
        have hz1 : (lg l k == 0) = false := beq_eq_false_iff_ne.mpr hz
        clear hz
        go_wp2
        repeat (go_quiet (fail); try go_wp2)
        go_ret
        have h0 : trimN l n = k + 1 := he.out.symm
        rw [h0]
        exact ⟨rfl, by repeat (first | exact Dr.refl _ | apply Dr.step)⟩


theorem top_zero {v : Int} {N : Nat} (h0 : 0 ≤ v) (hN : v < 256 ^ N) : ∀ k, k ≤ N → (∀ j, j < k → dgt v (N - 1 - j) = 0) → v < 256 ^ (N - k)
  | 0, _, _ => by simpa using hN
  | k + 1, hk, h => by
    have ih := top_zero h0 hN k (by omega) fun j hj => h j (by omega)
    have hd := h k (by omega)
    unfold dgt at hd
    rw [show N - k = (N - 1 - k) + 1 by omega, Ys] at ih
    rw [show N - (k + 1) = N - 1 - k by omega]
    have hp := Yp (N - 1 - k)
    generalize (256 : Int) ^ (N - 1 - k) = p at *
    have h1 : v / p < 256 := Int.ediv_lt_of_lt_mul hp (by rw [Int.mul_comm]; omega)
    have h2 : 0 ≤ v / p := Int.ediv_nonneg h0 (by omega)
    have h3 : v / p = 0 := by omega
    have h4 := Int.emod_lt_of_pos v hp
    have h5 := Int.emod_add_mul_ediv v p
    rw [h3] at h5
    omega
theorem top_nb {v : Int} {N k : Nat} (h0 : 0 ≤ v) (hN : v < 256 ^ N) (hk : k < N) (h : ∀ j, j < k → dgt v (N - 1 - j) = 0) (hd : dgt v (N - 1 - k) ≠ 0) : nb v = N - k := by
  have h1 := top_zero h0 hN k (by omega) h
  rw [show N - k = (N - 1 - k) + 1 by omega] at h1 ⊢
  refine nb_of ?_ h1
  refine Int.le_of_not_gt fun h2 => hd ?_
  unfold dgt
  rw [Int.ediv_eq_zero_of_lt h0 h2]
  rfl
theorem all_nb {v : Int} {N : Nat} (h0 : 0 ≤ v) (hN : v < 256 ^ N) (h : ∀ j, j < N → dgt v (N - 1 - j) = 0) : v = 0 := by
  have h1 := top_zero h0 hN N (Nat.le_refl _) h
  simp at h1
  omega
theorem NatW.textFrom {g N : Nat} {v : Int} {w : World} {b : List Int} {w1 : World} (h : NatW g N v w N b w1) {k : Nat} (hk : k ≤ N) (hN : nb v = N - k) (c : Nat) :
    (convert 64 22 (.slice (some ⟨g, k, none⟩) (N - k) c)).run Tryz.prog w1 = .ok (.string (encN v)) w1 := by
  have := run_convert_bytes_back (P := Tryz.prog) w1 64 22 5 ⟨g, k, none⟩ c ((b.drop k).map fun x => UInt8.ofNat x.toNat) Tryz.underlying64 Tryz.underlying5 Tryz.underlying22 (fun j hj => by
    rw [List.length_map, List.length_drop, h.len] at hj
    have hc := h.blk.cell (k + j) (by rw [h.len]; omega)
    have ha : (⟨g, k, none⟩ : Addr).add j = ⟨g, k + j, none⟩ := by unfold Addr.add; split <;> simp_all
    rw [ha, hc]
    have hx : lg b (k + j) = b[k + j]'(by rw [h.len]; omega) := by unfold lg; rw [List.getD_eq_getElem?_getD, List.getElem?_eq_getElem (by rw [h.len]; omega)]; rfl
    have := h.bd (k + j)
    rw [List.getElem_map, ofNat_toNat_lt (by rw [hx] at this; rw [List.getElem_drop]; omega), List.getElem_drop, ← hx]
    congr 2
    omega)
  rw [List.length_map, List.length_drop, h.len] at this
  rw [this]
  have hs : (⟨((b.drop k).map fun x => UInt8.ofNat x.toNat).toArray⟩ : ByteArray) = encN v := by
    have he : encN v = ⟨((List.range (N - k)).map fun j => UInt8.ofNat (dgt v (N - k - 1 - j)).toNat).toArray⟩ := by
      rw [← hN]
      rfl
    rw [he]
    refine congrArg (fun l : List UInt8 => (⟨l.toArray⟩ : ByteArray)) ?_
    apply List.ext_getElem
    · simp [h.len]
    · intro i h1 h2
      rw [List.length_map, List.length_drop, h.len] at h1
      have hv := h.val (N - k - 1 - i) (by omega)
      rw [show N - 1 - (N - k - 1 - i) = k + i by omega] at hv
      have hx : lg b (k + i) = b[k + i]'(by rw [h.len]; omega) := by unfold lg; rw [List.getD_eq_getElem?_getD, List.getElem?_eq_getElem (by rw [h.len]; omega)]; rfl
      rw [hx] at hv
      simp [hv]
  rw [hs]
end Go.Proofs.YtimpimnaknkgpaaGreatDoor
