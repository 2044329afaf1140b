import Derived.Test.YtimpimnaknkgpaaGreatDoorR1
namespace Go.Proofs.YtimpimnaknkgpaaGreatDoor
open Go.RowKit
open Num hiding B B_eq Lim sumB win sumB_congr Bp Bs sumB_bd subD subC sub_one addD addC add_one win_s win_congr take_step mul_one addp_step lv sumB_zero lv_of lv_bd lv_nil lv_trim Lim_zero win_zero sum_step Bmono sum_end len_of_lv ordN_val lv_lt_of_len ordL_val take_end win_split mul_step win_low win_bd win_change YB lv_set OfI dgt_lv
open Num32
set_option linter.unusedVariables false
set_option linter.unusedSimpArgs false

theorem NatW.step {g N k j : Nat} {v : Int} {w w1 : World} {b : List Int} (h : NatW g N v w k b w1) (hj : j = N - 1 - k) (hk : k < N) : NatW g N v w (k + 1) (b.set j (dgt v k)) (w1.setCell ⟨g, j, none⟩ (.int .u8 (dgt v k))) := by
  refine ⟨h.blk.set _ _, by rw [List.length_set]; exact h.len, ?_, ?_, h.only.set _ _⟩
  · intro t
    rw [lg_set]
    split
    · exact dgt_bd _ _
    · exact h.bd t
  · intro t ht
    rw [lg_set]
    by_cases e : t = k
    · subst e
      rw [if_pos ⟨hj, by rw [h.len]; omega⟩]
    · rw [if_neg (by omega)]
      exact h.val t (by omega)

theorem NatW.drN {g N k : Nat} {v : Int} {w w1 : World} {b : List Int} (h : NatW g N v w k b w1) (n : Nat) : NatW g N v w k b (w1.drewN n) := ⟨h.blk, h.len, h.bd, h.val, h.only.drN n⟩
theorem NatW.at {g N : Nat} {v : Int} {w w1 : World} {b : List Int} (h : NatW g N v w N b w1) (j : Nat) (hj : j < N) : lg b j = dgt v (N - 1 - j) := by
  have := h.val (N - 1 - j) (by omega)
  rw [show N - 1 - (N - 1 - j) = j by omega] at this
  exact this

set_option maxHeartbeats 1000000 in
set_option maxRecDepth 100000 in
theorem nat_r (A0 : Option Addr) (n c0 : Nat) (l : List Int) (hn : l.length = n) (hn4 : n ≤ 20000) (hc0 : n ≤ c0) (w : World) (ha : RL w A0 l) (hla : Lim l) :
    Calls Tryz.prog 51 #[.slice A0 n c0] w fun e w' => e = .returned (.string (encN (lv l))) ∧ Below w.heap.size w w' := by
  have hpl := take_trim_len l
  have hva := lv_trim l
  rw [hn] at hpl hva
  have hp4 := trimN_le l n
  have hlx := hla.take (trimN l n)
  have hxr := ha.take (trimN l n)
  have HTR := Lib.hid (trim_r A0 n c0 l hn hc0 w ha)
  rw [← hva]
  generalize hx : l.take (trimN l n) = x at *
  generalize hp : trimN l n = p at *
  have HXR := Lib.hid hxr
  have HLX := Lib.hid (And.intro hlx hpl)
  have hmk := make_runB (4 * p) (by omega)
  have hp5 : p ≤ 20000 := by omega
  have hpc : p ≤ c0 := by omega
  have a0 : IntKind.i64.wrap (4 * (p : Int)) = ((4 * p : Nat) : Int) := by rw [IntWalk.i64_in _ (by omega)]; rfl
  have a1 : 4 * (p : Int) = ((4 * p : Nat) : Int) := rfl
  obtain ⟨N, hN⟩ : ∃ N, 4 * p = N := ⟨_, rfl⟩
  rw [hN] at a0 a1 hmk
  have HN4 := Lib.hid (show 4 * p = N ∧ p ≤ 20000 from ⟨hN, hp5⟩)
  clear ha hn hla hx hp hva hxr hpl hlx hN hp4
  go_enter Tryz.func51, Tryz.ntmps51
  go_wp2_with fail
  refine (HTR.out).mono ?_
  rintro e w5 ⟨rfl, ⟨nd, rfl⟩⟩
  go_wp2
  have hb1 : Below w.heap.size (w.drewN nd) ((w.drewN nd).alloc (.cells (madeCells #[.int .u8 0] N) 5)) := (Below.refl _ _).alloc (by simp) _
  have hk0 := made_blkB (w.drewN nd) N
  rw [show (w.drewN nd).heap.size = w.heap.size from rfl] at hk0
  have hx1 := (HXR.out.drN nd).below hb1 (by simp)
  have hxg : ∀ _ : 0 < x.length, ∀ ad, A0 = some ad → ad.block ≠ w.heap.size := fun hp ad e => Nat.ne_of_lt (HXR.out.lt hp ad e)
  have hbw := (bdrN (Below.refl w.heap.size w) nd).trans hb1
  generalize hw3 : (w.drewN nd).alloc (.cells (madeCells #[.int .u8 0] N) 5) = w3 at *
  have HGG := Lib.hid (Nat.le_refl w.heap.size)
  obtain ⟨g, hg⟩ : ∃ g, w.heap.size = g := ⟨_, rfl⟩
  rw [hg] at hk0 hxg ⊢
  have H0 := Lib.hid (show NatW g N (lv x) w3 0 (List.replicate N 0) w3 from ⟨hk0, by simp, fun j => by rw [lg_replicate]; exact ⟨Int.le_refl _, by decide⟩, fun i h => by omega, Only.refl _ _⟩)
  have HX := Lib.hid hx1
  have HXG := Lib.hid hxg
  have HBW := Lib.hid (show Below g w w3 by rw [← hg]; exact hbw)
  have HGW := Lib.hid hg
  clear hk0 hx1 hxg hb1 hbw hw3 hmk a0 a1 hg HGG
  go_loopw [4] (fun t w1 => ∃ (k : Nat) (b : List Int), k ≤ N ∧ t = .int .i64 k ∧ NatW g N (lv x) w3 k b w1) (fun t _ => N - (intOf t).toNat)
  case atStart => exact ⟨0, _, Nat.zero_le _, rfl, H0.out⟩
  case round =>
    obtain ⟨k, b, hk, rfl, hI⟩ := hrel
    by_cases hlt : k < N
    · have h1 : decide ((k : Int) < (N : Int)) = true := by simp; omega
      obtain ⟨q8, hq8⟩ : ∃ q8, k / 4 = q8 := ⟨_, rfl⟩
      obtain ⟨e8, he8⟩ : ∃ e8, 8 * (k % 4) = e8 := ⟨_, rfl⟩
      obtain ⟨j, hj⟩ : ∃ j, j = N - 1 - k := ⟨_, rfl⟩
      have hq : q8 < p := by have := HN4.out; omega
      obtain ⟨ad, rfl, hcl⟩ := (HX.out.only hI.only (fun hp ad' e => HXG.out hp ad' e)).2 (by rw [HLX.out.2]; omega)
      have hc2 := hcl q8 (by rw [HLX.out.2]; exact hq)
      have hce := hI.blk.cell j (by rw [hI.len]; omega)
      have hfr := hI.blk.free j
      have hd : lg x q8 / 2 ^ e8 % 256 = dgt (lv x) k := by rw [dgt_lv HLX.out.1, hq8, Y2, he8]
      have HD := Lib.hid hd
      have HI := Lib.hid hI
      have HJ := Lib.hid (And.intro hj hk)
      have a0 : (k : Int) / 4 = (q8 : Int) := by omega
      have a2 : (N : Int) - 1 - (k : Int) = (j : Int) := by omega
      have a3 : ((k : Int) % 4) * 8 = (e8 : Int) := by omega
      have hjN : j < N := by omega
      have hN9 : N ≤ 80000 := by have := HN4.out; omega
      have he64 : e8 ≤ 32 := by omega
      clear hI hcl hd hj hk hq8 he8
      go_wp2
      rw [HD.out]
      obtain ⟨hj, hk⟩ := HJ.out
      exact ⟨⟨k + 1, _, by omega, by go_num, HI.out.step hj (by omega)⟩, by simp [intOf]; omega⟩
    · have he : k = N := by omega
      subst he
      have h1 : decide ((k : Int) < (k : Int)) = false := by simp
      have hbl : Below w.heap.size w wr := by have h1 := Only.below HBW.out hI.only (Nat.le_refl _); rw [← HGW.out] at h1; exact h1
      have HV := Lib.hid (show 0 ≤ lv x ∧ lv x < 256 ^ k by
        have h1 := lv_bd HLX.out.1
        rw [HLX.out.2, ← YB, HN4.out.1] at h1
        exact h1)
      have HBL := Lib.hid hbl
      have HI := Lib.hid hI
      have hlen := hI.len
      have hN9 : k ≤ 80000 := by have := HN4.out; omega
      clear hI hbl hk hlt hlen
      go_wp2
      go_loopw [5] (fun t w1 => ∃ m : Nat, m ≤ k ∧ t = .int .i64 m ∧ Hid (∀ j, j < m → lg b j = 0) ∧ Dr wr w1) (fun t _ => k - (intOf t).toNat)
      case atStart => exact ⟨0, Nat.zero_le _, rfl, Lib.hid (fun j h => by omega), Dr.refl _⟩
      case round =>
        obtain ⟨m, hm, rfl, HZ, ⟨nd2, rfl⟩⟩ := hrel
        by_cases hlt : m < k
        · have h1 : decide ((m : Int) < (k : Int)) = true := by simp; omega
          have hc := HI.out.blk.cell m (by rw [HI.out.len]; exact hlt)
          by_cases hz : lg b m = 0
          · rw [hz] at hc
            have HZ2 := Lib.hid (show ∀ j, j < m + 1 → lg b j = 0 from fun j hj => if e : j = m then by rw [e]; exact hz else HZ.out j (by omega))
            clear hz
            go_wp2
            repeat (go_quiet (fail); try go_wp2)
            exact ⟨⟨m + 1, by omega, by simp, HZ2, by repeat (first | exact Dr.refl _ | apply Dr.step)⟩, by simp [intOf]; omega⟩
          · have hz1 : (lg b m == 0) = false := beq_eq_false_iff_ne.mpr hz
            have HZ1 := Lib.hid hz
            have hcv := (HI.out.drN nd2).textFrom (k := m) (by omega) (top_nb HV.out.1 HV.out.2 hlt (fun j hj => by rw [← HI.out.at j (by omega)]; exact HZ.out j hj) (by rw [← HI.out.at m hlt]; exact hz)) (k - m)
            clear hz
            go_wp2
            repeat (go_quiet (fail); try go_wp2)
            go_ret
            exact ⟨rfl, bdrN HBL.out _⟩
        · have he : m = k := by omega
          subst he
          have h1 : decide ((m : Int) < (m : Int)) = false := by simp
          have hv0 := all_nb HV.out.1 HV.out.2 (fun j hj => by rw [← HI.out.at j hj]; exact HZ.out j hj)
          have hcv : (convert 64 22 (.slice (some ⟨g, 0, none⟩) 0 0)).run Tryz.prog (wr.drewN nd2) = .ok (.string ⟨#[]⟩) (wr.drewN nd2) :=
            run_convert_bytes_back (P := Tryz.prog) (wr.drewN nd2) 64 22 5 ⟨g, 0, none⟩ 0 [] Tryz.underlying64 Tryz.underlying5 Tryz.underlying22 (fun j hj => by simp at hj)
          have HV0 := Lib.hid hv0
          clear hv0
          go_wp2
          repeat (go_quiet (fail); try go_wp2)
          go_ret
          exact ⟨by rw [HV0.out, encN_zero]; rfl, bdrN HBL.out _⟩
end Go.Proofs.YtimpimnaknkgpaaGreatDoor
