import Derived.Test.YtimpimnaknkgpaaGreatDoorR3
namespace Go.Proofs.YtimpimnaknkgpaaGreatDoor
open Go.RowKit
open Num hiding B B_eq Lim sumB win sumB_congr Bp Bs sumB_bd subD subC sub_one addD addC add_one win_s win_congr take_step mul_one addp_step lv sumB_zero lv_of lv_bd lv_nil lv_trim Lim_zero win_zero sum_step Bmono sum_end len_of_lv ordN_val lv_lt_of_len ordL_val take_end win_split mul_step win_low win_bd win_change YB lv_set OfI dgt_lv
open Num32
set_option linter.unusedVariables false
set_option linter.unusedSimpArgs false

theorem put_sgn32 {n : Bool} {v : Int} (h0 : 0 ≤ v) : Value.agg #[.bool (decide (sgn n v < 0)), .string (encN v)] = putV (sgn n v) := by
  unfold putV
  have e : v = ((sgn n v).natAbs : Int) := by
    unfold sgn
    split <;> omega
  rw [← e]

set_option maxHeartbeats 1000000 in
set_option maxRecDepth 100000 in
theorem make0_r (neg : Bool) (A0 : Option Addr) (n c0 : Nat) (l : List Int) (hn : l.length = n) (hn4 : n ≤ 20000) (hc0 : n ≤ c0) (w : World) (ha : RL w A0 l) (hla : Lim l) :
    Calls Tryz.prog 29 #[.bool neg, .slice A0 n c0] w fun e w' => e = .returned (putV (sgn neg (lv l))) ∧ Below w.heap.size w w' := by
  have hb1 : Below w.heap.size w (w.alloc (.cells #[.bool false, .string ⟨#[]⟩] 24)) := (Below.refl _ _).alloc (Nat.le_refl _) _
  obtain ⟨w1, hw1⟩ : ∃ w1, w1 = w.alloc (.cells #[.bool false, .string ⟨#[]⟩] 24) := ⟨_, rfl⟩
  have d0 : w1.cell? ⟨w.heap.size, 0, none⟩ = some (.bool false) := by rw [hw1]; simp [go_sem]
  have d1 : w1.cell? ⟨w.heap.size, 1, none⟩ = some (.string ⟨#[]⟩) := by rw [hw1]; simp [go_sem]
  have d2 : w1.frozen? ⟨w.heap.size, 0, none⟩ = false := by rw [hw1]; simp [go_sem]
  have d3 : w1.frozen? ⟨w.heap.size, 1, none⟩ = false := by rw [hw1]; simp [go_sem]
  have hs1 : w1.heap.size = w.heap.size + 1 := by rw [hw1]; simp
  rw [← hw1] at hb1
  have HN := Lib.hid (nat_r A0 n c0 l hn hn4 hc0 w1 (rl_below hb1 ha (Nat.le_refl _)) hla)
  have HW := Lib.hid hw1
  have HB := Lib.hid hb1
  have HS := Lib.hid hs1
  have hpos := (lv_bd hla).1
  rw [← put_sgn32 hpos]
  obtain ⟨v, hv⟩ : ∃ v, lv l = v := ⟨_, rfl⟩
  obtain ⟨s, hs⟩ : ∃ s, encN v = s := ⟨_, rfl⟩
  have hss : s.size = nb v := by rw [← hs]; exact encN_size _
  rw [hv, hs] at HN
  rw [hv] at hpos
  rw [hv, hs]
  obtain ⟨b, hb⟩ : ∃ b, decide (sgn neg v < 0) = b := ⟨_, rfl⟩
  rw [hb]
  have hcases : (neg = false ∧ b = false) ∨ (neg = true ∧ v = 0 ∧ b = false ∧ s.size = 0) ∨ (neg = true ∧ b = true ∧ 0 < s.size) := by
    cases neg with
    | false => exact .inl ⟨rfl, by rw [← hb]; simp [sgn]; omega⟩
    | true =>
      rcases (show v = 0 ∨ 0 < v by omega) with h | h
      · exact .inr (.inl ⟨rfl, h, by rw [← hb]; simp [sgn]; omega, by rw [hss, h, nb_zero]⟩)
      · exact .inr (.inr ⟨rfl, by rw [← hb]; simp [sgn]; omega, by rw [hss]; exact (nb_spec h).2.2⟩)
  clear hw1 hb1 hs1 ha hla hn hpos hv hs hss hb
  rcases hcases with ⟨rfl, rfl⟩ | ⟨rfl, -, rfl, hz⟩ | ⟨rfl, rfl, hz⟩
  · go_enter Tryz.func29, Tryz.ntmps29
    go_wp2_with fail
    rw [← HW.out]
    refine (HN.out).mono ?_
    rintro e w2 ⟨rfl, hb2⟩
    have c0 := (hb2.cell (p := ⟨w.heap.size, 0, none⟩) (by have := HS.out; simp; omega)).trans d0
    have c1 := (hb2.cell (p := ⟨w.heap.size, 1, none⟩) (by have := HS.out; simp; omega)).trans d1
    have c2 := (hb2.frozen (p := ⟨w.heap.size, 0, none⟩) (by have := HS.out; simp; omega)).trans d2
    have c3 := (hb2.frozen (p := ⟨w.heap.size, 1, none⟩) (by have := HS.out; simp; omega)).trans d3
    have HB3 := Lib.hid (HB.out.trans (hb2.mono HB.out.size))
    clear hb2 d0 d1 d2 d3
    go_wp2
    refine bodyPost_ret (by simp [results, Tryz.results29, go_sem, c0, c1]; try rfl) rfl ?_
    exact ⟨rfl, (HB3.out.setCell (by simp; try omega) _).setCell (by simp; try omega) _⟩
  · obtain ⟨t1, t2⟩ := toList_nil hz
    clear hz
    go_enter Tryz.func29, Tryz.ntmps29
    go_wp2_with fail
    rw [← HW.out]
    refine (HN.out).mono ?_
    rintro e w2 ⟨rfl, hb2⟩
    have c0 := (hb2.cell (p := ⟨w.heap.size, 0, none⟩) (by have := HS.out; simp; omega)).trans d0
    have c1 := (hb2.cell (p := ⟨w.heap.size, 1, none⟩) (by have := HS.out; simp; omega)).trans d1
    have c2 := (hb2.frozen (p := ⟨w.heap.size, 0, none⟩) (by have := HS.out; simp; omega)).trans d2
    have c3 := (hb2.frozen (p := ⟨w.heap.size, 1, none⟩) (by have := HS.out; simp; omega)).trans d3
    have HB3 := Lib.hid (HB.out.trans (hb2.mono HB.out.size))
    clear hb2 d0 d1 d2 d3
    go_wp2
    refine bodyPost_ret (by simp [results, Tryz.results29, go_sem, c0, c1]; try rfl) rfl ?_
    exact ⟨rfl, (HB3.out.setCell (by simp; try omega) _).setCell (by simp; try omega) _⟩
  · obtain ⟨t1, t2⟩ := toList_ne hz
    clear hz
    go_enter Tryz.func29, Tryz.ntmps29
    go_wp2_with fail
    rw [← HW.out]
    refine (HN.out).mono ?_
    rintro e w2 ⟨rfl, hb2⟩
    have c0 := (hb2.cell (p := ⟨w.heap.size, 0, none⟩) (by have := HS.out; simp; omega)).trans d0
    have c1 := (hb2.cell (p := ⟨w.heap.size, 1, none⟩) (by have := HS.out; simp; omega)).trans d1
    have c2 := (hb2.frozen (p := ⟨w.heap.size, 0, none⟩) (by have := HS.out; simp; omega)).trans d2
    have c3 := (hb2.frozen (p := ⟨w.heap.size, 1, none⟩) (by have := HS.out; simp; omega)).trans d3
    have HB3 := Lib.hid (HB.out.trans (hb2.mono HB.out.size))
    clear hb2 d0 d1 d2 d3
    go_wp2
    refine bodyPost_ret (by simp [results, Tryz.results29, go_sem, c0, c1]; try rfl) rfl ?_
    exact ⟨rfl, (HB3.out.setCell (by simp; try omega) _).setCell (by simp; try omega) _⟩

set_option maxHeartbeats 1000000 in
theorem of_r (n : Int) (h1 : -9223372036854775808 ≤ n) (h2 : n ≤ 9223372036854775807) (w : World) :
    Calls Tryz.prog 21 #[.int .i64 n] w fun e w' => e = .returned (putV n) ∧ Below w.heap.size w w' := by
  have hb1 : Below w.heap.size w (w.alloc (.cells #[.bool false, .string ⟨#[]⟩] 24)) := (Below.refl _ _).alloc (Nat.le_refl _) _
  obtain ⟨w1, hw1⟩ : ∃ w1, w1 = w.alloc (.cells #[.bool false, .string ⟨#[]⟩] 24) := ⟨_, rfl⟩
  have d0 : w1.cell? ⟨w.heap.size, 0, none⟩ = some (.bool false) := by rw [hw1]; simp [go_sem]
  have d1 : w1.cell? ⟨w.heap.size, 1, none⟩ = some (.string ⟨#[]⟩) := by rw [hw1]; simp [go_sem]
  have d2 : w1.frozen? ⟨w.heap.size, 0, none⟩ = false := by rw [hw1]; simp [go_sem]
  have d3 : w1.frozen? ⟨w.heap.size, 1, none⟩ = false := by rw [hw1]; simp [go_sem]
  have hs1 : w1.heap.size = w.heap.size + 1 := by rw [hw1]; simp
  rw [← hw1] at hb1
  have HW := Lib.hid hw1
  have HB := Lib.hid hb1
  have HS := Lib.hid hs1
  have HSP := fun (x : Int) (hx : 0 ≤ x ∧ x < 18446744073709551616) => split_r x hx (some ⟨w1.heap.size, 0, none⟩) 1 (Nat.le_refl _) (w1.alloc (.cells #[.int .u64 x] 61)) (rl_one w1 x)
  have hal : ∀ x : Int, Below w1.heap.size w1 (w1.alloc (.cells #[.int .u64 x] 61)) := fun x => (Below.refl _ _).alloc (Nat.le_refl _) _
  have HAL := Lib.hid hal
  by_cases hn : n < 0
  · have t1 : decide (n < 0) = true := by simp [hn]
    have a1 : IntKind.i64.wrap (n + 1) = n + 1 := IntWalk.i64_in _ (by omega)
    have a2 : IntKind.i64.wrap (-(n + 1)) = -(n + 1) := IntWalk.i64_in _ (by omega)
    have a3 : IntKind.u64.wrap (-(n + 1)) = -n - 1 := by rw [wrap_u _ ⟨by omega, by rw [Num.B_eq]; omega⟩]; omega
    have a4 : IntKind.u64.wrap (-n - 1 + 1) = -n := by rw [wrap_u _ ⟨by omega, by rw [Num.B_eq]; omega⟩]; omega
    have a5 : IntKind.u64.wrap (-n) = -n := by rw [wrap_u _ ⟨by omega, by rw [Num.B_eq]; omega⟩]
    have HSX := Lib.hid (HSP (-n) ⟨by omega, by omega⟩)
    have HP := Lib.hid (show sgn true (-n) = n ∧ -n < 18446744073709551616 by simp [sgn]; omega)
    clear hw1 hb1 hs1 HSP hal hn h1 h2
    go_enter Tryz.func21, Tryz.ntmps21
    go_wp2_with fail
    rw [← HW.out, show w.heap.size + 1 = w1.heap.size from HS.out.symm]
    refine (HSX.out).mono ?_
    rintro e w2 ⟨x, r, rfl, ⟨A, cc, rfl, hcl, hrl⟩, hlr, htr, hvr, hb2⟩
    have hb3 := (HAL.out (-n)).trans (hb2.mono (by simp))
    have hlen : r.length ≤ 2 := by
      apply len_of_lv htr hlr
      rw [hvr, show (B : Int) = 4294967296 from rfl]
      have := HP.out.2
      omega
    have HM := Lib.hid (make0_r true A r.length cc r rfl (by omega) hcl w2 hrl hlr)
    rw [hvr] at HM
    clear hcl hrl hlr htr hvr hlen hb2
    go_wp2_with fail
    refine (HM.out).mono ?_
    rintro e w4 ⟨rfl, hb4⟩
    have hb5 := hb3.trans (hb4.mono hb3.size)
    have c0 := (hb5.cell (p := ⟨w.heap.size, 0, none⟩) (by have := HS.out; simp; omega)).trans d0
    have c1 := (hb5.cell (p := ⟨w.heap.size, 1, none⟩) (by have := HS.out; simp; omega)).trans d1
    have c2 := (hb5.frozen (p := ⟨w.heap.size, 0, none⟩) (by have := HS.out; simp; omega)).trans d2
    have c3 := (hb5.frozen (p := ⟨w.heap.size, 1, none⟩) (by have := HS.out; simp; omega)).trans d3
    have HB3 := Lib.hid (HB.out.trans (hb5.mono HB.out.size))
    clear hb3 hb4 hb5 d0 d1 d2 d3
    rw [HP.out.1]
    unfold putV
    go_wp2
    refine bodyPost_ret (by simp [results, Tryz.results21, go_sem, c0, c1]; try rfl) rfl ?_
    exact ⟨by unfold putV; rw [t1], (HB3.out.setCell (by simp; try omega) _).setCell (by simp; try omega) _⟩
  · have t1 : decide (n < 0) = false := by simp; omega
    have a5 : IntKind.u64.wrap n = n := by rw [wrap_u _ ⟨by omega, by rw [Num.B_eq]; omega⟩]
    have HSX := Lib.hid (HSP n ⟨by omega, by omega⟩)
    have HP := Lib.hid (show sgn false n = n ∧ n < 18446744073709551616 by simp [sgn]; omega)
    clear hw1 hb1 hs1 HSP hal hn h1 h2
    go_enter Tryz.func21, Tryz.ntmps21
    go_wp2_with fail
    rw [← HW.out, show w.heap.size + 1 = w1.heap.size from HS.out.symm]
    refine (HSX.out).mono ?_
    rintro e w2 ⟨x, r, rfl, ⟨A, cc, rfl, hcl, hrl⟩, hlr, htr, hvr, hb2⟩
    have hb3 := (HAL.out n).trans (hb2.mono (by simp))
    have hlen : r.length ≤ 2 := by
      apply len_of_lv htr hlr
      rw [hvr, show (B : Int) = 4294967296 from rfl]
      have := HP.out.2
      omega
    have HM := Lib.hid (make0_r false A r.length cc r rfl (by omega) hcl w2 hrl hlr)
    rw [hvr] at HM
    clear hcl hrl hlr htr hvr hlen hb2
    go_wp2_with fail
    refine (HM.out).mono ?_
    rintro e w4 ⟨rfl, hb4⟩
    have hb5 := hb3.trans (hb4.mono hb3.size)
    have c0 := (hb5.cell (p := ⟨w.heap.size, 0, none⟩) (by have := HS.out; simp; omega)).trans d0
    have c1 := (hb5.cell (p := ⟨w.heap.size, 1, none⟩) (by have := HS.out; simp; omega)).trans d1
    have c2 := (hb5.frozen (p := ⟨w.heap.size, 0, none⟩) (by have := HS.out; simp; omega)).trans d2
    have c3 := (hb5.frozen (p := ⟨w.heap.size, 1, none⟩) (by have := HS.out; simp; omega)).trans d3
    have HB3 := Lib.hid (HB.out.trans (hb5.mono HB.out.size))
    clear hb3 hb4 hb5 d0 d1 d2 d3
    rw [HP.out.1]
    unfold putV
    go_wp2
    refine bodyPost_ret (by simp [results, Tryz.results21, go_sem, c0, c1]; try rfl) rfl ?_
    exact ⟨by unfold putV; rw [t1], (HB3.out.setCell (by simp; try omega) _).setCell (by simp; try omega) _⟩
end Go.Proofs.YtimpimnaknkgpaaGreatDoor
