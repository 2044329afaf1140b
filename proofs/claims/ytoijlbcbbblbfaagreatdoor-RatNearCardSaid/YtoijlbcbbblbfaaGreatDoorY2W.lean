import Derived.Test.YtoijlbcbbblbfaaGreatDoorY2U
namespace Go.Proofs.YtoijlbcbbblbfaaGreatDoor
open Go.RowKit Num
set_option linter.unusedVariables false
set_option linter.unusedSimpArgs false

set_option maxHeartbeats 1000000 in
theorem of_w (n : Int) (h1 : -9223372036854775808 ≤ n) (h2 : n ≤ 9223372036854775807) (w : World) :
  Calls Tryz.prog 54 #[.int .i64 n] w fun e w' => e = .returned (putV n) ∧ Below w.heap.size w w' := by
 have hb1 : Below w.heap.size w (w.alloc (.cells #[.bool false, .string ⟨#[]⟩] 24)) := (Below.refl _ _).alloc (Nat.le_refl _) _
 have d0 : (w.alloc (.cells #[.bool false, .string ⟨#[]⟩] 24)).cell? ⟨w.heap.size, 0, none⟩ = some (.bool false) := by simp [go_sem]
 have d1 : (w.alloc (.cells #[.bool false, .string ⟨#[]⟩] 24)).cell? ⟨w.heap.size, 1, none⟩ = some (.string ⟨#[]⟩) := by simp [go_sem]
 have d2 : (w.alloc (.cells #[.bool false, .string ⟨#[]⟩] 24)).frozen? ⟨w.heap.size, 0, none⟩ = false := by simp [go_sem]
 have d3 : (w.alloc (.cells #[.bool false, .string ⟨#[]⟩] 24)).frozen? ⟨w.heap.size, 1, none⟩ = false := by simp [go_sem]
 have hs1 : (w.alloc (.cells #[.bool false, .string ⟨#[]⟩] 24)).heap.size = w.heap.size + 1 := by simp
 obtain ⟨w1, hw1⟩ : ∃ w1, w1 = w.alloc (.cells #[.bool false, .string ⟨#[]⟩] 24) := ⟨_, rfl⟩
 rw [← hw1] at hb1 d0 d1 d2 d3 hs1
 have HW := Lib.hid hw1
 have HB := Lib.hid hb1
 have HS := Lib.hid hs1
 have HT := fun (b : Bool) (x : Int) (hx : 0 ≤ x ∧ x < B) => told_c b (some ⟨w1.heap.size, 0, none⟩) 1 1 [x] rfl (by omega) (Nat.le_refl _) (w1.alloc (.cells #[.int .u64 x] 79)) (rl_one w1 x) (lim_one hx)
 have hal : ∀ x : Int, Below w1.heap.size w1 (w1.alloc (.cells #[.int .u64 x] 79)) := fun x => (Below.refl _ _).alloc (Nat.le_refl _) _
 have HAL := Lib.hid hal
 by_cases hn : n < 0
 ·have t1 : decide (n < 0) = true := by simp [hn]
  have a1 : IntKind.i64.wrap (n + 1) = n + 1 := IntWalk.i64_in _ (by omega)
  have a2 : IntKind.i64.wrap (-(n + 1)) = -(n + 1) := IntWalk.i64_in _ (by omega)
  have HV := Lib.hid (HT true (-n) ⟨by omega, by rw [B_eq]; omega⟩)
  have a3 : IntKind.u64.wrap (-(n + 1)) = -n - 1 := by rw [wrap_u _ ⟨by omega, by rw [B_eq]; omega⟩]; omega
  have a4 : IntKind.u64.wrap (-n - 1 + 1) = -n := by rw [wrap_u _ ⟨by omega, by rw [B_eq]; omega⟩]; omega
  have a5 : IntKind.u64.wrap (-n) = -n := by rw [wrap_u _ ⟨by omega, by rw [B_eq]; omega⟩]
  have HP := Lib.hid (show sgn true (lv [-n]) = n by rw [lv_one]; simp [sgn])
  have HX := Lib.hid (show Lim [-n] from lim_one ⟨by omega, by rw [B_eq]; omega⟩)
  clear hw1 hb1 hs1 HT hal hn h1 h2
  go_enter Tryz.func54, Tryz.ntmps54
  go_wp2_with fail
  rw [← HW.out, show w.heap.size + 1 = w1.heap.size from HS.out.symm]
  refine (HV.out).mono ?_
  rintro e w2 ⟨rfl, hb2⟩
  have hb3 := (HAL.out (-n)).trans (hb2.mono (by simp))
  have c0 := (hb3.cell (p := ⟨w.heap.size, 0, none⟩) (by have := HS.out; simp; omega)).trans d0
  have c1 := (hb3.cell (p := ⟨w.heap.size, 1, none⟩) (by have := HS.out; simp; omega)).trans d1
  have c2 := (hb3.frozen (p := ⟨w.heap.size, 0, none⟩) (by have := HS.out; simp; omega)).trans d2
  have c3 := (hb3.frozen (p := ⟨w.heap.size, 1, none⟩) (by have := HS.out; simp; omega)).trans d3
  have HB3 := Lib.hid (HB.out.trans (hb3.mono HB.out.size))
  clear hb2 hb3 d0 d1 d2 d3
  go_wp2
  refine bodyPost_ret (by simp [results, Tryz.results54, go_sem, c0, c1]; try rfl) rfl ?_
  exact ⟨by rw [put_sgn HX.out HP.out], (HB3.out.setCell (by simp; try omega) _).setCell (by simp; try omega) _⟩
 ·have t1 : decide (n < 0) = false := by simp; omega
  have HV := Lib.hid (HT false n ⟨by omega, by rw [B_eq]; omega⟩)
  have a5 : IntKind.u64.wrap n = n := by rw [wrap_u _ ⟨by omega, by rw [B_eq]; omega⟩]
  have HP := Lib.hid (show sgn false (lv [n]) = n by rw [lv_one]; simp [sgn])
  have HX := Lib.hid (show Lim [n] from lim_one ⟨by omega, by rw [B_eq]; omega⟩)
  clear hw1 hb1 hs1 HT hal hn h1 h2
  go_enter Tryz.func54, Tryz.ntmps54
  go_wp2_with fail
  rw [← HW.out, show w.heap.size + 1 = w1.heap.size from HS.out.symm]
  refine (HV.out).mono ?_
  rintro e w2 ⟨rfl, hb2⟩
  have hb3 := (HAL.out n).trans (hb2.mono (by simp))
  have c0 := (hb3.cell (p := ⟨w.heap.size, 0, none⟩) (by have := HS.out; simp; omega)).trans d0
  have c1 := (hb3.cell (p := ⟨w.heap.size, 1, none⟩) (by have := HS.out; simp; omega)).trans d1
  have c2 := (hb3.frozen (p := ⟨w.heap.size, 0, none⟩) (by have := HS.out; simp; omega)).trans d2
  have c3 := (hb3.frozen (p := ⟨w.heap.size, 1, none⟩) (by have := HS.out; simp; omega)).trans d3
  have HB3 := Lib.hid (HB.out.trans (hb3.mono HB.out.size))
  clear hb2 hb3 d0 d1 d2 d3
  go_wp2
  refine bodyPost_ret (by simp [results, Tryz.results54, go_sem, c0, c1]; try rfl) rfl ?_
  exact ⟨by rw [put_sgn HX.out HP.out], (HB3.out.setCell (by simp; try omega) _).setCell (by simp; try omega) _⟩
end Go.Proofs.YtoijlbcbbblbfaaGreatDoor
