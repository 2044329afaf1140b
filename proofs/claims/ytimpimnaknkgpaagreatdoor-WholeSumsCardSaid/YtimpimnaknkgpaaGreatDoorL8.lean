import Derived.Test.YtimpimnaknkgpaaGreatDoorL3s
import Derived.Test.YtimpimnaknkgpaaGreatDoorS3
namespace Go.Proofs.YtimpimnaknkgpaaGreatDoor
open Go.RowKit Num
set_option linter.unusedVariables false
set_option linter.unusedSimpArgs false

set_option maxHeartbeats 4000000 in
set_option maxRecDepth 100000 in
theorem sums_big (aB bB : Bool) (aS bS : ByteArray) (HS : Hid (∀ w, Calls Tryz.prog 4 #[.agg #[.bool aB, .string aS], .agg #[.bool bB, .string bS]] w fun e w' => e = .returned (.bool false) ∧ Below w.heap.size w w'))  (w : World) :
    Calls Tryz.prog 3 #[.agg #[.bool aB, .string aS], .agg #[.bool bB, .string bS]] w fun e w' => e = .returned (.bool true) ∧ Below w.heap.size w w' := by
  obtain ⟨W0, hW0⟩ : ∃ W0, W0 = (w.alloc (.cells #[.bool aB, .string aS] 24)).alloc (.cells #[.bool bB, .string bS] 24) := ⟨_, rfl⟩
  have hB0 : Below w.heap.size w W0 := by rw [hW0]; exact ((Below.refl _ _).alloc (by simp; try omega) _).alloc (by simp; try omega) _
  have f0_0 : W0.cell? ⟨w.heap.size, 0, none⟩ = some (.bool aB) := by rw [hW0]; simp [go_sem]
  have f0_1 : W0.cell? ⟨w.heap.size, 1, none⟩ = some (.string aS) := by rw [hW0]; simp [go_sem]
  have f1_0 : W0.cell? ⟨w.heap.size + 1, 0, none⟩ = some (.bool bB) := by rw [hW0]; simp [go_sem]
  have f1_1 : W0.cell? ⟨w.heap.size + 1, 1, none⟩ = some (.string bS) := by rw [hW0]; simp [go_sem]
  have hZ0 : W0.heap.size = w.heap.size + 2 := by rw [hW0]; simp
  have HL0 := Lib.hid (show w.heap.size < W0.heap.size by rw [hZ0]; omega)
  have HL1 := Lib.hid (show w.heap.size + 1 < W0.heap.size by rw [hZ0]; omega)
  have HW0 := Lib.hid hW0
  have HB := Lib.hid hB0
  clear hB0 hZ0 hW0
  have HLV := Lib.hid live_c
  go_enter Tryz.func3, Tryz.ntmps3
  go_wp2_with fail
  rw [← HW0.out]
  refine (HS.out _).mono ?_
  rintro e w1 ⟨rfl, hb1⟩
  have hB1 : Below W0.heap.size W0 (w1) := hb1
  have n0_0 := (hB1.cell (p := ⟨w.heap.size, 0, none⟩) HL0.out).trans f0_0
  have n0_1 := (hB1.cell (p := ⟨w.heap.size, 1, none⟩) HL0.out).trans f0_1
  have n1_0 := (hB1.cell (p := ⟨w.heap.size + 1, 0, none⟩) HL1.out).trans f1_0
  have n1_1 := (hB1.cell (p := ⟨w.heap.size + 1, 1, none⟩) HL1.out).trans f1_1
  clear f0_0 f0_1 f1_0 f1_1
  have HX1 := Lib.hid hB1
  have HY1 := Lib.hid hb1.size
  clear hB1 hb1
  go_wp2_with fail
  have HL0 := Lib.hid (Nat.lt_of_lt_of_le HL0.out HX1.out.size)
  have HL1 := Lib.hid (Nat.lt_of_lt_of_le HL1.out HX1.out.size)
  have HB := Lib.hid (HB.out.trans (HX1.out.mono HB.out.size))
  clear HX1
  have f0_0 := n0_0
  have f0_1 := n0_1
  have f1_0 := n1_0
  have f1_1 := n1_1
  clear n0_0 n0_1 n1_0 n1_1
  refine (HLV.out _).mono ?_
  rintro e w2 ⟨rfl, hb2⟩
  have hB2 : Below w1.heap.size w1 (w2) := hb2
  have n0_0 := (hB2.cell (p := ⟨w.heap.size, 0, none⟩) HL0.out).trans f0_0
  have n0_1 := (hB2.cell (p := ⟨w.heap.size, 1, none⟩) HL0.out).trans f0_1
  have n1_0 := (hB2.cell (p := ⟨w.heap.size + 1, 0, none⟩) HL1.out).trans f1_0
  have n1_1 := (hB2.cell (p := ⟨w.heap.size + 1, 1, none⟩) HL1.out).trans f1_1
  clear f0_0 f0_1 f1_0 f1_1
  have HX2 := Lib.hid hB2
  have HY2 := Lib.hid hb2.size
  clear hB2 hb2
  have HL0 := Lib.hid (Nat.lt_of_lt_of_le HL0.out HX2.out.size)
  have HL1 := Lib.hid (Nat.lt_of_lt_of_le HL1.out HX2.out.size)
  have HB := Lib.hid (HB.out.trans (HX2.out.mono HB.out.size))
  clear HX2
  have f0_0 := n0_0
  have f0_1 := n0_1
  have f1_0 := n1_0
  have f1_1 := n1_1
  clear n0_0 n0_1 n1_0 n1_1
  go_wp2
  go_ret
  exact ⟨rfl, HB.out⟩

set_option maxHeartbeats 4000000 in
set_option maxRecDepth 100000 in
theorem sums_bad (aB bB : Bool) (aS bS : ByteArray) (HS : Hid (∀ w, Calls Tryz.prog 4 #[.agg #[.bool aB, .string aS], .agg #[.bool bB, .string bS]] w fun e w' => e = .returned (.bool true) ∧ Below w.heap.size w w')) (E : Int) (HE : Hid (∀ w, Calls Tryz.prog 5 #[.agg #[.bool aB, .string aS], .agg #[.bool bB, .string bS]] w fun e w' => e = .returned (.int .i64 E) ∧ Below w.heap.size w w')) (y1 : (E == 0) = false) (y2 : (E != 0) = true) (w : World) :
    Calls Tryz.prog 3 #[.agg #[.bool aB, .string aS], .agg #[.bool bB, .string bS]] w fun e w' => e = .returned (.bool true) ∧ Below w.heap.size w w' := by
  obtain ⟨W0, hW0⟩ : ∃ W0, W0 = (w.alloc (.cells #[.bool aB, .string aS] 24)).alloc (.cells #[.bool bB, .string bS] 24) := ⟨_, rfl⟩
  have hB0 : Below w.heap.size w W0 := by rw [hW0]; exact ((Below.refl _ _).alloc (by simp; try omega) _).alloc (by simp; try omega) _
  have f0_0 : W0.cell? ⟨w.heap.size, 0, none⟩ = some (.bool aB) := by rw [hW0]; simp [go_sem]
  have f0_1 : W0.cell? ⟨w.heap.size, 1, none⟩ = some (.string aS) := by rw [hW0]; simp [go_sem]
  have f1_0 : W0.cell? ⟨w.heap.size + 1, 0, none⟩ = some (.bool bB) := by rw [hW0]; simp [go_sem]
  have f1_1 : W0.cell? ⟨w.heap.size + 1, 1, none⟩ = some (.string bS) := by rw [hW0]; simp [go_sem]
  have hZ0 : W0.heap.size = w.heap.size + 2 := by rw [hW0]; simp
  have HL0 := Lib.hid (show w.heap.size < W0.heap.size by rw [hZ0]; omega)
  have HL1 := Lib.hid (show w.heap.size + 1 < W0.heap.size by rw [hZ0]; omega)
  have HW0 := Lib.hid hW0
  have HB := Lib.hid hB0
  clear hB0 hZ0 hW0
  have HLV := Lib.hid live_c
  go_enter Tryz.func3, Tryz.ntmps3
  go_wp2_with fail
  rw [← HW0.out]
  refine (HS.out _).mono ?_
  rintro e w1 ⟨rfl, hb1⟩
  have hB1 : Below W0.heap.size W0 (w1) := hb1
  have n0_0 := (hB1.cell (p := ⟨w.heap.size, 0, none⟩) HL0.out).trans f0_0
  have n0_1 := (hB1.cell (p := ⟨w.heap.size, 1, none⟩) HL0.out).trans f0_1
  have n1_0 := (hB1.cell (p := ⟨w.heap.size + 1, 0, none⟩) HL1.out).trans f1_0
  have n1_1 := (hB1.cell (p := ⟨w.heap.size + 1, 1, none⟩) HL1.out).trans f1_1
  clear f0_0 f0_1 f1_0 f1_1
  have HX1 := Lib.hid hB1
  have HY1 := Lib.hid hb1.size
  clear hB1 hb1
  go_wp2_with fail
  have HL0 := Lib.hid (Nat.lt_of_lt_of_le HL0.out HX1.out.size)
  have HL1 := Lib.hid (Nat.lt_of_lt_of_le HL1.out HX1.out.size)
  have HB := Lib.hid (HB.out.trans (HX1.out.mono HB.out.size))
  clear HX1
  have f0_0 := n0_0
  have f0_1 := n0_1
  have f1_0 := n1_0
  have f1_1 := n1_1
  clear n0_0 n0_1 n1_0 n1_1
  refine (HE.out _).mono ?_
  rintro e w2 ⟨rfl, hb2⟩
  have hB2 : Below w1.heap.size w1 (w2) := hb2
  have n0_0 := (hB2.cell (p := ⟨w.heap.size, 0, none⟩) HL0.out).trans f0_0
  have n0_1 := (hB2.cell (p := ⟨w.heap.size, 1, none⟩) HL0.out).trans f0_1
  have n1_0 := (hB2.cell (p := ⟨w.heap.size + 1, 0, none⟩) HL1.out).trans f1_0
  have n1_1 := (hB2.cell (p := ⟨w.heap.size + 1, 1, none⟩) HL1.out).trans f1_1
  clear f0_0 f0_1 f1_0 f1_1
  have HX2 := Lib.hid hB2
  have HY2 := Lib.hid hb2.size
  clear hB2 hb2
  go_wp2_with fail
  have HL0 := Lib.hid (Nat.lt_of_lt_of_le HL0.out HX2.out.size)
  have HL1 := Lib.hid (Nat.lt_of_lt_of_le HL1.out HX2.out.size)
  have HB := Lib.hid (HB.out.trans (HX2.out.mono HB.out.size))
  clear HX2
  have f0_0 := n0_0
  have f0_1 := n0_1
  have f1_0 := n1_0
  have f1_1 := n1_1
  clear n0_0 n0_1 n1_0 n1_1
  refine (HLV.out _).mono ?_
  rintro e w3 ⟨rfl, hb3⟩
  have hB3 : Below w2.heap.size w2 (w3) := hb3
  have n0_0 := (hB3.cell (p := ⟨w.heap.size, 0, none⟩) HL0.out).trans f0_0
  have n0_1 := (hB3.cell (p := ⟨w.heap.size, 1, none⟩) HL0.out).trans f0_1
  have n1_0 := (hB3.cell (p := ⟨w.heap.size + 1, 0, none⟩) HL1.out).trans f1_0
  have n1_1 := (hB3.cell (p := ⟨w.heap.size + 1, 1, none⟩) HL1.out).trans f1_1
  clear f0_0 f0_1 f1_0 f1_1
  have HX3 := Lib.hid hB3
  have HY3 := Lib.hid hb3.size
  clear hB3 hb3
  have HL0 := Lib.hid (Nat.lt_of_lt_of_le HL0.out HX3.out.size)
  have HL1 := Lib.hid (Nat.lt_of_lt_of_le HL1.out HX3.out.size)
  have HB := Lib.hid (HB.out.trans (HX3.out.mono HB.out.size))
  clear HX3
  have f0_0 := n0_0
  have f0_1 := n0_1
  have f1_0 := n1_0
  have f1_1 := n1_1
  clear n0_0 n0_1 n1_0 n1_1
  go_wp2
  go_ret
  exact ⟨rfl, HB.out⟩

set_option maxHeartbeats 4000000 in
set_option maxRecDepth 100000 in
theorem sums_ok (aB bB : Bool) (aS bS : ByteArray) (HS : Hid (∀ w, Calls Tryz.prog 4 #[.agg #[.bool aB, .string aS], .agg #[.bool bB, .string bS]] w fun e w' => e = .returned (.bool true) ∧ Below w.heap.size w w')) (HE : Hid (∀ w, Calls Tryz.prog 5 #[.agg #[.bool aB, .string aS], .agg #[.bool bB, .string bS]] w fun e w' => e = .returned (.int .i64 0) ∧ Below w.heap.size w w')) (sB dB pB : Bool) (sS dS pS : ByteArray) (c : Int) (H1 : Hid (∀ w, Calls Tryz.prog 7 #[.agg #[.bool aB, .string aS], .agg #[.bool bB, .string bS]] w fun e w' => e = .returned (.tuple #[.int .i64 c, .int .i64 0]) ∧ Below w.heap.size w w')) (H2 : Hid (∀ w, Calls Tryz.prog 8 #[.agg #[.bool aB, .string aS], .agg #[.bool bB, .string bS]] w fun e w' => e = .returned (.tuple #[.agg #[.bool sB, .string sS], .int .i64 0]) ∧ Below w.heap.size w w')) (H3 : Hid (∀ w, Calls Tryz.prog 9 #[.agg #[.bool aB, .string aS], .agg #[.bool bB, .string bS]] w fun e w' => e = .returned (.tuple #[.agg #[.bool dB, .string dS], .int .i64 0]) ∧ Below w.heap.size w w')) (H4 : Hid (∀ w, Calls Tryz.prog 10 #[.agg #[.bool aB, .string aS], .agg #[.bool bB, .string bS]] w fun e w' => e = .returned (.tuple #[.agg #[.bool pB, .string pS], .int .i64 0]) ∧ Below w.heap.size w w')) (R1 : Hid (∀ w, Calls Tryz.prog 11 #[.agg #[.bool aB, .string aS], .agg #[.bool bB, .string bS]] w fun e w' => e = .returned (.int .i64 c) ∧ Below w.heap.size w w')) (R2 : Hid (∀ w, Calls Tryz.prog 12 #[.agg #[.bool aB, .string aS], .agg #[.bool bB, .string bS]] w fun e w' => e = .returned (.agg #[.bool sB, .string sS]) ∧ Below w.heap.size w w')) (R3 : Hid (∀ w, Calls Tryz.prog 13 #[.agg #[.bool aB, .string aS], .agg #[.bool bB, .string bS]] w fun e w' => e = .returned (.agg #[.bool dB, .string dS]) ∧ Below w.heap.size w w')) (R4 : Hid (∀ w, Calls Tryz.prog 14 #[.agg #[.bool aB, .string aS], .agg #[.bool bB, .string bS]] w fun e w' => e = .returned (.agg #[.bool pB, .string pS]) ∧ Below w.heap.size w w')) (w : World) :
    Calls Tryz.prog 3 #[.agg #[.bool aB, .string aS], .agg #[.bool bB, .string bS]] w fun e w' => e = .returned (.bool true) ∧ Below w.heap.size w w' := by
  obtain ⟨W0, hW0⟩ : ∃ W0, W0 = (w.alloc (.cells #[.bool aB, .string aS] 24)).alloc (.cells #[.bool bB, .string bS] 24) := ⟨_, rfl⟩
  have hB0 : Below w.heap.size w W0 := by rw [hW0]; exact ((Below.refl _ _).alloc (by simp; try omega) _).alloc (by simp; try omega) _
  have f0_0 : W0.cell? ⟨w.heap.size, 0, none⟩ = some (.bool aB) := by rw [hW0]; simp [go_sem]
  have f0_1 : W0.cell? ⟨w.heap.size, 1, none⟩ = some (.string aS) := by rw [hW0]; simp [go_sem]
  have f1_0 : W0.cell? ⟨w.heap.size + 1, 0, none⟩ = some (.bool bB) := by rw [hW0]; simp [go_sem]
  have f1_1 : W0.cell? ⟨w.heap.size + 1, 1, none⟩ = some (.string bS) := by rw [hW0]; simp [go_sem]
  have hZ0 : W0.heap.size = w.heap.size + 2 := by rw [hW0]; simp
  have HL0 := Lib.hid (show w.heap.size < W0.heap.size by rw [hZ0]; omega)
  have HL1 := Lib.hid (show w.heap.size + 1 < W0.heap.size by rw [hZ0]; omega)
  have HW0 := Lib.hid hW0
  have HB := Lib.hid hB0
  clear hB0 hZ0 hW0
  have HLV := Lib.hid live_c
  go_enter Tryz.func3, Tryz.ntmps3
  go_wp2_with fail
  rw [← HW0.out]
  refine (HS.out _).mono ?_
  rintro e w1 ⟨rfl, hb1⟩
  have hB1 : Below W0.heap.size W0 (w1) := hb1
  have n0_0 := (hB1.cell (p := ⟨w.heap.size, 0, none⟩) HL0.out).trans f0_0
  have n0_1 := (hB1.cell (p := ⟨w.heap.size, 1, none⟩) HL0.out).trans f0_1
  have n1_0 := (hB1.cell (p := ⟨w.heap.size + 1, 0, none⟩) HL1.out).trans f1_0
  have n1_1 := (hB1.cell (p := ⟨w.heap.size + 1, 1, none⟩) HL1.out).trans f1_1
  clear f0_0 f0_1 f1_0 f1_1
  have HX1 := Lib.hid hB1
  have HY1 := Lib.hid hb1.size
  clear hB1 hb1
  go_wp2_with fail
  have HL0 := Lib.hid (Nat.lt_of_lt_of_le HL0.out HX1.out.size)
  have HL1 := Lib.hid (Nat.lt_of_lt_of_le HL1.out HX1.out.size)
  have HB := Lib.hid (HB.out.trans (HX1.out.mono HB.out.size))
  clear HX1
  have f0_0 := n0_0
  have f0_1 := n0_1
  have f1_0 := n1_0
  have f1_1 := n1_1
  clear n0_0 n0_1 n1_0 n1_1
  refine (HE.out _).mono ?_
  rintro e w2 ⟨rfl, hb2⟩
  have hB2 : Below w1.heap.size w1 (w2) := hb2
  have n0_0 := (hB2.cell (p := ⟨w.heap.size, 0, none⟩) HL0.out).trans f0_0
  have n0_1 := (hB2.cell (p := ⟨w.heap.size, 1, none⟩) HL0.out).trans f0_1
  have n1_0 := (hB2.cell (p := ⟨w.heap.size + 1, 0, none⟩) HL1.out).trans f1_0
  have n1_1 := (hB2.cell (p := ⟨w.heap.size + 1, 1, none⟩) HL1.out).trans f1_1
  clear f0_0 f0_1 f1_0 f1_1
  have HX2 := Lib.hid hB2
  have HY2 := Lib.hid hb2.size
  clear hB2 hb2
  go_wp2_with fail
  have HL0 := Lib.hid (Nat.lt_of_lt_of_le HL0.out HX2.out.size)
  have HL1 := Lib.hid (Nat.lt_of_lt_of_le HL1.out HX2.out.size)
  have HB := Lib.hid (HB.out.trans (HX2.out.mono HB.out.size))
  clear HX2
  have f0_0 := n0_0
  have f0_1 := n0_1
  have f1_0 := n1_0
  have f1_1 := n1_1
  clear n0_0 n0_1 n1_0 n1_1
  refine (H1.out _).mono ?_
  rintro e w3 ⟨rfl, hb3⟩
  have hB3 : Below w2.heap.size w2 (w3) := hb3
  have n0_0 := (hB3.cell (p := ⟨w.heap.size, 0, none⟩) HL0.out).trans f0_0
  have n0_1 := (hB3.cell (p := ⟨w.heap.size, 1, none⟩) HL0.out).trans f0_1
  have n1_0 := (hB3.cell (p := ⟨w.heap.size + 1, 0, none⟩) HL1.out).trans f1_0
  have n1_1 := (hB3.cell (p := ⟨w.heap.size + 1, 1, none⟩) HL1.out).trans f1_1
  clear f0_0 f0_1 f1_0 f1_1
  have HX3 := Lib.hid hB3
  have HY3 := Lib.hid hb3.size
  clear hB3 hb3
  go_wp2_with fail
  have HL0 := Lib.hid (Nat.lt_of_lt_of_le HL0.out HX3.out.size)
  have HL1 := Lib.hid (Nat.lt_of_lt_of_le HL1.out HX3.out.size)
  have HB := Lib.hid (HB.out.trans (HX3.out.mono HB.out.size))
  clear HX3
  have f0_0 := n0_0
  have f0_1 := n0_1
  have f1_0 := n1_0
  have f1_1 := n1_1
  clear n0_0 n0_1 n1_0 n1_1
  refine (H2.out _).mono ?_
  rintro e w4 ⟨rfl, hb4⟩
  have hB4 : Below w3.heap.size w3 (w4.alloc (.cells #[.bool sB, .string sS] 24)) := ((hb4).alloc (by have := hb4.size; simp; try omega) _)
  have n0_0 := (hB4.cell (p := ⟨w.heap.size, 0, none⟩) HL0.out).trans f0_0
  have n0_1 := (hB4.cell (p := ⟨w.heap.size, 1, none⟩) HL0.out).trans f0_1
  have n1_0 := (hB4.cell (p := ⟨w.heap.size + 1, 0, none⟩) HL1.out).trans f1_0
  have n1_1 := (hB4.cell (p := ⟨w.heap.size + 1, 1, none⟩) HL1.out).trans f1_1
  have n2_0 : (w4.alloc (.cells #[.bool sB, .string sS] 24)).cell? ⟨w4.heap.size, 0, none⟩ = some (.bool sB) := by simp [go_sem]
  have n2_1 : (w4.alloc (.cells #[.bool sB, .string sS] 24)).cell? ⟨w4.heap.size, 1, none⟩ = some (.string sS) := by simp [go_sem]
  clear f0_0 f0_1 f1_0 f1_1
  have HX4 := Lib.hid hB4
  have HY4 := Lib.hid hb4.size
  clear hB4 hb4
  go_wp2_with fail
  obtain ⟨W4, hW4⟩ : ∃ W4, W4 = w4.alloc (.cells #[.bool sB, .string sS] 24) := ⟨_, rfl⟩
  have hZ4 : W4.heap.size = w4.heap.size + 1 := by rw [hW4]; simp
  rw [← hW4] at HX4 ⊢
  rw [← hW4] at n0_0 n0_1
  rw [← hW4] at n1_0 n1_1
  rw [← hW4] at n2_0 n2_1
  obtain ⟨g4, hg4⟩ : ∃ g4, w4.heap.size = g4 := ⟨_, rfl⟩
  rw [hg4] at n2_0 n2_1
  rw [hg4] at hZ4 HY4 ⊢
  clear hW4 hg4
  have HL0 := Lib.hid (Nat.lt_of_lt_of_le HL0.out HX4.out.size)
  have HL1 := Lib.hid (Nat.lt_of_lt_of_le HL1.out HX4.out.size)
  have HL2 := Lib.hid (show g4 < W4.heap.size by rw [hZ4]; omega)
  clear hZ4 HY4
  have HB := Lib.hid (HB.out.trans (HX4.out.mono HB.out.size))
  clear HX4
  have f0_0 := n0_0
  have f0_1 := n0_1
  have f1_0 := n1_0
  have f1_1 := n1_1
  have f2_0 := n2_0
  have f2_1 := n2_1
  clear n0_0 n0_1 n1_0 n1_1 n2_0 n2_1
  refine (H3.out _).mono ?_
  rintro e w5 ⟨rfl, hb5⟩
  have hB5 : Below W4.heap.size W4 (w5.alloc (.cells #[.bool dB, .string dS] 24)) := ((hb5).alloc (by have := hb5.size; simp; try omega) _)
  have n0_0 := (hB5.cell (p := ⟨w.heap.size, 0, none⟩) HL0.out).trans f0_0
  have n0_1 := (hB5.cell (p := ⟨w.heap.size, 1, none⟩) HL0.out).trans f0_1
  have n1_0 := (hB5.cell (p := ⟨w.heap.size + 1, 0, none⟩) HL1.out).trans f1_0
  have n1_1 := (hB5.cell (p := ⟨w.heap.size + 1, 1, none⟩) HL1.out).trans f1_1
  have n2_0 := (hB5.cell (p := ⟨g4, 0, none⟩) HL2.out).trans f2_0
  have n2_1 := (hB5.cell (p := ⟨g4, 1, none⟩) HL2.out).trans f2_1
  have n3_0 : (w5.alloc (.cells #[.bool dB, .string dS] 24)).cell? ⟨w5.heap.size, 0, none⟩ = some (.bool dB) := by simp [go_sem]
  have n3_1 : (w5.alloc (.cells #[.bool dB, .string dS] 24)).cell? ⟨w5.heap.size, 1, none⟩ = some (.string dS) := by simp [go_sem]
  clear f0_0 f0_1 f1_0 f1_1 f2_0 f2_1
  have HX5 := Lib.hid hB5
  have HY5 := Lib.hid hb5.size
  clear hB5 hb5
  go_wp2_with fail
  obtain ⟨W5, hW5⟩ : ∃ W5, W5 = w5.alloc (.cells #[.bool dB, .string dS] 24) := ⟨_, rfl⟩
  have hZ5 : W5.heap.size = w5.heap.size + 1 := by rw [hW5]; simp
  rw [← hW5] at HX5 ⊢
  rw [← hW5] at n0_0 n0_1
  rw [← hW5] at n1_0 n1_1
  rw [← hW5] at n2_0 n2_1
  rw [← hW5] at n3_0 n3_1
  obtain ⟨g5, hg5⟩ : ∃ g5, w5.heap.size = g5 := ⟨_, rfl⟩
  rw [hg5] at n3_0 n3_1
  rw [hg5] at hZ5 HY5 ⊢
  clear hW5 hg5
  have HL0 := Lib.hid (Nat.lt_of_lt_of_le HL0.out HX5.out.size)
  have HL1 := Lib.hid (Nat.lt_of_lt_of_le HL1.out HX5.out.size)
  have HL2 := Lib.hid (Nat.lt_of_lt_of_le HL2.out HX5.out.size)
  have HL3 := Lib.hid (show g5 < W5.heap.size by rw [hZ5]; omega)
  clear hZ5 HY5
  have HB := Lib.hid (HB.out.trans (HX5.out.mono HB.out.size))
  clear HX5
  have f0_0 := n0_0
  have f0_1 := n0_1
  have f1_0 := n1_0
  have f1_1 := n1_1
  have f2_0 := n2_0
  have f2_1 := n2_1
  have f3_0 := n3_0
  have f3_1 := n3_1
  clear n0_0 n0_1 n1_0 n1_1 n2_0 n2_1 n3_0 n3_1
  refine (H4.out _).mono ?_
  rintro e w6 ⟨rfl, hb6⟩
  have hB6 : Below W5.heap.size W5 (w6.alloc (.cells #[.bool pB, .string pS] 24)) := ((hb6).alloc (by have := hb6.size; simp; try omega) _)
  have n0_0 := (hB6.cell (p := ⟨w.heap.size, 0, none⟩) HL0.out).trans f0_0
  have n0_1 := (hB6.cell (p := ⟨w.heap.size, 1, none⟩) HL0.out).trans f0_1
  have n1_0 := (hB6.cell (p := ⟨w.heap.size + 1, 0, none⟩) HL1.out).trans f1_0
  have n1_1 := (hB6.cell (p := ⟨w.heap.size + 1, 1, none⟩) HL1.out).trans f1_1
  have n2_0 := (hB6.cell (p := ⟨g4, 0, none⟩) HL2.out).trans f2_0
  have n2_1 := (hB6.cell (p := ⟨g4, 1, none⟩) HL2.out).trans f2_1
  have n3_0 := (hB6.cell (p := ⟨g5, 0, none⟩) HL3.out).trans f3_0
  have n3_1 := (hB6.cell (p := ⟨g5, 1, none⟩) HL3.out).trans f3_1
  have n4_0 : (w6.alloc (.cells #[.bool pB, .string pS] 24)).cell? ⟨w6.heap.size, 0, none⟩ = some (.bool pB) := by simp [go_sem]
  have n4_1 : (w6.alloc (.cells #[.bool pB, .string pS] 24)).cell? ⟨w6.heap.size, 1, none⟩ = some (.string pS) := by simp [go_sem]
  clear f0_0 f0_1 f1_0 f1_1 f2_0 f2_1 f3_0 f3_1
  have HX6 := Lib.hid hB6
  have HY6 := Lib.hid hb6.size
  clear hB6 hb6
  go_upto_region 7 with fail
  obtain ⟨W6, hW6⟩ : ∃ W6, W6 = w6.alloc (.cells #[.bool pB, .string pS] 24) := ⟨_, rfl⟩
  have hZ6 : W6.heap.size = w6.heap.size + 1 := by rw [hW6]; simp
  rw [← hW6] at HX6 ⊢
  rw [← hW6] at n0_0 n0_1
  rw [← hW6] at n1_0 n1_1
  rw [← hW6] at n2_0 n2_1
  rw [← hW6] at n3_0 n3_1
  rw [← hW6] at n4_0 n4_1
  obtain ⟨g6, hg6⟩ : ∃ g6, w6.heap.size = g6 := ⟨_, rfl⟩
  rw [hg6] at n4_0 n4_1
  rw [hg6] at hZ6 HY6 ⊢
  clear hW6 hg6
  have HL0 := Lib.hid (Nat.lt_of_lt_of_le HL0.out HX6.out.size)
  have HL1 := Lib.hid (Nat.lt_of_lt_of_le HL1.out HX6.out.size)
  have HL2 := Lib.hid (Nat.lt_of_lt_of_le HL2.out HX6.out.size)
  have HL3 := Lib.hid (Nat.lt_of_lt_of_le HL3.out HX6.out.size)
  have HL4 := Lib.hid (show g6 < W6.heap.size by rw [hZ6]; omega)
  clear hZ6 HY6
  have HB := Lib.hid (HB.out.trans (HX6.out.mono HB.out.size))
  clear HX6
  have f0_0 := n0_0
  have f0_1 := n0_1
  have f1_0 := n1_0
  have f1_1 := n1_1
  have f2_0 := n2_0
  have f2_1 := n2_1
  have f3_0 := n3_0
  have f3_1 := n3_1
  have f4_0 := n4_0
  have f4_1 := n4_1
  clear n0_0 n0_1 n1_0 n1_1 n2_0 n2_1 n3_0 n3_1 n4_0 n4_1
  have HBza := HB.out
  have za0_0 := f0_0
  have za0_1 := f0_1
  have Lza0 := HL0.out
  have za1_0 := f1_0
  have za1_1 := f1_1
  have Lza1 := HL1.out
  have za2_0 := f2_0
  have za2_1 := f2_1
  have Lza2 := HL2.out
  have za3_0 := f3_0
  have za3_1 := f3_1
  have Lza3 := HL3.out
  have za4_0 := f4_0
  have za4_1 := f4_1
  have Lza4 := HL4.out
  clear f0_0 f0_1 f1_0 f1_1 f2_0 f2_1 f3_0 f3_1 f4_0 f4_1
  go_region_held3 (fun w' => w'.cell? ⟨w.heap.size, 0, none⟩ = some (.bool aB) ∧ w'.cell? ⟨w.heap.size, 1, none⟩ = some (.string aS) ∧ w'.cell? ⟨w.heap.size + 1, 0, none⟩ = some (.bool bB) ∧ w'.cell? ⟨w.heap.size + 1, 1, none⟩ = some (.string bS) ∧ w'.cell? ⟨g4, 0, none⟩ = some (.bool sB) ∧ w'.cell? ⟨g4, 1, none⟩ = some (.string sS) ∧ w'.cell? ⟨g5, 0, none⟩ = some (.bool dB) ∧ w'.cell? ⟨g5, 1, none⟩ = some (.string dS) ∧ w'.cell? ⟨g6, 0, none⟩ = some (.bool pB) ∧ w'.cell? ⟨g6, 1, none⟩ = some (.string pS)) (first | exact ⟨zf0_0, zf0_1, zf1_0, zf1_1, zf2_0, zf2_1, zf3_0, zf3_1, zf4_0, zf4_1⟩ | exact ⟨ze0_0, ze0_1, ze1_0, ze1_1, ze2_0, ze2_1, ze3_0, ze3_1, ze4_0, ze4_1⟩ | exact ⟨zd0_0, zd0_1, zd1_0, zd1_1, zd2_0, zd2_1, zd3_0, zd3_1, zd4_0, zd4_1⟩ | exact ⟨zc0_0, zc0_1, zc1_0, zc1_1, zc2_0, zc2_1, zc3_0, zc3_1, zc4_0, zc4_1⟩ | exact ⟨zb0_0, zb0_1, zb1_0, zb1_1, zb2_0, zb2_1, zb3_0, zb3_1, zb4_0, zb4_1⟩ | exact ⟨za0_0, za0_1, za1_0, za1_1, za2_0, za2_1, za3_0, za3_1, za4_0, za4_1⟩ | go_keep) (first | (go_at_call 11; have guardzb := za0_0; clear guardzb; go_must (refine (R1.out _).mono ?_; rintro e wzb ⟨rfl, hbr⟩; have zb0_0 := (hbr.cell (p := ⟨w.heap.size, 0, none⟩) Lza0).trans za0_0; have zb0_1 := (hbr.cell (p := ⟨w.heap.size, 1, none⟩) Lza0).trans za0_1; have zb1_0 := (hbr.cell (p := ⟨w.heap.size + 1, 0, none⟩) Lza1).trans za1_0; have zb1_1 := (hbr.cell (p := ⟨w.heap.size + 1, 1, none⟩) Lza1).trans za1_1; have zb2_0 := (hbr.cell (p := ⟨g4, 0, none⟩) Lza2).trans za2_0; have zb2_1 := (hbr.cell (p := ⟨g4, 1, none⟩) Lza2).trans za2_1; have zb3_0 := (hbr.cell (p := ⟨g5, 0, none⟩) Lza3).trans za3_0; have zb3_1 := (hbr.cell (p := ⟨g5, 1, none⟩) Lza3).trans za3_1; have zb4_0 := (hbr.cell (p := ⟨g6, 0, none⟩) Lza4).trans za4_0; have zb4_1 := (hbr.cell (p := ⟨g6, 1, none⟩) Lza4).trans za4_1; have Lzb0 := Nat.lt_of_lt_of_le Lza0 hbr.size; have Lzb1 := Nat.lt_of_lt_of_le Lza1 hbr.size; have Lzb2 := Nat.lt_of_lt_of_le Lza2 hbr.size; have Lzb3 := Nat.lt_of_lt_of_le Lza3 hbr.size; have Lzb4 := Nat.lt_of_lt_of_le Lza4 hbr.size; have HBzb := bel_join HBza hbr HBza.size rfl rfl rfl rfl; clear hbr)) | (go_at_call 12; have guardzc := zb0_0; clear guardzc; go_must (refine (R2.out _).mono ?_; rintro e wzc ⟨rfl, hbr⟩; have zc0_0 := (hbr.cell (p := ⟨w.heap.size, 0, none⟩) Lzb0).trans zb0_0; have zc0_1 := (hbr.cell (p := ⟨w.heap.size, 1, none⟩) Lzb0).trans zb0_1; have zc1_0 := (hbr.cell (p := ⟨w.heap.size + 1, 0, none⟩) Lzb1).trans zb1_0; have zc1_1 := (hbr.cell (p := ⟨w.heap.size + 1, 1, none⟩) Lzb1).trans zb1_1; have zc2_0 := (hbr.cell (p := ⟨g4, 0, none⟩) Lzb2).trans zb2_0; have zc2_1 := (hbr.cell (p := ⟨g4, 1, none⟩) Lzb2).trans zb2_1; have zc3_0 := (hbr.cell (p := ⟨g5, 0, none⟩) Lzb3).trans zb3_0; have zc3_1 := (hbr.cell (p := ⟨g5, 1, none⟩) Lzb3).trans zb3_1; have zc4_0 := (hbr.cell (p := ⟨g6, 0, none⟩) Lzb4).trans zb4_0; have zc4_1 := (hbr.cell (p := ⟨g6, 1, none⟩) Lzb4).trans zb4_1; have Lzc0 := Nat.lt_of_lt_of_le Lzb0 hbr.size; have Lzc1 := Nat.lt_of_lt_of_le Lzb1 hbr.size; have Lzc2 := Nat.lt_of_lt_of_le Lzb2 hbr.size; have Lzc3 := Nat.lt_of_lt_of_le Lzb3 hbr.size; have Lzc4 := Nat.lt_of_lt_of_le Lzb4 hbr.size; have HBzc := bel_join HBzb hbr HBzb.size rfl rfl rfl rfl; clear hbr)) | (go_at_call 13; have guardzd := zc0_0; clear guardzd; go_must (refine (R3.out _).mono ?_; rintro e wzd ⟨rfl, hbr⟩; have zd0_0 := (hbr.cell (p := ⟨w.heap.size, 0, none⟩) Lzc0).trans zc0_0; have zd0_1 := (hbr.cell (p := ⟨w.heap.size, 1, none⟩) Lzc0).trans zc0_1; have zd1_0 := (hbr.cell (p := ⟨w.heap.size + 1, 0, none⟩) Lzc1).trans zc1_0; have zd1_1 := (hbr.cell (p := ⟨w.heap.size + 1, 1, none⟩) Lzc1).trans zc1_1; have zd2_0 := (hbr.cell (p := ⟨g4, 0, none⟩) Lzc2).trans zc2_0; have zd2_1 := (hbr.cell (p := ⟨g4, 1, none⟩) Lzc2).trans zc2_1; have zd3_0 := (hbr.cell (p := ⟨g5, 0, none⟩) Lzc3).trans zc3_0; have zd3_1 := (hbr.cell (p := ⟨g5, 1, none⟩) Lzc3).trans zc3_1; have zd4_0 := (hbr.cell (p := ⟨g6, 0, none⟩) Lzc4).trans zc4_0; have zd4_1 := (hbr.cell (p := ⟨g6, 1, none⟩) Lzc4).trans zc4_1; have Lzd0 := Nat.lt_of_lt_of_le Lzc0 hbr.size; have Lzd1 := Nat.lt_of_lt_of_le Lzc1 hbr.size; have Lzd2 := Nat.lt_of_lt_of_le Lzc2 hbr.size; have Lzd3 := Nat.lt_of_lt_of_le Lzc3 hbr.size; have Lzd4 := Nat.lt_of_lt_of_le Lzc4 hbr.size; have HBzd := bel_join HBzc hbr HBzc.size rfl rfl rfl rfl; clear hbr)) | (go_at_call 14; have guardze := zd0_0; clear guardze; go_must (refine (R4.out _).mono ?_; rintro e wze ⟨rfl, hbr⟩; have ze0_0 := (hbr.cell (p := ⟨w.heap.size, 0, none⟩) Lzd0).trans zd0_0; have ze0_1 := (hbr.cell (p := ⟨w.heap.size, 1, none⟩) Lzd0).trans zd0_1; have ze1_0 := (hbr.cell (p := ⟨w.heap.size + 1, 0, none⟩) Lzd1).trans zd1_0; have ze1_1 := (hbr.cell (p := ⟨w.heap.size + 1, 1, none⟩) Lzd1).trans zd1_1; have ze2_0 := (hbr.cell (p := ⟨g4, 0, none⟩) Lzd2).trans zd2_0; have ze2_1 := (hbr.cell (p := ⟨g4, 1, none⟩) Lzd2).trans zd2_1; have ze3_0 := (hbr.cell (p := ⟨g5, 0, none⟩) Lzd3).trans zd3_0; have ze3_1 := (hbr.cell (p := ⟨g5, 1, none⟩) Lzd3).trans zd3_1; have ze4_0 := (hbr.cell (p := ⟨g6, 0, none⟩) Lzd4).trans zd4_0; have ze4_1 := (hbr.cell (p := ⟨g6, 1, none⟩) Lzd4).trans zd4_1; have Lze0 := Nat.lt_of_lt_of_le Lzd0 hbr.size; have Lze1 := Nat.lt_of_lt_of_le Lzd1 hbr.size; have Lze2 := Nat.lt_of_lt_of_le Lzd2 hbr.size; have Lze3 := Nat.lt_of_lt_of_le Lzd3 hbr.size; have Lze4 := Nat.lt_of_lt_of_le Lzd4 hbr.size; have HBze := bel_join HBzd hbr HBzd.size rfl rfl rfl rfl; clear hbr)) | (go_at_call 6; have guardzf := ze0_0; clear guardzf; go_must (refine (HLV.out _).mono ?_; rintro e wzf ⟨rfl, hbr⟩; have zf0_0 := (hbr.cell (p := ⟨w.heap.size, 0, none⟩) Lze0).trans ze0_0; have zf0_1 := (hbr.cell (p := ⟨w.heap.size, 1, none⟩) Lze0).trans ze0_1; have zf1_0 := (hbr.cell (p := ⟨w.heap.size + 1, 0, none⟩) Lze1).trans ze1_0; have zf1_1 := (hbr.cell (p := ⟨w.heap.size + 1, 1, none⟩) Lze1).trans ze1_1; have zf2_0 := (hbr.cell (p := ⟨g4, 0, none⟩) Lze2).trans ze2_0; have zf2_1 := (hbr.cell (p := ⟨g4, 1, none⟩) Lze2).trans ze2_1; have zf3_0 := (hbr.cell (p := ⟨g5, 0, none⟩) Lze3).trans ze3_0; have zf3_1 := (hbr.cell (p := ⟨g5, 1, none⟩) Lze3).trans ze3_1; have zf4_0 := (hbr.cell (p := ⟨g6, 0, none⟩) Lze4).trans ze4_0; have zf4_1 := (hbr.cell (p := ⟨g6, 1, none⟩) Lze4).trans ze4_1; have Lzf0 := Nat.lt_of_lt_of_le Lze0 hbr.size; have Lzf1 := Nat.lt_of_lt_of_le Lze1 hbr.size; have Lzf2 := Nat.lt_of_lt_of_le Lze2 hbr.size; have Lzf3 := Nat.lt_of_lt_of_le Lze3 hbr.size; have Lzf4 := Nat.lt_of_lt_of_le Lze4 hbr.size; have HBzf := bel_join HBze hbr HBze.size rfl rfl rfl rfl; clear hbr)))
  all_goals go_wp2
  all_goals go_ret
  all_goals first | exact ⟨rfl, HBzf⟩ | exact ⟨rfl, HBzf.drew⟩ | exact ⟨rfl, bdrN HBzf _⟩

theorem sums_c (a b : Bool × ByteArray) (w : World) :
    Calls Tryz.prog 3 #[.agg #[.bool a.1, .string a.2], .agg #[.bool b.1, .string b.2]] w fun e w' => e = .returned (.bool true) ∧ Below w.heap.size w w' := by
  cases hs : (decide (a.2.size ≤ 400) && decide (b.2.size ≤ 400)) with
  | false => exact sums_big _ _ _ _ (small_f a b false hs) w
  | true =>
    have HS := small_f a b true hs
    simp only [Bool.and_eq_true, decide_eq_true_eq] at hs
    obtain ⟨ha, hb⟩ := hs
    have HE := Lib.hid (both_r a.1 a.2 b.1 b.2)
    by_cases h0 : bad2 a.1 a.2 b.1 b.2 = 0
    · have hok := bad2_ok.1 h0
      have H1 := cmp_f a b
      have H2 := add_f a b (by omega) (by omega)
      have H3 := sub_f a b (by omega) (by omega)
      have H4 := mul_f a b (by omega) (by omega)
      rw [cmpF_ok h0] at H1
      rw [binF_ok h0] at H2 H3 H4
      rw [h0] at HE
      have R1 := Lib.hid (order_r a.1 a.2 b.1 b.2 (by omega) (by omega) hok.1 hok.2)
      have R2 := Lib.hid (sum_r a.1 a.2 b.1 b.2 (by omega) (by omega))
      have R3 := Lib.hid (less_r a.1 a.2 b.1 b.2 (by omega) (by omega))
      have R4 := Lib.hid (times_r a.1 a.2 b.1 b.2 (by omega) (by omega))
      exact sums_ok _ _ _ _ HS HE _ _ _ _ _ _ _ H1 H2 H3 H4 R1 R2 R3 R4 w
    · exact sums_bad _ _ _ _ HS _ HE (beq_eq_false_iff_ne.mpr h0) (bne_iff_ne.mpr h0) w
#print axioms sums_c
end Go.Proofs.YtimpimnaknkgpaaGreatDoor
