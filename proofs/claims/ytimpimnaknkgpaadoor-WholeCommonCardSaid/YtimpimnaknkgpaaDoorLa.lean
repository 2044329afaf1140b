import Derived.Test.YtimpimnaknkgpaaDoorEX
import Derived.Test.YtimpimnaknkgpaaDoorS5
namespace Go.Proofs.YtimpimnaknkgpaaDoor
open Go.RowKit Num
set_option linter.unusedVariables false
set_option linter.unusedSimpArgs false

set_option maxHeartbeats 4000000 in
set_option maxRecDepth 100000 in
theorem comm_big1 (aB bB : Bool) (aS bS : ByteArray) (haS : decide ((200 : Int) < (aS.size : Int)) = true)  (w : World) :
    Calls Tryd.prog 4 #[.agg #[.bool aB, .string aS], .agg #[.bool bB, .string bS]] w fun e w' => e = .returned (.bool true) ∧ Below w.heap.size w w' := by
  obtain ⟨W0, hW0⟩ : ∃ W0, W0 = (w.alloc (.cells #[.bool aB, .string aS] 24)).alloc (.cells #[.bool bB, .string bS] 24) := ⟨_, rfl⟩
  have hB0 : Below w.heap.size w W0 := by rw [hW0]; exact ((Below.refl _ _).alloc (by simp; try omega) _).alloc (by simp; try omega) _
  have f0_0 : W0.cell? ⟨w.heap.size, 0, none⟩ = some (.bool aB) := by rw [hW0]; simp [go_sem]
  have f0_1 : W0.cell? ⟨w.heap.size, 1, none⟩ = some (.string aS) := by rw [hW0]; simp [go_sem]
  have f1_0 : W0.cell? ⟨w.heap.size + 1, 0, none⟩ = some (.bool bB) := by rw [hW0]; simp [go_sem]
  have f1_1 : W0.cell? ⟨w.heap.size + 1, 1, none⟩ = some (.string bS) := by rw [hW0]; simp [go_sem]
  have hZ0 : W0.heap.size = w.heap.size + 2 := by rw [hW0]; simp
  have HL0 := Lib.hid (show w.heap.size < W0.heap.size by rw [hZ0]; omega)
  have HL1 := Lib.hid (show w.heap.size + 1 < W0.heap.size by rw [hZ0]; omega)
  have HW0 := Lib.hid hW0
  have HB := Lib.hid hB0
  clear hB0 hZ0 hW0
  have HLV := Lib.hid live_c
  go_enter Tryd.func4, Tryd.ntmps4
  go_wp2_with fail
  rw [← HW0.out]
  refine (HLV.out _).mono ?_
  rintro e w1 ⟨rfl, hb1⟩
  have hB1 : Below W0.heap.size W0 (w1) := hb1
  have n0_0 := (hB1.cell (p := ⟨w.heap.size, 0, none⟩) HL0.out).trans f0_0
  have n0_1 := (hB1.cell (p := ⟨w.heap.size, 1, none⟩) HL0.out).trans f0_1
  have n1_0 := (hB1.cell (p := ⟨w.heap.size + 1, 0, none⟩) HL1.out).trans f1_0
  have n1_1 := (hB1.cell (p := ⟨w.heap.size + 1, 1, none⟩) HL1.out).trans f1_1
  clear f0_0 f0_1 f1_0 f1_1
  have HX1 := Lib.hid hB1
  have HY1 := Lib.hid hb1.size
  clear hB1 hb1
  have HL0 := Lib.hid (Nat.lt_of_lt_of_le HL0.out HX1.out.size)
  have HL1 := Lib.hid (Nat.lt_of_lt_of_le HL1.out HX1.out.size)
  have HB := Lib.hid (HB.out.trans (HX1.out.mono HB.out.size))
  clear HX1
  have f0_0 := n0_0
  have f0_1 := n0_1
  have f1_0 := n1_0
  have f1_1 := n1_1
  clear n0_0 n0_1 n1_0 n1_1
  go_wp2
  go_ret
  exact ⟨rfl, HB.out⟩

set_option maxHeartbeats 4000000 in
set_option maxRecDepth 100000 in
theorem comm_big2 (aB bB : Bool) (aS bS : ByteArray) (haS : decide ((200 : Int) < (aS.size : Int)) = false) (hbS : decide ((200 : Int) < (bS.size : Int)) = true)  (w : World) :
    Calls Tryd.prog 4 #[.agg #[.bool aB, .string aS], .agg #[.bool bB, .string bS]] w fun e w' => e = .returned (.bool true) ∧ Below w.heap.size w w' := by
  obtain ⟨W0, hW0⟩ : ∃ W0, W0 = (w.alloc (.cells #[.bool aB, .string aS] 24)).alloc (.cells #[.bool bB, .string bS] 24) := ⟨_, rfl⟩
  have hB0 : Below w.heap.size w W0 := by rw [hW0]; exact ((Below.refl _ _).alloc (by simp; try omega) _).alloc (by simp; try omega) _
  have f0_0 : W0.cell? ⟨w.heap.size, 0, none⟩ = some (.bool aB) := by rw [hW0]; simp [go_sem]
  have f0_1 : W0.cell? ⟨w.heap.size, 1, none⟩ = some (.string aS) := by rw [hW0]; simp [go_sem]
  have f1_0 : W0.cell? ⟨w.heap.size + 1, 0, none⟩ = some (.bool bB) := by rw [hW0]; simp [go_sem]
  have f1_1 : W0.cell? ⟨w.heap.size + 1, 1, none⟩ = some (.string bS) := by rw [hW0]; simp [go_sem]
  have hZ0 : W0.heap.size = w.heap.size + 2 := by rw [hW0]; simp
  have HL0 := Lib.hid (show w.heap.size < W0.heap.size by rw [hZ0]; omega)
  have HL1 := Lib.hid (show w.heap.size + 1 < W0.heap.size by rw [hZ0]; omega)
  have HW0 := Lib.hid hW0
  have HB := Lib.hid hB0
  clear hB0 hZ0 hW0
  have HLV := Lib.hid live_c
  go_enter Tryd.func4, Tryd.ntmps4
  go_wp2_with fail
  rw [← HW0.out]
  refine (HLV.out _).mono ?_
  rintro e w1 ⟨rfl, hb1⟩
  have hB1 : Below W0.heap.size W0 (w1) := hb1
  have n0_0 := (hB1.cell (p := ⟨w.heap.size, 0, none⟩) HL0.out).trans f0_0
  have n0_1 := (hB1.cell (p := ⟨w.heap.size, 1, none⟩) HL0.out).trans f0_1
  have n1_0 := (hB1.cell (p := ⟨w.heap.size + 1, 0, none⟩) HL1.out).trans f1_0
  have n1_1 := (hB1.cell (p := ⟨w.heap.size + 1, 1, none⟩) HL1.out).trans f1_1
  clear f0_0 f0_1 f1_0 f1_1
  have HX1 := Lib.hid hB1
  have HY1 := Lib.hid hb1.size
  clear hB1 hb1
  have HL0 := Lib.hid (Nat.lt_of_lt_of_le HL0.out HX1.out.size)
  have HL1 := Lib.hid (Nat.lt_of_lt_of_le HL1.out HX1.out.size)
  have HB := Lib.hid (HB.out.trans (HX1.out.mono HB.out.size))
  clear HX1
  have f0_0 := n0_0
  have f0_1 := n0_1
  have f1_0 := n1_0
  have f1_1 := n1_1
  clear n0_0 n0_1 n1_0 n1_1
  go_wp2
  go_ret
  exact ⟨rfl, HB.out⟩

set_option maxHeartbeats 4000000 in
set_option maxRecDepth 100000 in
theorem comm_bad (aB bB : Bool) (aS bS : ByteArray) (haS : decide ((200 : Int) < (aS.size : Int)) = false) (hbS : decide ((200 : Int) < (bS.size : Int)) = false) (E : Int) (HE : Hid (∀ w, Calls Tryd.prog 11 #[.agg #[.bool aB, .string aS], .agg #[.bool bB, .string bS]] w fun e w' => e = .returned (.int .i64 E) ∧ Below w.heap.size w w')) (y1 : (E == 0) = false) (y2 : (E != 0) = true) (w : World) :
    Calls Tryd.prog 4 #[.agg #[.bool aB, .string aS], .agg #[.bool bB, .string bS]] w fun e w' => e = .returned (.bool true) ∧ Below w.heap.size w w' := by
  obtain ⟨W0, hW0⟩ : ∃ W0, W0 = (w.alloc (.cells #[.bool aB, .string aS] 24)).alloc (.cells #[.bool bB, .string bS] 24) := ⟨_, rfl⟩
  have hB0 : Below w.heap.size w W0 := by rw [hW0]; exact ((Below.refl _ _).alloc (by simp; try omega) _).alloc (by simp; try omega) _
  have f0_0 : W0.cell? ⟨w.heap.size, 0, none⟩ = some (.bool aB) := by rw [hW0]; simp [go_sem]
  have f0_1 : W0.cell? ⟨w.heap.size, 1, none⟩ = some (.string aS) := by rw [hW0]; simp [go_sem]
  have f1_0 : W0.cell? ⟨w.heap.size + 1, 0, none⟩ = some (.bool bB) := by rw [hW0]; simp [go_sem]
  have f1_1 : W0.cell? ⟨w.heap.size + 1, 1, none⟩ = some (.string bS) := by rw [hW0]; simp [go_sem]
  have hZ0 : W0.heap.size = w.heap.size + 2 := by rw [hW0]; simp
  have HL0 := Lib.hid (show w.heap.size < W0.heap.size by rw [hZ0]; omega)
  have HL1 := Lib.hid (show w.heap.size + 1 < W0.heap.size by rw [hZ0]; omega)
  have HW0 := Lib.hid hW0
  have HB := Lib.hid hB0
  clear hB0 hZ0 hW0
  have HLV := Lib.hid live_c
  go_enter Tryd.func4, Tryd.ntmps4
  go_wp2_with fail
  rw [← HW0.out]
  refine (HE.out _).mono ?_
  rintro e w1 ⟨rfl, hb1⟩
  have hB1 : Below W0.heap.size W0 (w1) := hb1
  have n0_0 := (hB1.cell (p := ⟨w.heap.size, 0, none⟩) HL0.out).trans f0_0
  have n0_1 := (hB1.cell (p := ⟨w.heap.size, 1, none⟩) HL0.out).trans f0_1
  have n1_0 := (hB1.cell (p := ⟨w.heap.size + 1, 0, none⟩) HL1.out).trans f1_0
  have n1_1 := (hB1.cell (p := ⟨w.heap.size + 1, 1, none⟩) HL1.out).trans f1_1
  clear f0_0 f0_1 f1_0 f1_1
  have HX1 := Lib.hid hB1
  have HY1 := Lib.hid hb1.size
  clear hB1 hb1
  go_wp2_with fail
  have HL0 := Lib.hid (Nat.lt_of_lt_of_le HL0.out HX1.out.size)
  have HL1 := Lib.hid (Nat.lt_of_lt_of_le HL1.out HX1.out.size)
  have HB := Lib.hid (HB.out.trans (HX1.out.mono HB.out.size))
  clear HX1
  have f0_0 := n0_0
  have f0_1 := n0_1
  have f1_0 := n1_0
  have f1_1 := n1_1
  clear n0_0 n0_1 n1_0 n1_1
  refine (HLV.out _).mono ?_
  rintro e w2 ⟨rfl, hb2⟩
  have hB2 : Below w1.heap.size w1 (w2) := hb2
  have n0_0 := (hB2.cell (p := ⟨w.heap.size, 0, none⟩) HL0.out).trans f0_0
  have n0_1 := (hB2.cell (p := ⟨w.heap.size, 1, none⟩) HL0.out).trans f0_1
  have n1_0 := (hB2.cell (p := ⟨w.heap.size + 1, 0, none⟩) HL1.out).trans f1_0
  have n1_1 := (hB2.cell (p := ⟨w.heap.size + 1, 1, none⟩) HL1.out).trans f1_1
  clear f0_0 f0_1 f1_0 f1_1
  have HX2 := Lib.hid hB2
  have HY2 := Lib.hid hb2.size
  clear hB2 hb2
  have HL0 := Lib.hid (Nat.lt_of_lt_of_le HL0.out HX2.out.size)
  have HL1 := Lib.hid (Nat.lt_of_lt_of_le HL1.out HX2.out.size)
  have HB := Lib.hid (HB.out.trans (HX2.out.mono HB.out.size))
  clear HX2
  have f0_0 := n0_0
  have f0_1 := n0_1
  have f1_0 := n1_0
  have f1_1 := n1_1
  clear n0_0 n0_1 n1_0 n1_1
  go_wp2
  go_ret
  exact ⟨rfl, HB.out⟩

theorem cz_step {g2 : Nat} {aB bB : Bool} {w W : World} {W' : World} (hbr : Below W.heap.size W W') (h : W.cell? ⟨w.heap.size, 0, none⟩ = some (.bool aB) ∧ W.cell? ⟨w.heap.size, 1, none⟩ = some (.string ⟨#[]⟩) ∧ W.cell? ⟨w.heap.size + 1, 0, none⟩ = some (.bool bB) ∧ W.cell? ⟨w.heap.size + 1, 1, none⟩ = some (.string ⟨#[]⟩) ∧ W.cell? ⟨g2, 0, none⟩ = some (.bool false) ∧ W.cell? ⟨g2, 1, none⟩ = some (.string ⟨#[]⟩) ∧ Below w.heap.size w W) : W'.cell? ⟨w.heap.size, 0, none⟩ = some (.bool aB) ∧ W'.cell? ⟨w.heap.size, 1, none⟩ = some (.string ⟨#[]⟩) ∧ W'.cell? ⟨w.heap.size + 1, 0, none⟩ = some (.bool bB) ∧ W'.cell? ⟨w.heap.size + 1, 1, none⟩ = some (.string ⟨#[]⟩) ∧ W'.cell? ⟨g2, 0, none⟩ = some (.bool false) ∧ W'.cell? ⟨g2, 1, none⟩ = some (.string ⟨#[]⟩) ∧ Below w.heap.size w W' :=
  ⟨(hbr.cell (World.block_lt_of_cell? _ _ h.1)).trans h.1, (hbr.cell (World.block_lt_of_cell? _ _ h.2.1)).trans h.2.1, (hbr.cell (World.block_lt_of_cell? _ _ h.2.2.1)).trans h.2.2.1, (hbr.cell (World.block_lt_of_cell? _ _ h.2.2.2.1)).trans h.2.2.2.1, (hbr.cell (World.block_lt_of_cell? _ _ h.2.2.2.2.1)).trans h.2.2.2.2.1, (hbr.cell (World.block_lt_of_cell? _ _ h.2.2.2.2.2.1)).trans h.2.2.2.2.2.1, h.2.2.2.2.2.2.trans (hbr.mono h.2.2.2.2.2.2.size)⟩
theorem cz_drew {g2 : Nat} {aB bB : Bool} {w W : World} (h : W.cell? ⟨w.heap.size, 0, none⟩ = some (.bool aB) ∧ W.cell? ⟨w.heap.size, 1, none⟩ = some (.string ⟨#[]⟩) ∧ W.cell? ⟨w.heap.size + 1, 0, none⟩ = some (.bool bB) ∧ W.cell? ⟨w.heap.size + 1, 1, none⟩ = some (.string ⟨#[]⟩) ∧ W.cell? ⟨g2, 0, none⟩ = some (.bool false) ∧ W.cell? ⟨g2, 1, none⟩ = some (.string ⟨#[]⟩) ∧ Below w.heap.size w W) : W.drew.cell? ⟨w.heap.size, 0, none⟩ = some (.bool aB) ∧ W.drew.cell? ⟨w.heap.size, 1, none⟩ = some (.string ⟨#[]⟩) ∧ W.drew.cell? ⟨w.heap.size + 1, 0, none⟩ = some (.bool bB) ∧ W.drew.cell? ⟨w.heap.size + 1, 1, none⟩ = some (.string ⟨#[]⟩) ∧ W.drew.cell? ⟨g2, 0, none⟩ = some (.bool false) ∧ W.drew.cell? ⟨g2, 1, none⟩ = some (.string ⟨#[]⟩) ∧ Below w.heap.size w W.drew := ⟨h.1, h.2.1, h.2.2.1, h.2.2.2.1, h.2.2.2.2.1, h.2.2.2.2.2.1, h.2.2.2.2.2.2.drew⟩
set_option maxHeartbeats 4000000 in
set_option maxRecDepth 100000 in
theorem comm_z (aB bB : Bool) (HE : Hid (∀ w, Calls Tryd.prog 11 #[.agg #[.bool aB, .string ⟨#[]⟩], .agg #[.bool bB, .string ⟨#[]⟩]] w fun e w' => e = .returned (.int .i64 0) ∧ Below w.heap.size w w')) (H1 : Hid (∀ w, Calls Tryd.prog 18 #[.agg #[.bool aB, .string ⟨#[]⟩], .agg #[.bool bB, .string ⟨#[]⟩]] w fun e w' => e = .returned (.tuple #[.agg #[.bool false, .string ⟨#[]⟩], .int .i64 0]) ∧ Below w.heap.size w w')) (H2 : Hid (∀ w, Calls Tryd.prog 19 #[.agg #[.bool aB, .string ⟨#[]⟩], .agg #[.bool bB, .string ⟨#[]⟩]] w fun e w' => e = .returned (.agg #[.bool false, .string ⟨#[]⟩]) ∧ Below w.heap.size w w')) (w : World) :
    Calls Tryd.prog 4 #[.agg #[.bool aB, .string ⟨#[]⟩], .agg #[.bool bB, .string ⟨#[]⟩]] w fun e w' => e = .returned (.bool true) ∧ Below w.heap.size w w' := by
  obtain ⟨W0, hW0⟩ : ∃ W0, W0 = (w.alloc (.cells #[.bool aB, .string ⟨#[]⟩] 24)).alloc (.cells #[.bool bB, .string ⟨#[]⟩] 24) := ⟨_, rfl⟩
  have hB0 : Below w.heap.size w W0 := by rw [hW0]; exact ((Below.refl _ _).alloc (by simp; try omega) _).alloc (by simp; try omega) _
  have f0_0 : W0.cell? ⟨w.heap.size, 0, none⟩ = some (.bool aB) := by rw [hW0]; simp [go_sem]
  have f0_1 : W0.cell? ⟨w.heap.size, 1, none⟩ = some (.string ⟨#[]⟩) := by rw [hW0]; simp [go_sem]
  have f1_0 : W0.cell? ⟨w.heap.size + 1, 0, none⟩ = some (.bool bB) := by rw [hW0]; simp [go_sem]
  have f1_1 : W0.cell? ⟨w.heap.size + 1, 1, none⟩ = some (.string ⟨#[]⟩) := by rw [hW0]; simp [go_sem]
  have hZ0 : W0.heap.size = w.heap.size + 2 := by rw [hW0]; simp
  have HL0 := Lib.hid (show w.heap.size < W0.heap.size by rw [hZ0]; omega)
  have HL1 := Lib.hid (show w.heap.size + 1 < W0.heap.size by rw [hZ0]; omega)
  have HW0 := Lib.hid hW0
  have HB := Lib.hid hB0
  clear hB0 hZ0 hW0
  have HLV := Lib.hid live_c
  go_enter Tryd.func4, Tryd.ntmps4
  go_wp2_with fail
  rw [← HW0.out]
  refine (HE.out _).mono ?_
  rintro e w1 ⟨rfl, hb1⟩
  have hB1 : Below W0.heap.size W0 (w1) := hb1
  have n0_0 := (hB1.cell (p := ⟨w.heap.size, 0, none⟩) HL0.out).trans f0_0
  have n0_1 := (hB1.cell (p := ⟨w.heap.size, 1, none⟩) HL0.out).trans f0_1
  have n1_0 := (hB1.cell (p := ⟨w.heap.size + 1, 0, none⟩) HL1.out).trans f1_0
  have n1_1 := (hB1.cell (p := ⟨w.heap.size + 1, 1, none⟩) HL1.out).trans f1_1
  clear f0_0 f0_1 f1_0 f1_1
  have HX1 := Lib.hid hB1
  have HY1 := Lib.hid hb1.size
  clear hB1 hb1
  go_wp2_with fail
  have HL0 := Lib.hid (Nat.lt_of_lt_of_le HL0.out HX1.out.size)
  have HL1 := Lib.hid (Nat.lt_of_lt_of_le HL1.out HX1.out.size)
  have HB := Lib.hid (HB.out.trans (HX1.out.mono HB.out.size))
  clear HX1
  have f0_0 := n0_0
  have f0_1 := n0_1
  have f1_0 := n1_0
  have f1_1 := n1_1
  clear n0_0 n0_1 n1_0 n1_1
  refine (H1.out _).mono ?_
  rintro e w2 ⟨rfl, hb2⟩
  have hB2 : Below w1.heap.size w1 (w2.alloc (.cells #[.bool false, .string ⟨#[]⟩] 24)) := ((hb2).alloc (by have := hb2.size; simp; try omega) _)
  have n0_0 := (hB2.cell (p := ⟨w.heap.size, 0, none⟩) HL0.out).trans f0_0
  have n0_1 := (hB2.cell (p := ⟨w.heap.size, 1, none⟩) HL0.out).trans f0_1
  have n1_0 := (hB2.cell (p := ⟨w.heap.size + 1, 0, none⟩) HL1.out).trans f1_0
  have n1_1 := (hB2.cell (p := ⟨w.heap.size + 1, 1, none⟩) HL1.out).trans f1_1
  have n2_0 : (w2.alloc (.cells #[.bool false, .string ⟨#[]⟩] 24)).cell? ⟨w2.heap.size, 0, none⟩ = some (.bool false) := by simp [go_sem]
  have n2_1 : (w2.alloc (.cells #[.bool false, .string ⟨#[]⟩] 24)).cell? ⟨w2.heap.size, 1, none⟩ = some (.string ⟨#[]⟩) := by simp [go_sem]
  clear f0_0 f0_1 f1_0 f1_1
  have HX2 := Lib.hid hB2
  have HY2 := Lib.hid hb2.size
  clear hB2 hb2
  go_upto_region 4 with fail
  obtain ⟨W2, hW2⟩ : ∃ W2, W2 = w2.alloc (.cells #[.bool false, .string ⟨#[]⟩] 24) := ⟨_, rfl⟩
  have hZ2 : W2.heap.size = w2.heap.size + 1 := by rw [hW2]; simp
  rw [← hW2] at HX2 ⊢
  rw [← hW2] at n0_0 n0_1
  rw [← hW2] at n1_0 n1_1
  rw [← hW2] at n2_0 n2_1
  obtain ⟨g2, hg2⟩ : ∃ g2, w2.heap.size = g2 := ⟨_, rfl⟩
  rw [hg2] at n2_0 n2_1
  rw [hg2] at hZ2 HY2 ⊢
  clear hW2 hg2
  have HL0 := Lib.hid (Nat.lt_of_lt_of_le HL0.out HX2.out.size)
  have HL1 := Lib.hid (Nat.lt_of_lt_of_le HL1.out HX2.out.size)
  have HL2 := Lib.hid (show g2 < W2.heap.size by rw [hZ2]; omega)
  clear hZ2 HY2
  have HB := Lib.hid (HB.out.trans (HX2.out.mono HB.out.size))
  clear HX2
  have f0_0 := n0_0
  have f0_1 := n0_1
  have f1_0 := n1_0
  have f1_1 := n1_1
  have f2_0 := n2_0
  have f2_1 := n2_1
  clear n0_0 n0_1 n1_0 n1_1 n2_0 n2_1
  have HSC3 := Lib.hid (show W2.cell? ⟨w.heap.size, 0, none⟩ = some (.bool aB) ∧ W2.cell? ⟨w.heap.size, 1, none⟩ = some (.string ⟨#[]⟩) ∧ W2.cell? ⟨w.heap.size + 1, 0, none⟩ = some (.bool bB) ∧ W2.cell? ⟨w.heap.size + 1, 1, none⟩ = some (.string ⟨#[]⟩) ∧ W2.cell? ⟨g2, 0, none⟩ = some (.bool false) ∧ W2.cell? ⟨g2, 1, none⟩ = some (.string ⟨#[]⟩) ∧ Below w.heap.size w W2 from ⟨f0_0, f0_1, f1_0, f1_1, f2_0, f2_1, HB.out⟩)
  clear HL0 HL1 HL2
  go_cut [46] (fun a9 wx => a9 = .bool false ∧ (wx.cell? ⟨w.heap.size, 0, none⟩ = some (.bool aB) ∧ wx.cell? ⟨w.heap.size, 1, none⟩ = some (.string ⟨#[]⟩) ∧ wx.cell? ⟨w.heap.size + 1, 0, none⟩ = some (.bool bB) ∧ wx.cell? ⟨w.heap.size + 1, 1, none⟩ = some (.string ⟨#[]⟩) ∧ wx.cell? ⟨g2, 0, none⟩ = some (.bool false) ∧ wx.cell? ⟨g2, 1, none⟩ = some (.string ⟨#[]⟩) ∧ Below w.heap.size w wx))
  case first =>
    have hSC := HSC3.out
    go_region_held3 (fun w' => w'.cell? ⟨w.heap.size, 0, none⟩ = some (.bool aB) ∧ w'.cell? ⟨w.heap.size, 1, none⟩ = some (.string ⟨#[]⟩) ∧ w'.cell? ⟨w.heap.size + 1, 0, none⟩ = some (.bool bB) ∧ w'.cell? ⟨w.heap.size + 1, 1, none⟩ = some (.string ⟨#[]⟩) ∧ w'.cell? ⟨g2, 0, none⟩ = some (.bool false) ∧ w'.cell? ⟨g2, 1, none⟩ = some (.string ⟨#[]⟩) ∧ Below w.heap.size w w') (first | assumption | exact cz_drew (by assumption)) (first | (go_at_call 19; refine (H2.out _).mono ?_; rintro e wn0 ⟨rfl, hbr⟩; have hS0 := cz_step hbr (by assumption); clear hbr))
    all_goals go_wp2
    all_goals go_meet
    all_goals exact ⟨rfl, by first | assumption | exact cz_drew (by assumption)⟩
  case rest =>
    obtain ⟨rfl, hSc⟩ := hcut
    obtain ⟨m0_0, m0_1, m1_0, m1_1, m2_0, m2_1, hbc⟩ := hSc
    clear f0_0 f0_1 f1_0 f1_1 f2_0 f2_1
    have HB := Lib.hid hbc
    have f0_0 := m0_0; have f0_1 := m0_1; have HL0 := Lib.hid (World.block_lt_of_cell? _ _ f0_0)
    have f1_0 := m1_0; have f1_1 := m1_1; have HL1 := Lib.hid (World.block_lt_of_cell? _ _ f1_0)
    have f2_0 := m2_0; have f2_1 := m2_1; have HL2 := Lib.hid (World.block_lt_of_cell? _ _ f2_0)
    clear m0_0 m0_1 m1_0 m1_1 m2_0 m2_1 hbc HSC3
    go_wp2_with fail
    refine (HLV.out _).mono ?_
    rintro e w4 ⟨rfl, hb4⟩
    have hB4 : Below wc.heap.size wc (w4) := hb4
    have n0_0 := (hB4.cell (p := ⟨w.heap.size, 0, none⟩) HL0.out).trans f0_0
    have n0_1 := (hB4.cell (p := ⟨w.heap.size, 1, none⟩) HL0.out).trans f0_1
    have n1_0 := (hB4.cell (p := ⟨w.heap.size + 1, 0, none⟩) HL1.out).trans f1_0
    have n1_1 := (hB4.cell (p := ⟨w.heap.size + 1, 1, none⟩) HL1.out).trans f1_1
    have n2_0 := (hB4.cell (p := ⟨g2, 0, none⟩) HL2.out).trans f2_0
    have n2_1 := (hB4.cell (p := ⟨g2, 1, none⟩) HL2.out).trans f2_1
    clear f0_0 f0_1 f1_0 f1_1 f2_0 f2_1
    have HX4 := Lib.hid hB4
    have HY4 := Lib.hid hb4.size
    clear hB4 hb4
    have HL0 := Lib.hid (Nat.lt_of_lt_of_le HL0.out HX4.out.size)
    have HL1 := Lib.hid (Nat.lt_of_lt_of_le HL1.out HX4.out.size)
    have HL2 := Lib.hid (Nat.lt_of_lt_of_le HL2.out HX4.out.size)
    have HB := Lib.hid (HB.out.trans (HX4.out.mono HB.out.size))
    clear HX4
    have f0_0 := n0_0
    have f0_1 := n0_1
    have f1_0 := n1_0
    have f1_1 := n1_1
    have f2_0 := n2_0
    have f2_1 := n2_1
    clear n0_0 n0_1 n1_0 n1_1 n2_0 n2_1
    go_wp2
    go_ret
    exact ⟨rfl, HB.out⟩

theorem ck_step {g2 : Nat} {aB bB : Bool} {aS bS gS : ByteArray} {w W : World} {W' : World} (hbr : Below W.heap.size W W') (h : W.cell? ⟨w.heap.size, 0, none⟩ = some (.bool aB) ∧ W.cell? ⟨w.heap.size, 1, none⟩ = some (.string aS) ∧ W.cell? ⟨w.heap.size + 1, 0, none⟩ = some (.bool bB) ∧ W.cell? ⟨w.heap.size + 1, 1, none⟩ = some (.string bS) ∧ W.cell? ⟨g2, 0, none⟩ = some (.bool false) ∧ W.cell? ⟨g2, 1, none⟩ = some (.string gS) ∧ Below w.heap.size w W) : W'.cell? ⟨w.heap.size, 0, none⟩ = some (.bool aB) ∧ W'.cell? ⟨w.heap.size, 1, none⟩ = some (.string aS) ∧ W'.cell? ⟨w.heap.size + 1, 0, none⟩ = some (.bool bB) ∧ W'.cell? ⟨w.heap.size + 1, 1, none⟩ = some (.string bS) ∧ W'.cell? ⟨g2, 0, none⟩ = some (.bool false) ∧ W'.cell? ⟨g2, 1, none⟩ = some (.string gS) ∧ Below w.heap.size w W' :=
  ⟨(hbr.cell (World.block_lt_of_cell? _ _ h.1)).trans h.1, (hbr.cell (World.block_lt_of_cell? _ _ h.2.1)).trans h.2.1, (hbr.cell (World.block_lt_of_cell? _ _ h.2.2.1)).trans h.2.2.1, (hbr.cell (World.block_lt_of_cell? _ _ h.2.2.2.1)).trans h.2.2.2.1, (hbr.cell (World.block_lt_of_cell? _ _ h.2.2.2.2.1)).trans h.2.2.2.2.1, (hbr.cell (World.block_lt_of_cell? _ _ h.2.2.2.2.2.1)).trans h.2.2.2.2.2.1, h.2.2.2.2.2.2.trans (hbr.mono h.2.2.2.2.2.2.size)⟩
theorem ck_drew {g2 : Nat} {aB bB : Bool} {aS bS gS : ByteArray} {w W : World} (h : W.cell? ⟨w.heap.size, 0, none⟩ = some (.bool aB) ∧ W.cell? ⟨w.heap.size, 1, none⟩ = some (.string aS) ∧ W.cell? ⟨w.heap.size + 1, 0, none⟩ = some (.bool bB) ∧ W.cell? ⟨w.heap.size + 1, 1, none⟩ = some (.string bS) ∧ W.cell? ⟨g2, 0, none⟩ = some (.bool false) ∧ W.cell? ⟨g2, 1, none⟩ = some (.string gS) ∧ Below w.heap.size w W) : W.drew.cell? ⟨w.heap.size, 0, none⟩ = some (.bool aB) ∧ W.drew.cell? ⟨w.heap.size, 1, none⟩ = some (.string aS) ∧ W.drew.cell? ⟨w.heap.size + 1, 0, none⟩ = some (.bool bB) ∧ W.drew.cell? ⟨w.heap.size + 1, 1, none⟩ = some (.string bS) ∧ W.drew.cell? ⟨g2, 0, none⟩ = some (.bool false) ∧ W.drew.cell? ⟨g2, 1, none⟩ = some (.string gS) ∧ Below w.heap.size w W.drew := ⟨h.1, h.2.1, h.2.2.1, h.2.2.2.1, h.2.2.2.2.1, h.2.2.2.2.2.1, h.2.2.2.2.2.2.drew⟩
theorem cl_step {g2 g4 g5 g6 : Nat} {aB bB xB yB : Bool} {aS bS gS xS yS oS : ByteArray} {w W : World} {W' : World} (hbr : Below W.heap.size W W') (h : W.cell? ⟨w.heap.size, 0, none⟩ = some (.bool aB) ∧ W.cell? ⟨w.heap.size, 1, none⟩ = some (.string aS) ∧ W.cell? ⟨w.heap.size + 1, 0, none⟩ = some (.bool bB) ∧ W.cell? ⟨w.heap.size + 1, 1, none⟩ = some (.string bS) ∧ W.cell? ⟨g2, 0, none⟩ = some (.bool false) ∧ W.cell? ⟨g2, 1, none⟩ = some (.string gS) ∧ W.cell? ⟨g4, 0, none⟩ = some (.bool xB) ∧ W.cell? ⟨g4, 1, none⟩ = some (.string xS) ∧ W.cell? ⟨g4 + 1, 0, none⟩ = some (.bool false) ∧ W.cell? ⟨g4 + 1, 1, none⟩ = some (.string ⟨#[]⟩) ∧ W.cell? ⟨g5, 0, none⟩ = some (.bool yB) ∧ W.cell? ⟨g5, 1, none⟩ = some (.string yS) ∧ W.cell? ⟨g5 + 1, 0, none⟩ = some (.bool false) ∧ W.cell? ⟨g5 + 1, 1, none⟩ = some (.string ⟨#[]⟩) ∧ W.cell? ⟨g6, 0, none⟩ = some (.bool false) ∧ W.cell? ⟨g6, 1, none⟩ = some (.string oS) ∧ Below w.heap.size w W) : W'.cell? ⟨w.heap.size, 0, none⟩ = some (.bool aB) ∧ W'.cell? ⟨w.heap.size, 1, none⟩ = some (.string aS) ∧ W'.cell? ⟨w.heap.size + 1, 0, none⟩ = some (.bool bB) ∧ W'.cell? ⟨w.heap.size + 1, 1, none⟩ = some (.string bS) ∧ W'.cell? ⟨g2, 0, none⟩ = some (.bool false) ∧ W'.cell? ⟨g2, 1, none⟩ = some (.string gS) ∧ W'.cell? ⟨g4, 0, none⟩ = some (.bool xB) ∧ W'.cell? ⟨g4, 1, none⟩ = some (.string xS) ∧ W'.cell? ⟨g4 + 1, 0, none⟩ = some (.bool false) ∧ W'.cell? ⟨g4 + 1, 1, none⟩ = some (.string ⟨#[]⟩) ∧ W'.cell? ⟨g5, 0, none⟩ = some (.bool yB) ∧ W'.cell? ⟨g5, 1, none⟩ = some (.string yS) ∧ W'.cell? ⟨g5 + 1, 0, none⟩ = some (.bool false) ∧ W'.cell? ⟨g5 + 1, 1, none⟩ = some (.string ⟨#[]⟩) ∧ W'.cell? ⟨g6, 0, none⟩ = some (.bool false) ∧ W'.cell? ⟨g6, 1, none⟩ = some (.string oS) ∧ Below w.heap.size w W' :=
  ⟨(hbr.cell (World.block_lt_of_cell? _ _ h.1)).trans h.1, (hbr.cell (World.block_lt_of_cell? _ _ h.2.1)).trans h.2.1, (hbr.cell (World.block_lt_of_cell? _ _ h.2.2.1)).trans h.2.2.1, (hbr.cell (World.block_lt_of_cell? _ _ h.2.2.2.1)).trans h.2.2.2.1, (hbr.cell (World.block_lt_of_cell? _ _ h.2.2.2.2.1)).trans h.2.2.2.2.1, (hbr.cell (World.block_lt_of_cell? _ _ h.2.2.2.2.2.1)).trans h.2.2.2.2.2.1, (hbr.cell (World.block_lt_of_cell? _ _ h.2.2.2.2.2.2.1)).trans h.2.2.2.2.2.2.1, (hbr.cell (World.block_lt_of_cell? _ _ h.2.2.2.2.2.2.2.1)).trans h.2.2.2.2.2.2.2.1, (hbr.cell (World.block_lt_of_cell? _ _ h.2.2.2.2.2.2.2.2.1)).trans h.2.2.2.2.2.2.2.2.1, (hbr.cell (World.block_lt_of_cell? _ _ h.2.2.2.2.2.2.2.2.2.1)).trans h.2.2.2.2.2.2.2.2.2.1, (hbr.cell (World.block_lt_of_cell? _ _ h.2.2.2.2.2.2.2.2.2.2.1)).trans h.2.2.2.2.2.2.2.2.2.2.1, (hbr.cell (World.block_lt_of_cell? _ _ h.2.2.2.2.2.2.2.2.2.2.2.1)).trans h.2.2.2.2.2.2.2.2.2.2.2.1, (hbr.cell (World.block_lt_of_cell? _ _ h.2.2.2.2.2.2.2.2.2.2.2.2.1)).trans h.2.2.2.2.2.2.2.2.2.2.2.2.1, (hbr.cell (World.block_lt_of_cell? _ _ h.2.2.2.2.2.2.2.2.2.2.2.2.2.1)).trans h.2.2.2.2.2.2.2.2.2.2.2.2.2.1, (hbr.cell (World.block_lt_of_cell? _ _ h.2.2.2.2.2.2.2.2.2.2.2.2.2.2.1)).trans h.2.2.2.2.2.2.2.2.2.2.2.2.2.2.1, (hbr.cell (World.block_lt_of_cell? _ _ h.2.2.2.2.2.2.2.2.2.2.2.2.2.2.2.1)).trans h.2.2.2.2.2.2.2.2.2.2.2.2.2.2.2.1, h.2.2.2.2.2.2.2.2.2.2.2.2.2.2.2.2.trans (hbr.mono h.2.2.2.2.2.2.2.2.2.2.2.2.2.2.2.2.size)⟩
theorem cl_drew {g2 g4 g5 g6 : Nat} {aB bB xB yB : Bool} {aS bS gS xS yS oS : ByteArray} {w W : World} (h : W.cell? ⟨w.heap.size, 0, none⟩ = some (.bool aB) ∧ W.cell? ⟨w.heap.size, 1, none⟩ = some (.string aS) ∧ W.cell? ⟨w.heap.size + 1, 0, none⟩ = some (.bool bB) ∧ W.cell? ⟨w.heap.size + 1, 1, none⟩ = some (.string bS) ∧ W.cell? ⟨g2, 0, none⟩ = some (.bool false) ∧ W.cell? ⟨g2, 1, none⟩ = some (.string gS) ∧ W.cell? ⟨g4, 0, none⟩ = some (.bool xB) ∧ W.cell? ⟨g4, 1, none⟩ = some (.string xS) ∧ W.cell? ⟨g4 + 1, 0, none⟩ = some (.bool false) ∧ W.cell? ⟨g4 + 1, 1, none⟩ = some (.string ⟨#[]⟩) ∧ W.cell? ⟨g5, 0, none⟩ = some (.bool yB) ∧ W.cell? ⟨g5, 1, none⟩ = some (.string yS) ∧ W.cell? ⟨g5 + 1, 0, none⟩ = some (.bool false) ∧ W.cell? ⟨g5 + 1, 1, none⟩ = some (.string ⟨#[]⟩) ∧ W.cell? ⟨g6, 0, none⟩ = some (.bool false) ∧ W.cell? ⟨g6, 1, none⟩ = some (.string oS) ∧ Below w.heap.size w W) : W.drew.cell? ⟨w.heap.size, 0, none⟩ = some (.bool aB) ∧ W.drew.cell? ⟨w.heap.size, 1, none⟩ = some (.string aS) ∧ W.drew.cell? ⟨w.heap.size + 1, 0, none⟩ = some (.bool bB) ∧ W.drew.cell? ⟨w.heap.size + 1, 1, none⟩ = some (.string bS) ∧ W.drew.cell? ⟨g2, 0, none⟩ = some (.bool false) ∧ W.drew.cell? ⟨g2, 1, none⟩ = some (.string gS) ∧ W.drew.cell? ⟨g4, 0, none⟩ = some (.bool xB) ∧ W.drew.cell? ⟨g4, 1, none⟩ = some (.string xS) ∧ W.drew.cell? ⟨g4 + 1, 0, none⟩ = some (.bool false) ∧ W.drew.cell? ⟨g4 + 1, 1, none⟩ = some (.string ⟨#[]⟩) ∧ W.drew.cell? ⟨g5, 0, none⟩ = some (.bool yB) ∧ W.drew.cell? ⟨g5, 1, none⟩ = some (.string yS) ∧ W.drew.cell? ⟨g5 + 1, 0, none⟩ = some (.bool false) ∧ W.drew.cell? ⟨g5 + 1, 1, none⟩ = some (.string ⟨#[]⟩) ∧ W.drew.cell? ⟨g6, 0, none⟩ = some (.bool false) ∧ W.drew.cell? ⟨g6, 1, none⟩ = some (.string oS) ∧ Below w.heap.size w W.drew := ⟨h.1, h.2.1, h.2.2.1, h.2.2.2.1, h.2.2.2.2.1, h.2.2.2.2.2.1, h.2.2.2.2.2.2.1, h.2.2.2.2.2.2.2.1, h.2.2.2.2.2.2.2.2.1, h.2.2.2.2.2.2.2.2.2.1, h.2.2.2.2.2.2.2.2.2.2.1, h.2.2.2.2.2.2.2.2.2.2.2.1, h.2.2.2.2.2.2.2.2.2.2.2.2.1, h.2.2.2.2.2.2.2.2.2.2.2.2.2.1, h.2.2.2.2.2.2.2.2.2.2.2.2.2.2.1, h.2.2.2.2.2.2.2.2.2.2.2.2.2.2.2.1, h.2.2.2.2.2.2.2.2.2.2.2.2.2.2.2.2.drew⟩
set_option maxHeartbeats 4000000 in
set_option maxRecDepth 100000 in
theorem comm_ok (aB bB : Bool) (aS bS : ByteArray) (haS : decide ((200 : Int) < (aS.size : Int)) = false) (hbS : decide ((200 : Int) < (bS.size : Int)) = false) (HE : Hid (∀ w, Calls Tryd.prog 11 #[.agg #[.bool aB, .string aS], .agg #[.bool bB, .string bS]] w fun e w' => e = .returned (.int .i64 0) ∧ Below w.heap.size w w')) (gS xS yS oS : ByteArray) (xB yB : Bool) (yg : gS.toList.isEmpty = false) (H1 : Hid (∀ w, Calls Tryd.prog 18 #[.agg #[.bool aB, .string aS], .agg #[.bool bB, .string bS]] w fun e w' => e = .returned (.tuple #[.agg #[.bool false, .string gS], .int .i64 0]) ∧ Below w.heap.size w w')) (H2 : Hid (∀ w, Calls Tryd.prog 19 #[.agg #[.bool aB, .string aS], .agg #[.bool bB, .string bS]] w fun e w' => e = .returned (.agg #[.bool false, .string gS]) ∧ Below w.heap.size w w')) (H3 : Hid (∀ w, Calls Tryd.prog 13 #[.agg #[.bool aB, .string aS], .agg #[.bool false, .string gS]] w fun e w' => e = .returned (.tuple #[.agg #[.bool xB, .string xS], .agg #[.bool false, .string ⟨#[]⟩], .int .i64 0]) ∧ Below w.heap.size w w')) (H4 : Hid (∀ w, Calls Tryd.prog 13 #[.agg #[.bool bB, .string bS], .agg #[.bool false, .string gS]] w fun e w' => e = .returned (.tuple #[.agg #[.bool yB, .string yS], .agg #[.bool false, .string ⟨#[]⟩], .int .i64 0]) ∧ Below w.heap.size w w')) (H5 : Hid (∀ w, Calls Tryd.prog 18 #[.agg #[.bool xB, .string xS], .agg #[.bool yB, .string yS]] w fun e w' => e = .returned (.tuple #[.agg #[.bool false, .string oS], .int .i64 0]) ∧ Below w.heap.size w w')) (H6 : Hid (∀ w, Calls Tryd.prog 20 #[.int .i64 1] w fun e w' => e = .returned (.agg #[.bool false, .string oS]) ∧ Below w.heap.size w w')) (w : World) :
    Calls Tryd.prog 4 #[.agg #[.bool aB, .string aS], .agg #[.bool bB, .string bS]] w fun e w' => e = .returned (.bool true) ∧ Below w.heap.size w w' := by
  obtain ⟨W0, hW0⟩ : ∃ W0, W0 = (w.alloc (.cells #[.bool aB, .string aS] 24)).alloc (.cells #[.bool bB, .string bS] 24) := ⟨_, rfl⟩
  have hB0 : Below w.heap.size w W0 := by rw [hW0]; exact ((Below.refl _ _).alloc (by simp; try omega) _).alloc (by simp; try omega) _
  have f0_0 : W0.cell? ⟨w.heap.size, 0, none⟩ = some (.bool aB) := by rw [hW0]; simp [go_sem]
  have f0_1 : W0.cell? ⟨w.heap.size, 1, none⟩ = some (.string aS) := by rw [hW0]; simp [go_sem]
  have f1_0 : W0.cell? ⟨w.heap.size + 1, 0, none⟩ = some (.bool bB) := by rw [hW0]; simp [go_sem]
  have f1_1 : W0.cell? ⟨w.heap.size + 1, 1, none⟩ = some (.string bS) := by rw [hW0]; simp [go_sem]
  have hZ0 : W0.heap.size = w.heap.size + 2 := by rw [hW0]; simp
  have HL0 := Lib.hid (show w.heap.size < W0.heap.size by rw [hZ0]; omega)
  have HL1 := Lib.hid (show w.heap.size + 1 < W0.heap.size by rw [hZ0]; omega)
  have HW0 := Lib.hid hW0
  have HB := Lib.hid hB0
  clear hB0 hZ0 hW0
  have HLV := Lib.hid live_c
  go_enter Tryd.func4, Tryd.ntmps4
  go_wp2_with fail
  rw [← HW0.out]
  refine (HE.out _).mono ?_
  rintro e w1 ⟨rfl, hb1⟩
  have hB1 : Below W0.heap.size W0 (w1) := hb1
  have n0_0 := (hB1.cell (p := ⟨w.heap.size, 0, none⟩) HL0.out).trans f0_0
  have n0_1 := (hB1.cell (p := ⟨w.heap.size, 1, none⟩) HL0.out).trans f0_1
  have n1_0 := (hB1.cell (p := ⟨w.heap.size + 1, 0, none⟩) HL1.out).trans f1_0
  have n1_1 := (hB1.cell (p := ⟨w.heap.size + 1, 1, none⟩) HL1.out).trans f1_1
  clear f0_0 f0_1 f1_0 f1_1
  have HX1 := Lib.hid hB1
  have HY1 := Lib.hid hb1.size
  clear hB1 hb1
  go_wp2_with fail
  have HL0 := Lib.hid (Nat.lt_of_lt_of_le HL0.out HX1.out.size)
  have HL1 := Lib.hid (Nat.lt_of_lt_of_le HL1.out HX1.out.size)
  have HB := Lib.hid (HB.out.trans (HX1.out.mono HB.out.size))
  clear HX1
  have f0_0 := n0_0
  have f0_1 := n0_1
  have f1_0 := n1_0
  have f1_1 := n1_1
  clear n0_0 n0_1 n1_0 n1_1
  refine (H1.out _).mono ?_
  rintro e w2 ⟨rfl, hb2⟩
  have hB2 : Below w1.heap.size w1 (w2.alloc (.cells #[.bool false, .string gS] 24)) := ((hb2).alloc (by have := hb2.size; simp; try omega) _)
  have n0_0 := (hB2.cell (p := ⟨w.heap.size, 0, none⟩) HL0.out).trans f0_0
  have n0_1 := (hB2.cell (p := ⟨w.heap.size, 1, none⟩) HL0.out).trans f0_1
  have n1_0 := (hB2.cell (p := ⟨w.heap.size + 1, 0, none⟩) HL1.out).trans f1_0
  have n1_1 := (hB2.cell (p := ⟨w.heap.size + 1, 1, none⟩) HL1.out).trans f1_1
  have n2_0 : (w2.alloc (.cells #[.bool false, .string gS] 24)).cell? ⟨w2.heap.size, 0, none⟩ = some (.bool false) := by simp [go_sem]
  have n2_1 : (w2.alloc (.cells #[.bool false, .string gS] 24)).cell? ⟨w2.heap.size, 1, none⟩ = some (.string gS) := by simp [go_sem]
  clear f0_0 f0_1 f1_0 f1_1
  have HX2 := Lib.hid hB2
  have HY2 := Lib.hid hb2.size
  clear hB2 hb2
  go_upto_region 4 with fail
  obtain ⟨W2, hW2⟩ : ∃ W2, W2 = w2.alloc (.cells #[.bool false, .string gS] 24) := ⟨_, rfl⟩
  have hZ2 : W2.heap.size = w2.heap.size + 1 := by rw [hW2]; simp
  rw [← hW2] at HX2 ⊢
  rw [← hW2] at n0_0 n0_1
  rw [← hW2] at n1_0 n1_1
  rw [← hW2] at n2_0 n2_1
  obtain ⟨g2, hg2⟩ : ∃ g2, w2.heap.size = g2 := ⟨_, rfl⟩
  rw [hg2] at n2_0 n2_1
  rw [hg2] at hZ2 HY2 ⊢
  clear hW2 hg2
  have HL0 := Lib.hid (Nat.lt_of_lt_of_le HL0.out HX2.out.size)
  have HL1 := Lib.hid (Nat.lt_of_lt_of_le HL1.out HX2.out.size)
  have HL2 := Lib.hid (show g2 < W2.heap.size by rw [hZ2]; omega)
  clear hZ2 HY2
  have HB := Lib.hid (HB.out.trans (HX2.out.mono HB.out.size))
  clear HX2
  have f0_0 := n0_0
  have f0_1 := n0_1
  have f1_0 := n1_0
  have f1_1 := n1_1
  have f2_0 := n2_0
  have f2_1 := n2_1
  clear n0_0 n0_1 n1_0 n1_1 n2_0 n2_1
  have HSC3 := Lib.hid (show W2.cell? ⟨w.heap.size, 0, none⟩ = some (.bool aB) ∧ W2.cell? ⟨w.heap.size, 1, none⟩ = some (.string aS) ∧ W2.cell? ⟨w.heap.size + 1, 0, none⟩ = some (.bool bB) ∧ W2.cell? ⟨w.heap.size + 1, 1, none⟩ = some (.string bS) ∧ W2.cell? ⟨g2, 0, none⟩ = some (.bool false) ∧ W2.cell? ⟨g2, 1, none⟩ = some (.string gS) ∧ Below w.heap.size w W2 from ⟨f0_0, f0_1, f1_0, f1_1, f2_0, f2_1, HB.out⟩)
  clear HL0 HL1 HL2
  go_cut [46] (fun a9 wx => a9 = .bool false ∧ (wx.cell? ⟨w.heap.size, 0, none⟩ = some (.bool aB) ∧ wx.cell? ⟨w.heap.size, 1, none⟩ = some (.string aS) ∧ wx.cell? ⟨w.heap.size + 1, 0, none⟩ = some (.bool bB) ∧ wx.cell? ⟨w.heap.size + 1, 1, none⟩ = some (.string bS) ∧ wx.cell? ⟨g2, 0, none⟩ = some (.bool false) ∧ wx.cell? ⟨g2, 1, none⟩ = some (.string gS) ∧ Below w.heap.size w wx))
  case first =>
    have hSC := HSC3.out
    go_region_held3 (fun w' => w'.cell? ⟨w.heap.size, 0, none⟩ = some (.bool aB) ∧ w'.cell? ⟨w.heap.size, 1, none⟩ = some (.string aS) ∧ w'.cell? ⟨w.heap.size + 1, 0, none⟩ = some (.bool bB) ∧ w'.cell? ⟨w.heap.size + 1, 1, none⟩ = some (.string bS) ∧ w'.cell? ⟨g2, 0, none⟩ = some (.bool false) ∧ w'.cell? ⟨g2, 1, none⟩ = some (.string gS) ∧ Below w.heap.size w w') (first | assumption | exact ck_drew (by assumption)) (first | (go_at_call 19; refine (H2.out _).mono ?_; rintro e wn0 ⟨rfl, hbr⟩; have hS0 := ck_step hbr (by assumption); clear hbr))
    all_goals go_wp2
    all_goals go_meet
    all_goals exact ⟨rfl, by first | assumption | exact ck_drew (by assumption)⟩
  case rest =>
    obtain ⟨rfl, hSc⟩ := hcut
    obtain ⟨m0_0, m0_1, m1_0, m1_1, m2_0, m2_1, hbc⟩ := hSc
    clear f0_0 f0_1 f1_0 f1_1 f2_0 f2_1
    have HB := Lib.hid hbc
    have f0_0 := m0_0; have f0_1 := m0_1; have HL0 := Lib.hid (World.block_lt_of_cell? _ _ f0_0)
    have f1_0 := m1_0; have f1_1 := m1_1; have HL1 := Lib.hid (World.block_lt_of_cell? _ _ f1_0)
    have f2_0 := m2_0; have f2_1 := m2_1; have HL2 := Lib.hid (World.block_lt_of_cell? _ _ f2_0)
    clear m0_0 m0_1 m1_0 m1_1 m2_0 m2_1 hbc HSC3
    go_wp2_with fail
    refine (H3.out _).mono ?_
    rintro e w4 ⟨rfl, hb4⟩
    have hB4 : Below wc.heap.size wc ((w4.alloc (.cells #[.bool xB, .string xS] 24)).alloc (.cells #[.bool false, .string ⟨#[]⟩] 24)) := ((((hb4).alloc (by have := hb4.size; simp; try omega) _)).alloc (by have := hb4.size; simp; try omega) _)
    have n0_0 := (hB4.cell (p := ⟨w.heap.size, 0, none⟩) HL0.out).trans f0_0
    have n0_1 := (hB4.cell (p := ⟨w.heap.size, 1, none⟩) HL0.out).trans f0_1
    have n1_0 := (hB4.cell (p := ⟨w.heap.size + 1, 0, none⟩) HL1.out).trans f1_0
    have n1_1 := (hB4.cell (p := ⟨w.heap.size + 1, 1, none⟩) HL1.out).trans f1_1
    have n2_0 := (hB4.cell (p := ⟨g2, 0, none⟩) HL2.out).trans f2_0
    have n2_1 := (hB4.cell (p := ⟨g2, 1, none⟩) HL2.out).trans f2_1
    have n3_0 : ((w4.alloc (.cells #[.bool xB, .string xS] 24)).alloc (.cells #[.bool false, .string ⟨#[]⟩] 24)).cell? ⟨w4.heap.size, 0, none⟩ = some (.bool xB) := by simp [go_sem]
    have n3_1 : ((w4.alloc (.cells #[.bool xB, .string xS] 24)).alloc (.cells #[.bool false, .string ⟨#[]⟩] 24)).cell? ⟨w4.heap.size, 1, none⟩ = some (.string xS) := by simp [go_sem]
    have n4_0 : ((w4.alloc (.cells #[.bool xB, .string xS] 24)).alloc (.cells #[.bool false, .string ⟨#[]⟩] 24)).cell? ⟨w4.heap.size + 1, 0, none⟩ = some (.bool false) := by simp [go_sem]
    have n4_1 : ((w4.alloc (.cells #[.bool xB, .string xS] 24)).alloc (.cells #[.bool false, .string ⟨#[]⟩] 24)).cell? ⟨w4.heap.size + 1, 1, none⟩ = some (.string ⟨#[]⟩) := by simp [go_sem]
    clear f0_0 f0_1 f1_0 f1_1 f2_0 f2_1
    have HX4 := Lib.hid hB4
    have HY4 := Lib.hid hb4.size
    clear hB4 hb4
    go_wp2_with fail
    obtain ⟨W4, hW4⟩ : ∃ W4, W4 = (w4.alloc (.cells #[.bool xB, .string xS] 24)).alloc (.cells #[.bool false, .string ⟨#[]⟩] 24) := ⟨_, rfl⟩
    have hZ4 : W4.heap.size = w4.heap.size + 2 := by rw [hW4]; simp
    rw [← hW4] at HX4 ⊢
    rw [← hW4] at n0_0 n0_1
    rw [← hW4] at n1_0 n1_1
    rw [← hW4] at n2_0 n2_1
    rw [← hW4] at n3_0 n3_1
    rw [← hW4] at n4_0 n4_1
    obtain ⟨g4, hg4⟩ : ∃ g4, w4.heap.size = g4 := ⟨_, rfl⟩
    rw [hg4] at n3_0 n3_1
    rw [hg4] at n4_0 n4_1
    rw [hg4] at hZ4 HY4 ⊢
    clear hW4 hg4
    have HL0 := Lib.hid (Nat.lt_of_lt_of_le HL0.out HX4.out.size)
    have HL1 := Lib.hid (Nat.lt_of_lt_of_le HL1.out HX4.out.size)
    have HL2 := Lib.hid (Nat.lt_of_lt_of_le HL2.out HX4.out.size)
    have HL3 := Lib.hid (show g4 < W4.heap.size by rw [hZ4]; omega)
    have HL4 := Lib.hid (show g4 + 1 < W4.heap.size by rw [hZ4]; omega)
    clear hZ4 HY4
    have HB := Lib.hid (HB.out.trans (HX4.out.mono HB.out.size))
    clear HX4
    have f0_0 := n0_0
    have f0_1 := n0_1
    have f1_0 := n1_0
    have f1_1 := n1_1
    have f2_0 := n2_0
    have f2_1 := n2_1
    have f3_0 := n3_0
    have f3_1 := n3_1
    have f4_0 := n4_0
    have f4_1 := n4_1
    clear n0_0 n0_1 n1_0 n1_1 n2_0 n2_1 n3_0 n3_1 n4_0 n4_1
    refine (H4.out _).mono ?_
    rintro e w5 ⟨rfl, hb5⟩
    have hB5 : Below W4.heap.size W4 ((w5.alloc (.cells #[.bool yB, .string yS] 24)).alloc (.cells #[.bool false, .string ⟨#[]⟩] 24)) := ((((hb5).alloc (by have := hb5.size; simp; try omega) _)).alloc (by have := hb5.size; simp; try omega) _)
    have n0_0 := (hB5.cell (p := ⟨w.heap.size, 0, none⟩) HL0.out).trans f0_0
    have n0_1 := (hB5.cell (p := ⟨w.heap.size, 1, none⟩) HL0.out).trans f0_1
    have n1_0 := (hB5.cell (p := ⟨w.heap.size + 1, 0, none⟩) HL1.out).trans f1_0
    have n1_1 := (hB5.cell (p := ⟨w.heap.size + 1, 1, none⟩) HL1.out).trans f1_1
    have n2_0 := (hB5.cell (p := ⟨g2, 0, none⟩) HL2.out).trans f2_0
    have n2_1 := (hB5.cell (p := ⟨g2, 1, none⟩) HL2.out).trans f2_1
    have n3_0 := (hB5.cell (p := ⟨g4, 0, none⟩) HL3.out).trans f3_0
    have n3_1 := (hB5.cell (p := ⟨g4, 1, none⟩) HL3.out).trans f3_1
    have n4_0 := (hB5.cell (p := ⟨g4 + 1, 0, none⟩) HL4.out).trans f4_0
    have n4_1 := (hB5.cell (p := ⟨g4 + 1, 1, none⟩) HL4.out).trans f4_1
    have n5_0 : ((w5.alloc (.cells #[.bool yB, .string yS] 24)).alloc (.cells #[.bool false, .string ⟨#[]⟩] 24)).cell? ⟨w5.heap.size, 0, none⟩ = some (.bool yB) := by simp [go_sem]
    have n5_1 : ((w5.alloc (.cells #[.bool yB, .string yS] 24)).alloc (.cells #[.bool false, .string ⟨#[]⟩] 24)).cell? ⟨w5.heap.size, 1, none⟩ = some (.string yS) := by simp [go_sem]
    have n6_0 : ((w5.alloc (.cells #[.bool yB, .string yS] 24)).alloc (.cells #[.bool false, .string ⟨#[]⟩] 24)).cell? ⟨w5.heap.size + 1, 0, none⟩ = some (.bool false) := by simp [go_sem]
    have n6_1 : ((w5.alloc (.cells #[.bool yB, .string yS] 24)).alloc (.cells #[.bool false, .string ⟨#[]⟩] 24)).cell? ⟨w5.heap.size + 1, 1, none⟩ = some (.string ⟨#[]⟩) := by simp [go_sem]
    clear f0_0 f0_1 f1_0 f1_1 f2_0 f2_1 f3_0 f3_1 f4_0 f4_1
    have HX5 := Lib.hid hB5
    have HY5 := Lib.hid hb5.size
    clear hB5 hb5
    go_wp2_with fail
    obtain ⟨W5, hW5⟩ : ∃ W5, W5 = (w5.alloc (.cells #[.bool yB, .string yS] 24)).alloc (.cells #[.bool false, .string ⟨#[]⟩] 24) := ⟨_, rfl⟩
    have hZ5 : W5.heap.size = w5.heap.size + 2 := by rw [hW5]; simp
    rw [← hW5] at HX5 ⊢
    rw [← hW5] at n0_0 n0_1
    rw [← hW5] at n1_0 n1_1
    rw [← hW5] at n2_0 n2_1
    rw [← hW5] at n3_0 n3_1
    rw [← hW5] at n4_0 n4_1
    rw [← hW5] at n5_0 n5_1
    rw [← hW5] at n6_0 n6_1
    obtain ⟨g5, hg5⟩ : ∃ g5, w5.heap.size = g5 := ⟨_, rfl⟩
    rw [hg5] at n5_0 n5_1
    rw [hg5] at n6_0 n6_1
    rw [hg5] at hZ5 HY5 ⊢
    clear hW5 hg5
    have HL0 := Lib.hid (Nat.lt_of_lt_of_le HL0.out HX5.out.size)
    have HL1 := Lib.hid (Nat.lt_of_lt_of_le HL1.out HX5.out.size)
    have HL2 := Lib.hid (Nat.lt_of_lt_of_le HL2.out HX5.out.size)
    have HL3 := Lib.hid (Nat.lt_of_lt_of_le HL3.out HX5.out.size)
    have HL4 := Lib.hid (Nat.lt_of_lt_of_le HL4.out HX5.out.size)
    have HL5 := Lib.hid (show g5 < W5.heap.size by rw [hZ5]; omega)
    have HL6 := Lib.hid (show g5 + 1 < W5.heap.size by rw [hZ5]; omega)
    clear hZ5 HY5
    have HB := Lib.hid (HB.out.trans (HX5.out.mono HB.out.size))
    clear HX5
    have f0_0 := n0_0
    have f0_1 := n0_1
    have f1_0 := n1_0
    have f1_1 := n1_1
    have f2_0 := n2_0
    have f2_1 := n2_1
    have f3_0 := n3_0
    have f3_1 := n3_1
    have f4_0 := n4_0
    have f4_1 := n4_1
    have f5_0 := n5_0
    have f5_1 := n5_1
    have f6_0 := n6_0
    have f6_1 := n6_1
    clear n0_0 n0_1 n1_0 n1_1 n2_0 n2_1 n3_0 n3_1 n4_0 n4_1 n5_0 n5_1 n6_0 n6_1
    refine (H5.out _).mono ?_
    rintro e w6 ⟨rfl, hb6⟩
    have hB6 : Below W5.heap.size W5 (w6.alloc (.cells #[.bool false, .string oS] 24)) := ((hb6).alloc (by have := hb6.size; simp; try omega) _)
    have n0_0 := (hB6.cell (p := ⟨w.heap.size, 0, none⟩) HL0.out).trans f0_0
    have n0_1 := (hB6.cell (p := ⟨w.heap.size, 1, none⟩) HL0.out).trans f0_1
    have n1_0 := (hB6.cell (p := ⟨w.heap.size + 1, 0, none⟩) HL1.out).trans f1_0
    have n1_1 := (hB6.cell (p := ⟨w.heap.size + 1, 1, none⟩) HL1.out).trans f1_1
    have n2_0 := (hB6.cell (p := ⟨g2, 0, none⟩) HL2.out).trans f2_0
    have n2_1 := (hB6.cell (p := ⟨g2, 1, none⟩) HL2.out).trans f2_1
    have n3_0 := (hB6.cell (p := ⟨g4, 0, none⟩) HL3.out).trans f3_0
    have n3_1 := (hB6.cell (p := ⟨g4, 1, none⟩) HL3.out).trans f3_1
    have n4_0 := (hB6.cell (p := ⟨g4 + 1, 0, none⟩) HL4.out).trans f4_0
    have n4_1 := (hB6.cell (p := ⟨g4 + 1, 1, none⟩) HL4.out).trans f4_1
    have n5_0 := (hB6.cell (p := ⟨g5, 0, none⟩) HL5.out).trans f5_0
    have n5_1 := (hB6.cell (p := ⟨g5, 1, none⟩) HL5.out).trans f5_1
    have n6_0 := (hB6.cell (p := ⟨g5 + 1, 0, none⟩) HL6.out).trans f6_0
    have n6_1 := (hB6.cell (p := ⟨g5 + 1, 1, none⟩) HL6.out).trans f6_1
    have n7_0 : (w6.alloc (.cells #[.bool false, .string oS] 24)).cell? ⟨w6.heap.size, 0, none⟩ = some (.bool false) := by simp [go_sem]
    have n7_1 : (w6.alloc (.cells #[.bool false, .string oS] 24)).cell? ⟨w6.heap.size, 1, none⟩ = some (.string oS) := by simp [go_sem]
    clear f0_0 f0_1 f1_0 f1_1 f2_0 f2_1 f3_0 f3_1 f4_0 f4_1 f5_0 f5_1 f6_0 f6_1
    have HX6 := Lib.hid hB6
    have HY6 := Lib.hid hb6.size
    clear hB6 hb6
    go_upto_region 11 with fail
    obtain ⟨W6, hW6⟩ : ∃ W6, W6 = w6.alloc (.cells #[.bool false, .string oS] 24) := ⟨_, rfl⟩
    have hZ6 : W6.heap.size = w6.heap.size + 1 := by rw [hW6]; simp
    rw [← hW6] at HX6 ⊢
    rw [← hW6] at n0_0 n0_1
    rw [← hW6] at n1_0 n1_1
    rw [← hW6] at n2_0 n2_1
    rw [← hW6] at n3_0 n3_1
    rw [← hW6] at n4_0 n4_1
    rw [← hW6] at n5_0 n5_1
    rw [← hW6] at n6_0 n6_1
    rw [← hW6] at n7_0 n7_1
    obtain ⟨g6, hg6⟩ : ∃ g6, w6.heap.size = g6 := ⟨_, rfl⟩
    rw [hg6] at n7_0 n7_1
    rw [hg6] at hZ6 HY6 ⊢
    clear hW6 hg6
    have HL0 := Lib.hid (Nat.lt_of_lt_of_le HL0.out HX6.out.size)
    have HL1 := Lib.hid (Nat.lt_of_lt_of_le HL1.out HX6.out.size)
    have HL2 := Lib.hid (Nat.lt_of_lt_of_le HL2.out HX6.out.size)
    have HL3 := Lib.hid (Nat.lt_of_lt_of_le HL3.out HX6.out.size)
    have HL4 := Lib.hid (Nat.lt_of_lt_of_le HL4.out HX6.out.size)
    have HL5 := Lib.hid (Nat.lt_of_lt_of_le HL5.out HX6.out.size)
    have HL6 := Lib.hid (Nat.lt_of_lt_of_le HL6.out HX6.out.size)
    have HL7 := Lib.hid (show g6 < W6.heap.size by rw [hZ6]; omega)
    clear hZ6 HY6
    have HB := Lib.hid (HB.out.trans (HX6.out.mono HB.out.size))
    clear HX6
    have f0_0 := n0_0
    have f0_1 := n0_1
    have f1_0 := n1_0
    have f1_1 := n1_1
    have f2_0 := n2_0
    have f2_1 := n2_1
    have f3_0 := n3_0
    have f3_1 := n3_1
    have f4_0 := n4_0
    have f4_1 := n4_1
    have f5_0 := n5_0
    have f5_1 := n5_1
    have f6_0 := n6_0
    have f6_1 := n6_1
    have f7_0 := n7_0
    have f7_1 := n7_1
    clear n0_0 n0_1 n1_0 n1_1 n2_0 n2_1 n3_0 n3_1 n4_0 n4_1 n5_0 n5_1 n6_0 n6_1 n7_0 n7_1
    have HSC7 := Lib.hid (show W6.cell? ⟨w.heap.size, 0, none⟩ = some (.bool aB) ∧ W6.cell? ⟨w.heap.size, 1, none⟩ = some (.string aS) ∧ W6.cell? ⟨w.heap.size + 1, 0, none⟩ = some (.bool bB) ∧ W6.cell? ⟨w.heap.size + 1, 1, none⟩ = some (.string bS) ∧ W6.cell? ⟨g2, 0, none⟩ = some (.bool false) ∧ W6.cell? ⟨g2, 1, none⟩ = some (.string gS) ∧ W6.cell? ⟨g4, 0, none⟩ = some (.bool xB) ∧ W6.cell? ⟨g4, 1, none⟩ = some (.string xS) ∧ W6.cell? ⟨g4 + 1, 0, none⟩ = some (.bool false) ∧ W6.cell? ⟨g4 + 1, 1, none⟩ = some (.string ⟨#[]⟩) ∧ W6.cell? ⟨g5, 0, none⟩ = some (.bool yB) ∧ W6.cell? ⟨g5, 1, none⟩ = some (.string yS) ∧ W6.cell? ⟨g5 + 1, 0, none⟩ = some (.bool false) ∧ W6.cell? ⟨g5 + 1, 1, none⟩ = some (.string ⟨#[]⟩) ∧ W6.cell? ⟨g6, 0, none⟩ = some (.bool false) ∧ W6.cell? ⟨g6, 1, none⟩ = some (.string oS) ∧ Below w.heap.size w W6 from ⟨f0_0, f0_1, f1_0, f1_1, f2_0, f2_1, f3_0, f3_1, f4_0, f4_1, f5_0, f5_1, f6_0, f6_1, f7_0, f7_1, HB.out⟩)
    clear HL0 HL1 HL2 HL3 HL4 HL5 HL6 HL7
    go_cut [4] (fun a9 wx => a9 = .bool true ∧ (wx.cell? ⟨w.heap.size, 0, none⟩ = some (.bool aB) ∧ wx.cell? ⟨w.heap.size, 1, none⟩ = some (.string aS) ∧ wx.cell? ⟨w.heap.size + 1, 0, none⟩ = some (.bool bB) ∧ wx.cell? ⟨w.heap.size + 1, 1, none⟩ = some (.string bS) ∧ wx.cell? ⟨g2, 0, none⟩ = some (.bool false) ∧ wx.cell? ⟨g2, 1, none⟩ = some (.string gS) ∧ wx.cell? ⟨g4, 0, none⟩ = some (.bool xB) ∧ wx.cell? ⟨g4, 1, none⟩ = some (.string xS) ∧ wx.cell? ⟨g4 + 1, 0, none⟩ = some (.bool false) ∧ wx.cell? ⟨g4 + 1, 1, none⟩ = some (.string ⟨#[]⟩) ∧ wx.cell? ⟨g5, 0, none⟩ = some (.bool yB) ∧ wx.cell? ⟨g5, 1, none⟩ = some (.string yS) ∧ wx.cell? ⟨g5 + 1, 0, none⟩ = some (.bool false) ∧ wx.cell? ⟨g5 + 1, 1, none⟩ = some (.string ⟨#[]⟩) ∧ wx.cell? ⟨g6, 0, none⟩ = some (.bool false) ∧ wx.cell? ⟨g6, 1, none⟩ = some (.string oS) ∧ Below w.heap.size w wx))
    case first =>
      have hSC := HSC7.out
      go_region_held3 (fun w' => w'.cell? ⟨w.heap.size, 0, none⟩ = some (.bool aB) ∧ w'.cell? ⟨w.heap.size, 1, none⟩ = some (.string aS) ∧ w'.cell? ⟨w.heap.size + 1, 0, none⟩ = some (.bool bB) ∧ w'.cell? ⟨w.heap.size + 1, 1, none⟩ = some (.string bS) ∧ w'.cell? ⟨g2, 0, none⟩ = some (.bool false) ∧ w'.cell? ⟨g2, 1, none⟩ = some (.string gS) ∧ w'.cell? ⟨g4, 0, none⟩ = some (.bool xB) ∧ w'.cell? ⟨g4, 1, none⟩ = some (.string xS) ∧ w'.cell? ⟨g4 + 1, 0, none⟩ = some (.bool false) ∧ w'.cell? ⟨g4 + 1, 1, none⟩ = some (.string ⟨#[]⟩) ∧ w'.cell? ⟨g5, 0, none⟩ = some (.bool yB) ∧ w'.cell? ⟨g5, 1, none⟩ = some (.string yS) ∧ w'.cell? ⟨g5 + 1, 0, none⟩ = some (.bool false) ∧ w'.cell? ⟨g5 + 1, 1, none⟩ = some (.string ⟨#[]⟩) ∧ w'.cell? ⟨g6, 0, none⟩ = some (.bool false) ∧ w'.cell? ⟨g6, 1, none⟩ = some (.string oS) ∧ Below w.heap.size w w') (first | assumption | exact cl_drew (by assumption)) (first | (go_at_call 20; refine (H6.out _).mono ?_; rintro e wn0 ⟨rfl, hbr⟩; have hS0 := cl_step hbr (by assumption); clear hbr) | (go_at_call 12; refine (HLV.out _).mono ?_; rintro e wn1 ⟨rfl, hbr⟩; have hS1 := cl_step hbr (by assumption); clear hbr))
      all_goals go_wp2
      all_goals go_meet
      all_goals exact ⟨rfl, by first | assumption | exact cl_drew (by assumption)⟩
    case rest =>
      obtain ⟨rfl, hSc⟩ := hcut
      obtain ⟨m0_0, m0_1, m1_0, m1_1, m2_0, m2_1, m3_0, m3_1, m4_0, m4_1, m5_0, m5_1, m6_0, m6_1, m7_0, m7_1, hbc⟩ := hSc
      clear f0_0 f0_1 f1_0 f1_1 f2_0 f2_1 f3_0 f3_1 f4_0 f4_1 f5_0 f5_1 f6_0 f6_1 f7_0 f7_1
      have HB := Lib.hid hbc
      have f0_0 := m0_0; have f0_1 := m0_1; have HL0 := Lib.hid (World.block_lt_of_cell? _ _ f0_0)
      have f1_0 := m1_0; have f1_1 := m1_1; have HL1 := Lib.hid (World.block_lt_of_cell? _ _ f1_0)
      have f2_0 := m2_0; have f2_1 := m2_1; have HL2 := Lib.hid (World.block_lt_of_cell? _ _ f2_0)
      have f3_0 := m3_0; have f3_1 := m3_1; have HL3 := Lib.hid (World.block_lt_of_cell? _ _ f3_0)
      have f4_0 := m4_0; have f4_1 := m4_1; have HL4 := Lib.hid (World.block_lt_of_cell? _ _ f4_0)
      have f5_0 := m5_0; have f5_1 := m5_1; have HL5 := Lib.hid (World.block_lt_of_cell? _ _ f5_0)
      have f6_0 := m6_0; have f6_1 := m6_1; have HL6 := Lib.hid (World.block_lt_of_cell? _ _ f6_0)
      have f7_0 := m7_0; have f7_1 := m7_1; have HL7 := Lib.hid (World.block_lt_of_cell? _ _ f7_0)
      clear m0_0 m0_1 m1_0 m1_1 m2_0 m2_1 m3_0 m3_1 m4_0 m4_1 m5_0 m5_1 m6_0 m6_1 m7_0 m7_1 hbc HSC7
      go_wp2
      go_ret
      exact ⟨rfl, HB.out⟩

theorem ba_nil {s : ByteArray} (h : s.size = 0) : s = ⟨#[]⟩ := by
  cases s with
  | mk d => exact congrArg ByteArray.mk (Array.eq_empty_of_size_eq_zero h)
theorem pv_zero : pv 0 = (false, ⟨#[]⟩) := by
  unfold pv encN
  rw [show (((0 : Int).natAbs : Nat) : Int) = 0 from rfl, nb_zero]
  rfl
theorem pv_nat (n : Nat) : pv (n : Int) = (false, (pv (n : Int)).2) := by
  have : (pv (n : Int)).1 = false := by
    show decide ((n : Int) < 0) = false
    exact decide_eq_false (by omega)
  rw [← this]
theorem nv_nil0 : nv (⟨#[]⟩ : ByteArray) = 0 := rfl
theorem ival_z {n : Bool} {s : ByteArray} (hk : okI n s) (h : ival n s = 0) : s = ⟨#[]⟩ := by
  have := pv_ival hk
  rw [h, pv_zero] at this
  exact (congrArg Prod.snd this).symm
theorem div_f2 (a b : Bool × ByteArray) (A B' : Int) (ha : a.2.size ≤ 400) (hb : b.2.size ≤ 400) (hka : okI a.1 a.2) (hkb : okI b.1 b.2) (hA : ival a.1 a.2 = A) (hB : ival b.1 b.2 = B') (h0 : B' ≠ 0) (hd : A % B' = 0) :
    Hid (∀ w, Calls Tryd.prog 13 #[.agg #[.bool a.1, .string a.2], .agg #[.bool b.1, .string b.2]] w fun e w' => e = .returned (.tuple #[.agg #[.bool (pv (A / B')).1, .string (pv (A / B')).2], .agg #[.bool false, .string ⟨#[]⟩], .int .i64 0]) ∧ Below w.heap.size w w') := by
  refine Lib.hid fun w => (quo_f2 a b (by omega) (by omega) w).mono fun e w' h => ⟨?_, h.2⟩
  rw [h.1]
  have e1 : quoF a b = (pv (A / B'), pv 0, 0) := by
    unfold quoF
    rw [if_neg (fun hc => hc (bad2_ok.2 ⟨hka, hkb⟩)), if_neg (by
      intro hz
      apply h0
      rw [← hB]
      unfold ival sgn
      split <;> omega), hA, hB, hd]
  rw [e1, pv_zero]
theorem pv_part {v : Int} : pv v = ((pv v).1, (pv v).2) := rfl
theorem common_c (a b : Bool × ByteArray) (w : World) :
    Calls Tryd.prog 4 #[.agg #[.bool a.1, .string a.2], .agg #[.bool b.1, .string b.2]] w fun e w' => e = .returned (.bool true) ∧ Below w.heap.size w w' := by
  by_cases h1 : 200 < a.2.size
  · exact comm_big1 _ _ _ _ (decide_eq_true (by omega)) w
  · have d1 : decide ((200 : Int) < (a.2.size : Int)) = false := decide_eq_false (by omega)
    by_cases h2 : 200 < b.2.size
    · exact comm_big2 _ _ _ _ d1 (decide_eq_true (by omega)) w
    · have d2 : decide ((200 : Int) < (b.2.size : Int)) = false := decide_eq_false (by omega)
      have HE := Lib.hid (both_r a.1 a.2 b.1 b.2)
      by_cases h0 : bad2 a.1 a.2 b.1 b.2 = 0
      · have hok := bad2_ok.1 h0
        rw [h0] at HE
        obtain ⟨G, hG⟩ : ∃ G, Int.gcd (ival a.1 a.2) (ival b.1 b.2) = G := ⟨_, rfl⟩
        have H1 : Hid (∀ w, Calls Tryd.prog 18 #[.agg #[.bool a.1, .string a.2], .agg #[.bool b.1, .string b.2]] w fun e w' => e = .returned (.tuple #[.agg #[.bool false, .string (pv (G : Int)).2], .int .i64 0]) ∧ Below w.heap.size w w') :=
          Lib.hid fun w => (gcd_f2 a b (by omega) (by omega) w).mono fun e w' h => ⟨by
            rw [h.1]
            have e1 : gcdF a b = ((false, (pv (G : Int)).2), 0) := by
              unfold gcdF
              rw [if_neg (fun hc => hc h0), hG, ← pv_nat]
            rw [e1], h.2⟩
        have H2 : Hid (∀ w, Calls Tryd.prog 19 #[.agg #[.bool a.1, .string a.2], .agg #[.bool b.1, .string b.2]] w fun e w' => e = .returned (.agg #[.bool false, .string (pv (G : Int)).2]) ∧ Below w.heap.size w w') :=
          Lib.hid fun w => (common_r a.1 a.2 b.1 b.2 (by omega) (by omega) w).mono fun e w' h => ⟨by
            rw [h.1]
            have e1 : Nat.gcd (nv a.2).toNat (nv b.2).toNat = G := by rw [← hG]; unfold Int.gcd; rw [natAbs_ival, natAbs_ival]
            rw [e1, putV_pv, pv_nat]
            rfl, h.2⟩
        by_cases hz : G = 0
        · have hz2 := Int.gcd_eq_zero_iff.1 (hG.trans hz)
          have ea := ival_z hok.1 hz2.1
          have eb := ival_z hok.2 hz2.2
          obtain ⟨aB, aS⟩ := a
          obtain ⟨bB, bS⟩ := b
          simp only at ea eb
          subst ea eb hz
          rw [show ((0 : Nat) : Int) = 0 from rfl, pv_zero] at H1 H2
          exact comm_z _ _ HE H1 H2 w
        · have hGn : (G : Int) ≠ 0 := by omega
          have sa := ival_bd (n := a.1) (s := a.2) (k := 200) (by omega)
          have sb := ival_bd (n := b.1) (s := b.2) (k := 200) (by omega)
          have sG : (pv (G : Int)).2.size ≤ 200 := size_pv (by
            rw [← hG, Int.natAbs_natCast]
            by_cases ha0 : ival a.1 a.2 = 0
            · rw [ha0, Int.gcd_zero_left]; exact sb
            · have := Int.gcd_le_natAbs_left (ival b.1 b.2) ha0
              omega)
          have kG : okI (pv (G : Int)).1 (pv (G : Int)).2 := okI_pv (by omega)
          have kG2 : okI false (pv (G : Int)).2 := by have := pv_nat G; rw [this] at kG; exact kG
          have iG : ival false (pv (G : Int)).2 = G := by have h := ival_pv (G : Int); rw [pv_nat] at h; exact h
          have hsz : 0 < (pv (G : Int)).2.size := Nat.pos_of_ne_zero fun h => hGn (by rw [← iG, ba_nil h]; rfl)
          have yg : (pv (G : Int)).2.toList.isEmpty = false := by have h := (toList_ne hsz).1; cases hl : (pv (G : Int)).2.toList with | nil => rw [hl] at h; cases h | cons x y => rfl
          have H3 := div_f2 a (false, (pv (G : Int)).2) _ _ (by omega) (by simp only; omega) hok.1 kG2 rfl iG hGn (Int.emod_eq_zero_of_dvd (by rw [← hG]; exact Int.gcd_dvd_left _ _))
          have H4 := div_f2 b (false, (pv (G : Int)).2) _ _ (by omega) (by simp only; omega) hok.2 kG2 rfl iG hGn (Int.emod_eq_zero_of_dvd (by rw [← hG]; exact Int.gcd_dvd_right _ _))
          have sx : (pv (ival a.1 a.2 / (G : Int))).2.size ≤ 200 := size_pv (by have := Int.natAbs_ediv_le_natAbs (ival a.1 a.2) (G : Int); omega)
          have sy : (pv (ival b.1 b.2 / (G : Int))).2.size ≤ 200 := size_pv (by have := Int.natAbs_ediv_le_natAbs (ival b.1 b.2) (G : Int); omega)
          have H5 : Hid (∀ w, Calls Tryd.prog 18 #[.agg #[.bool (pv (ival a.1 a.2 / (G : Int))).1, .string (pv (ival a.1 a.2 / (G : Int))).2], .agg #[.bool (pv (ival b.1 b.2 / (G : Int))).1, .string (pv (ival b.1 b.2 / (G : Int))).2]] w fun e w' => e = .returned (.tuple #[.agg #[.bool false, .string (pv ((1 : Nat) : Int)).2], .int .i64 0]) ∧ Below w.heap.size w w') :=
            Lib.hid fun w => (gcd_f2 (pv (ival a.1 a.2 / (G : Int))) (pv (ival b.1 b.2 / (G : Int))) (by omega) (by omega) w).mono fun e w' h => ⟨by
              rw [h.1]
              have e1 : gcdF (pv (ival a.1 a.2 / (G : Int))) (pv (ival b.1 b.2 / (G : Int))) = ((false, (pv ((1 : Nat) : Int)).2), 0) := by
                unfold gcdF
                rw [if_neg (fun hc => hc (bad_pv (by omega) (by omega))), ival_pv, ival_pv, ← hG, Int.gcd_ediv_gcd_ediv_gcd (by omega), ← pv_nat]
              rw [e1], h.2⟩
          have H6 : Hid (∀ w, Calls Tryd.prog 20 #[.int .i64 1] w fun e w' => e = .returned (.agg #[.bool false, .string (pv ((1 : Nat) : Int)).2]) ∧ Below w.heap.size w w') :=
            Lib.hid fun w => (of_r 1 (by omega) (by omega) w).mono fun e w' h => ⟨by rw [h.1]; rfl, h.2⟩
          exact comm_ok _ _ _ _ d1 d2 HE _ _ _ _ _ _ yg H1 H2 H3 H4 H5 H6 w
      · exact comm_bad _ _ _ _ d1 d2 _ HE (beq_eq_false_iff_ne.mpr h0) (bne_iff_ne.mpr h0) w
#print axioms common_c
end Go.Proofs.YtimpimnaknkgpaaDoor
