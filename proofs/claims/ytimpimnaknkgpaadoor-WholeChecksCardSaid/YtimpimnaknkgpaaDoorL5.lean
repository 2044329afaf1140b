import Derived.Test.YtimpimnaknkgpaaDoorL3s
import Derived.Test.YtimpimnaknkgpaaDoorR5
namespace Go.Proofs.YtimpimnaknkgpaaDoor
open Go.RowKit Num
set_option linter.unusedVariables false
set_option linter.unusedSimpArgs false

set_option maxHeartbeats 4000000 in
set_option maxRecDepth 100000 in
theorem checks_big (aB bB : Bool) (aS bS : ByteArray) (HS : Hid (∀ w, Calls Tryd.prog 10 #[.agg #[.bool aB, .string aS], .agg #[.bool bB, .string bS]] w fun e w' => e = .returned (.bool false) ∧ Below w.heap.size w w'))  (w : World) :
    Calls Tryd.prog 9 #[.agg #[.bool aB, .string aS], .agg #[.bool bB, .string bS]] w fun e w' => e = .returned (.bool true) ∧ Below w.heap.size w w' := by
  obtain ⟨W0, hW0⟩ : ∃ W0, W0 = (w.alloc (.cells #[.bool aB, .string aS] 24)).alloc (.cells #[.bool bB, .string bS] 24) := ⟨_, rfl⟩
  have hB0 : Below w.heap.size w W0 := by rw [hW0]; exact ((Below.refl _ _).alloc (by simp; try omega) _).alloc (by simp; try omega) _
  have f0_0 : W0.cell? ⟨w.heap.size, 0, none⟩ = some (.bool aB) := by rw [hW0]; simp [go_sem]
  have f0_1 : W0.cell? ⟨w.heap.size, 1, none⟩ = some (.string aS) := by rw [hW0]; simp [go_sem]
  have f1_0 : W0.cell? ⟨w.heap.size + 1, 0, none⟩ = some (.bool bB) := by rw [hW0]; simp [go_sem]
  have f1_1 : W0.cell? ⟨w.heap.size + 1, 1, none⟩ = some (.string bS) := by rw [hW0]; simp [go_sem]
  have hZ0 : W0.heap.size = w.heap.size + 2 := by rw [hW0]; simp
  have HL0 := Lib.hid (show w.heap.size < W0.heap.size by rw [hZ0]; omega)
  have HL1 := Lib.hid (show w.heap.size + 1 < W0.heap.size by rw [hZ0]; omega)
  have HW0 := Lib.hid hW0
  have HB := Lib.hid hB0
  clear hB0 hZ0 hW0
  have HLV := Lib.hid live_c
  go_enter Tryd.func9, Tryd.ntmps9
  go_wp2_with fail
  rw [← HW0.out]
  refine (HS.out _).mono ?_
  rintro e w1 ⟨rfl, hb1⟩
  have hB1 : Below W0.heap.size W0 (w1) := hb1
  have n0_0 := (hB1.cell (p := ⟨w.heap.size, 0, none⟩) HL0.out).trans f0_0
  have n0_1 := (hB1.cell (p := ⟨w.heap.size, 1, none⟩) HL0.out).trans f0_1
  have n1_0 := (hB1.cell (p := ⟨w.heap.size + 1, 0, none⟩) HL1.out).trans f1_0
  have n1_1 := (hB1.cell (p := ⟨w.heap.size + 1, 1, none⟩) HL1.out).trans f1_1
  clear f0_0 f0_1 f1_0 f1_1
  have HX1 := Lib.hid hB1
  have HY1 := Lib.hid hb1.size
  clear hB1 hb1
  go_wp2_with fail
  have HL0 := Lib.hid (Nat.lt_of_lt_of_le HL0.out HX1.out.size)
  have HL1 := Lib.hid (Nat.lt_of_lt_of_le HL1.out HX1.out.size)
  have HB := Lib.hid (HB.out.trans (HX1.out.mono HB.out.size))
  clear HX1
  have f0_0 := n0_0
  have f0_1 := n0_1
  have f1_0 := n1_0
  have f1_1 := n1_1
  clear n0_0 n0_1 n1_0 n1_1
  refine (HLV.out _).mono ?_
  rintro e w2 ⟨rfl, hb2⟩
  have hB2 : Below w1.heap.size w1 (w2) := hb2
  have n0_0 := (hB2.cell (p := ⟨w.heap.size, 0, none⟩) HL0.out).trans f0_0
  have n0_1 := (hB2.cell (p := ⟨w.heap.size, 1, none⟩) HL0.out).trans f0_1
  have n1_0 := (hB2.cell (p := ⟨w.heap.size + 1, 0, none⟩) HL1.out).trans f1_0
  have n1_1 := (hB2.cell (p := ⟨w.heap.size + 1, 1, none⟩) HL1.out).trans f1_1
  clear f0_0 f0_1 f1_0 f1_1
  have HX2 := Lib.hid hB2
  have HY2 := Lib.hid hb2.size
  clear hB2 hb2
  have HL0 := Lib.hid (Nat.lt_of_lt_of_le HL0.out HX2.out.size)
  have HL1 := Lib.hid (Nat.lt_of_lt_of_le HL1.out HX2.out.size)
  have HB := Lib.hid (HB.out.trans (HX2.out.mono HB.out.size))
  clear HX2
  have f0_0 := n0_0
  have f0_1 := n0_1
  have f1_0 := n1_0
  have f1_1 := n1_1
  clear n0_0 n0_1 n1_0 n1_1
  go_wp2
  go_ret
  exact ⟨rfl, HB.out⟩

theorem ch_step {aB : Bool} {aS : ByteArray} {w W : World} {W' : World} (hbr : Below W.heap.size W W') (h : W.cell? ⟨w.heap.size, 0, none⟩ = some (.bool aB) ∧ W.cell? ⟨w.heap.size, 1, none⟩ = some (.string aS) ∧ Below w.heap.size w W) : W'.cell? ⟨w.heap.size, 0, none⟩ = some (.bool aB) ∧ W'.cell? ⟨w.heap.size, 1, none⟩ = some (.string aS) ∧ Below w.heap.size w W' :=
  ⟨(hbr.cell (World.block_lt_of_cell? _ _ h.1)).trans h.1, (hbr.cell (World.block_lt_of_cell? _ _ h.2.1)).trans h.2.1, h.2.2.trans (hbr.mono h.2.2.size)⟩
theorem ch_drew {aB : Bool} {aS : ByteArray} {w W : World} (h : W.cell? ⟨w.heap.size, 0, none⟩ = some (.bool aB) ∧ W.cell? ⟨w.heap.size, 1, none⟩ = some (.string aS) ∧ Below w.heap.size w W) : W.drew.cell? ⟨w.heap.size, 0, none⟩ = some (.bool aB) ∧ W.drew.cell? ⟨w.heap.size, 1, none⟩ = some (.string aS) ∧ Below w.heap.size w W.drew := ⟨h.1, h.2.1, h.2.2.drew⟩
set_option maxHeartbeats 4000000 in
set_option maxRecDepth 100000 in
theorem checks_e0 (aB bB : Bool) (aS bS : ByteArray) (HS : Hid (∀ w, Calls Tryd.prog 10 #[.agg #[.bool aB, .string aS], .agg #[.bool bB, .string bS]] w fun e w' => e = .returned (.bool true) ∧ Below w.heap.size w w')) (sB dB pB qB rB gB : Bool) (sS dS pS qS rS gS tS : ByteArray) (c EA : Int) (HE : Hid (∀ w, Calls Tryd.prog 11 #[.agg #[.bool aB, .string aS], .agg #[.bool bB, .string bS]] w fun e w' => e = .returned (.int .i64 0) ∧ Below w.heap.size w w')) (H1 : Hid (∀ w, Calls Tryd.prog 30 #[.agg #[.bool aB, .string aS], .agg #[.bool bB, .string bS]] w fun e w' => e = .returned (.tuple #[.int .i64 c, .int .i64 0]) ∧ Below w.heap.size w w')) (H2 : Hid (∀ w, Calls Tryd.prog 27 #[.agg #[.bool aB, .string aS], .agg #[.bool bB, .string bS]] w fun e w' => e = .returned (.tuple #[.agg #[.bool sB, .string sS], .int .i64 0]) ∧ Below w.heap.size w w')) (H3 : Hid (∀ w, Calls Tryd.prog 29 #[.agg #[.bool aB, .string aS], .agg #[.bool bB, .string bS]] w fun e w' => e = .returned (.tuple #[.agg #[.bool dB, .string dS], .int .i64 0]) ∧ Below w.heap.size w w')) (H4 : Hid (∀ w, Calls Tryd.prog 28 #[.agg #[.bool aB, .string aS], .agg #[.bool bB, .string bS]] w fun e w' => e = .returned (.tuple #[.agg #[.bool pB, .string pS], .int .i64 0]) ∧ Below w.heap.size w w')) (H5 : Hid (∀ w, Calls Tryd.prog 13 #[.agg #[.bool aB, .string aS], .agg #[.bool bB, .string bS]] w fun e w' => e = .returned (.tuple #[.agg #[.bool qB, .string qS], .agg #[.bool rB, .string rS], .int .i64 0]) ∧ Below w.heap.size w w')) (H6 : Hid (∀ w, Calls Tryd.prog 18 #[.agg #[.bool aB, .string aS], .agg #[.bool bB, .string bS]] w fun e w' => e = .returned (.tuple #[.agg #[.bool gB, .string gS], .int .i64 0]) ∧ Below w.heap.size w w')) (H7 : Hid (∀ w, Calls Tryd.prog 25 #[.agg #[.bool aB, .string aS]] w fun e w' => e = .returned (.tuple #[.string tS, .int .i64 EA]) ∧ Below w.heap.size w w')) (H8 : Hid (∀ w, Calls Tryd.prog 31 #[.agg #[.bool aB, .string aS]] w fun e w' => e = .returned (.int .i64 EA) ∧ Below w.heap.size w w')) (H9 : Hid (∀ w, Calls Tryd.prog 24 #[.agg #[.bool aB, .string aS]] w fun e w' => e = .returned (.int .i64 EA) ∧ Below w.heap.size w w')) (w : World) :
    Calls Tryd.prog 9 #[.agg #[.bool aB, .string aS], .agg #[.bool bB, .string bS]] w fun e w' => e = .returned (.bool true) ∧ Below w.heap.size w w' := by
  obtain ⟨W0, hW0⟩ : ∃ W0, W0 = (w.alloc (.cells #[.bool aB, .string aS] 24)).alloc (.cells #[.bool bB, .string bS] 24) := ⟨_, rfl⟩
  have hB0 : Below w.heap.size w W0 := by rw [hW0]; exact ((Below.refl _ _).alloc (by simp; try omega) _).alloc (by simp; try omega) _
  have f0_0 : W0.cell? ⟨w.heap.size, 0, none⟩ = some (.bool aB) := by rw [hW0]; simp [go_sem]
  have f0_1 : W0.cell? ⟨w.heap.size, 1, none⟩ = some (.string aS) := by rw [hW0]; simp [go_sem]
  have f1_0 : W0.cell? ⟨w.heap.size + 1, 0, none⟩ = some (.bool bB) := by rw [hW0]; simp [go_sem]
  have f1_1 : W0.cell? ⟨w.heap.size + 1, 1, none⟩ = some (.string bS) := by rw [hW0]; simp [go_sem]
  have hZ0 : W0.heap.size = w.heap.size + 2 := by rw [hW0]; simp
  have HL0 := Lib.hid (show w.heap.size < W0.heap.size by rw [hZ0]; omega)
  have HL1 := Lib.hid (show w.heap.size + 1 < W0.heap.size by rw [hZ0]; omega)
  have HW0 := Lib.hid hW0
  have HB := Lib.hid hB0
  clear hB0 hZ0 hW0
  have HLV := Lib.hid live_c
  go_enter Tryd.func9, Tryd.ntmps9
  go_wp2_with fail
  rw [← HW0.out]
  refine (HS.out _).mono ?_
  rintro e w1 ⟨rfl, hb1⟩
  have hB1 : Below W0.heap.size W0 (w1) := hb1
  have n0_0 := (hB1.cell (p := ⟨w.heap.size, 0, none⟩) HL0.out).trans f0_0
  have n0_1 := (hB1.cell (p := ⟨w.heap.size, 1, none⟩) HL0.out).trans f0_1
  have n1_0 := (hB1.cell (p := ⟨w.heap.size + 1, 0, none⟩) HL1.out).trans f1_0
  have n1_1 := (hB1.cell (p := ⟨w.heap.size + 1, 1, none⟩) HL1.out).trans f1_1
  clear f0_0 f0_1 f1_0 f1_1
  have HX1 := Lib.hid hB1
  have HY1 := Lib.hid hb1.size
  clear hB1 hb1
  go_wp2_with fail
  have HL0 := Lib.hid (Nat.lt_of_lt_of_le HL0.out HX1.out.size)
  have HL1 := Lib.hid (Nat.lt_of_lt_of_le HL1.out HX1.out.size)
  have HB := Lib.hid (HB.out.trans (HX1.out.mono HB.out.size))
  clear HX1
  have f0_0 := n0_0
  have f0_1 := n0_1
  have f1_0 := n1_0
  have f1_1 := n1_1
  clear n0_0 n0_1 n1_0 n1_1
  refine (HE.out _).mono ?_
  rintro e w2 ⟨rfl, hb2⟩
  have hB2 : Below w1.heap.size w1 (w2) := hb2
  have n0_0 := (hB2.cell (p := ⟨w.heap.size, 0, none⟩) HL0.out).trans f0_0
  have n0_1 := (hB2.cell (p := ⟨w.heap.size, 1, none⟩) HL0.out).trans f0_1
  have n1_0 := (hB2.cell (p := ⟨w.heap.size + 1, 0, none⟩) HL1.out).trans f1_0
  have n1_1 := (hB2.cell (p := ⟨w.heap.size + 1, 1, none⟩) HL1.out).trans f1_1
  clear f0_0 f0_1 f1_0 f1_1
  have HX2 := Lib.hid hB2
  have HY2 := Lib.hid hb2.size
  clear hB2 hb2
  go_wp2_with fail
  have HL0 := Lib.hid (Nat.lt_of_lt_of_le HL0.out HX2.out.size)
  have HL1 := Lib.hid (Nat.lt_of_lt_of_le HL1.out HX2.out.size)
  have HB := Lib.hid (HB.out.trans (HX2.out.mono HB.out.size))
  clear HX2
  have f0_0 := n0_0
  have f0_1 := n0_1
  have f1_0 := n1_0
  have f1_1 := n1_1
  clear n0_0 n0_1 n1_0 n1_1
  refine (H1.out _).mono ?_
  rintro e w3 ⟨rfl, hb3⟩
  have hB3 : Below w2.heap.size w2 (w3) := hb3
  have n0_0 := (hB3.cell (p := ⟨w.heap.size, 0, none⟩) HL0.out).trans f0_0
  have n0_1 := (hB3.cell (p := ⟨w.heap.size, 1, none⟩) HL0.out).trans f0_1
  have n1_0 := (hB3.cell (p := ⟨w.heap.size + 1, 0, none⟩) HL1.out).trans f1_0
  have n1_1 := (hB3.cell (p := ⟨w.heap.size + 1, 1, none⟩) HL1.out).trans f1_1
  clear f0_0 f0_1 f1_0 f1_1
  have HX3 := Lib.hid hB3
  have HY3 := Lib.hid hb3.size
  clear hB3 hb3
  go_wp2_with fail
  have HL0 := Lib.hid (Nat.lt_of_lt_of_le HL0.out HX3.out.size)
  have HL1 := Lib.hid (Nat.lt_of_lt_of_le HL1.out HX3.out.size)
  have HB := Lib.hid (HB.out.trans (HX3.out.mono HB.out.size))
  clear HX3
  have f0_0 := n0_0
  have f0_1 := n0_1
  have f1_0 := n1_0
  have f1_1 := n1_1
  clear n0_0 n0_1 n1_0 n1_1
  refine (H2.out _).mono ?_
  rintro e w4 ⟨rfl, hb4⟩
  have hB4 : Below w3.heap.size w3 (w4.alloc (.cells #[.bool sB, .string sS] 24)) := ((hb4).alloc (by have := hb4.size; simp; try omega) _)
  have n0_0 := (hB4.cell (p := ⟨w.heap.size, 0, none⟩) HL0.out).trans f0_0
  have n0_1 := (hB4.cell (p := ⟨w.heap.size, 1, none⟩) HL0.out).trans f0_1
  have n1_0 := (hB4.cell (p := ⟨w.heap.size + 1, 0, none⟩) HL1.out).trans f1_0
  have n1_1 := (hB4.cell (p := ⟨w.heap.size + 1, 1, none⟩) HL1.out).trans f1_1
  have n2_0 : (w4.alloc (.cells #[.bool sB, .string sS] 24)).cell? ⟨w4.heap.size, 0, none⟩ = some (.bool sB) := by simp [go_sem]
  have n2_1 : (w4.alloc (.cells #[.bool sB, .string sS] 24)).cell? ⟨w4.heap.size, 1, none⟩ = some (.string sS) := by simp [go_sem]
  clear f0_0 f0_1 f1_0 f1_1
  have HX4 := Lib.hid hB4
  have HY4 := Lib.hid hb4.size
  clear hB4 hb4
  go_wp2_with fail
  obtain ⟨W4, hW4⟩ : ∃ W4, W4 = w4.alloc (.cells #[.bool sB, .string sS] 24) := ⟨_, rfl⟩
  have hZ4 : W4.heap.size = w4.heap.size + 1 := by rw [hW4]; simp
  rw [← hW4] at HX4 ⊢
  rw [← hW4] at n0_0 n0_1
  rw [← hW4] at n1_0 n1_1
  rw [← hW4] at n2_0 n2_1
  obtain ⟨g4, hg4⟩ : ∃ g4, w4.heap.size = g4 := ⟨_, rfl⟩
  rw [hg4] at n2_0 n2_1
  rw [hg4] at hZ4 HY4 ⊢
  clear hW4 hg4
  have HL0 := Lib.hid (Nat.lt_of_lt_of_le HL0.out HX4.out.size)
  have HL1 := Lib.hid (Nat.lt_of_lt_of_le HL1.out HX4.out.size)
  have HL2 := Lib.hid (show g4 < W4.heap.size by rw [hZ4]; omega)
  clear hZ4 HY4
  have HB := Lib.hid (HB.out.trans (HX4.out.mono HB.out.size))
  clear HX4
  have f0_0 := n0_0
  have f0_1 := n0_1
  have f1_0 := n1_0
  have f1_1 := n1_1
  have f2_0 := n2_0
  have f2_1 := n2_1
  clear n0_0 n0_1 n1_0 n1_1 n2_0 n2_1
  refine (H3.out _).mono ?_
  rintro e w5 ⟨rfl, hb5⟩
  have hB5 : Below W4.heap.size W4 (w5.alloc (.cells #[.bool dB, .string dS] 24)) := ((hb5).alloc (by have := hb5.size; simp; try omega) _)
  have n0_0 := (hB5.cell (p := ⟨w.heap.size, 0, none⟩) HL0.out).trans f0_0
  have n0_1 := (hB5.cell (p := ⟨w.heap.size, 1, none⟩) HL0.out).trans f0_1
  have n1_0 := (hB5.cell (p := ⟨w.heap.size + 1, 0, none⟩) HL1.out).trans f1_0
  have n1_1 := (hB5.cell (p := ⟨w.heap.size + 1, 1, none⟩) HL1.out).trans f1_1
  have n2_0 := (hB5.cell (p := ⟨g4, 0, none⟩) HL2.out).trans f2_0
  have n2_1 := (hB5.cell (p := ⟨g4, 1, none⟩) HL2.out).trans f2_1
  have n3_0 : (w5.alloc (.cells #[.bool dB, .string dS] 24)).cell? ⟨w5.heap.size, 0, none⟩ = some (.bool dB) := by simp [go_sem]
  have n3_1 : (w5.alloc (.cells #[.bool dB, .string dS] 24)).cell? ⟨w5.heap.size, 1, none⟩ = some (.string dS) := by simp [go_sem]
  clear f0_0 f0_1 f1_0 f1_1 f2_0 f2_1
  have HX5 := Lib.hid hB5
  have HY5 := Lib.hid hb5.size
  clear hB5 hb5
  go_wp2_with fail
  obtain ⟨W5, hW5⟩ : ∃ W5, W5 = w5.alloc (.cells #[.bool dB, .string dS] 24) := ⟨_, rfl⟩
  have hZ5 : W5.heap.size = w5.heap.size + 1 := by rw [hW5]; simp
  rw [← hW5] at HX5 ⊢
  rw [← hW5] at n0_0 n0_1
  rw [← hW5] at n1_0 n1_1
  rw [← hW5] at n2_0 n2_1
  rw [← hW5] at n3_0 n3_1
  obtain ⟨g5, hg5⟩ : ∃ g5, w5.heap.size = g5 := ⟨_, rfl⟩
  rw [hg5] at n3_0 n3_1
  rw [hg5] at hZ5 HY5 ⊢
  clear hW5 hg5
  have HL0 := Lib.hid (Nat.lt_of_lt_of_le HL0.out HX5.out.size)
  have HL1 := Lib.hid (Nat.lt_of_lt_of_le HL1.out HX5.out.size)
  have HL2 := Lib.hid (Nat.lt_of_lt_of_le HL2.out HX5.out.size)
  have HL3 := Lib.hid (show g5 < W5.heap.size by rw [hZ5]; omega)
  clear hZ5 HY5
  have HB := Lib.hid (HB.out.trans (HX5.out.mono HB.out.size))
  clear HX5
  have f0_0 := n0_0
  have f0_1 := n0_1
  have f1_0 := n1_0
  have f1_1 := n1_1
  have f2_0 := n2_0
  have f2_1 := n2_1
  have f3_0 := n3_0
  have f3_1 := n3_1
  clear n0_0 n0_1 n1_0 n1_1 n2_0 n2_1 n3_0 n3_1
  refine (H4.out _).mono ?_
  rintro e w6 ⟨rfl, hb6⟩
  have hB6 : Below W5.heap.size W5 (w6.alloc (.cells #[.bool pB, .string pS] 24)) := ((hb6).alloc (by have := hb6.size; simp; try omega) _)
  have n0_0 := (hB6.cell (p := ⟨w.heap.size, 0, none⟩) HL0.out).trans f0_0
  have n0_1 := (hB6.cell (p := ⟨w.heap.size, 1, none⟩) HL0.out).trans f0_1
  have n1_0 := (hB6.cell (p := ⟨w.heap.size + 1, 0, none⟩) HL1.out).trans f1_0
  have n1_1 := (hB6.cell (p := ⟨w.heap.size + 1, 1, none⟩) HL1.out).trans f1_1
  have n2_0 := (hB6.cell (p := ⟨g4, 0, none⟩) HL2.out).trans f2_0
  have n2_1 := (hB6.cell (p := ⟨g4, 1, none⟩) HL2.out).trans f2_1
  have n3_0 := (hB6.cell (p := ⟨g5, 0, none⟩) HL3.out).trans f3_0
  have n3_1 := (hB6.cell (p := ⟨g5, 1, none⟩) HL3.out).trans f3_1
  have n4_0 : (w6.alloc (.cells #[.bool pB, .string pS] 24)).cell? ⟨w6.heap.size, 0, none⟩ = some (.bool pB) := by simp [go_sem]
  have n4_1 : (w6.alloc (.cells #[.bool pB, .string pS] 24)).cell? ⟨w6.heap.size, 1, none⟩ = some (.string pS) := by simp [go_sem]
  clear f0_0 f0_1 f1_0 f1_1 f2_0 f2_1 f3_0 f3_1
  have HX6 := Lib.hid hB6
  have HY6 := Lib.hid hb6.size
  clear hB6 hb6
  go_wp2_with fail
  obtain ⟨W6, hW6⟩ : ∃ W6, W6 = w6.alloc (.cells #[.bool pB, .string pS] 24) := ⟨_, rfl⟩
  have hZ6 : W6.heap.size = w6.heap.size + 1 := by rw [hW6]; simp
  rw [← hW6] at HX6 ⊢
  rw [← hW6] at n0_0 n0_1
  rw [← hW6] at n1_0 n1_1
  rw [← hW6] at n2_0 n2_1
  rw [← hW6] at n3_0 n3_1
  rw [← hW6] at n4_0 n4_1
  obtain ⟨g6, hg6⟩ : ∃ g6, w6.heap.size = g6 := ⟨_, rfl⟩
  rw [hg6] at n4_0 n4_1
  rw [hg6] at hZ6 HY6 ⊢
  clear hW6 hg6
  have HL0 := Lib.hid (Nat.lt_of_lt_of_le HL0.out HX6.out.size)
  have HL1 := Lib.hid (Nat.lt_of_lt_of_le HL1.out HX6.out.size)
  have HL2 := Lib.hid (Nat.lt_of_lt_of_le HL2.out HX6.out.size)
  have HL3 := Lib.hid (Nat.lt_of_lt_of_le HL3.out HX6.out.size)
  have HL4 := Lib.hid (show g6 < W6.heap.size by rw [hZ6]; omega)
  clear hZ6 HY6
  have HB := Lib.hid (HB.out.trans (HX6.out.mono HB.out.size))
  clear HX6
  have f0_0 := n0_0
  have f0_1 := n0_1
  have f1_0 := n1_0
  have f1_1 := n1_1
  have f2_0 := n2_0
  have f2_1 := n2_1
  have f3_0 := n3_0
  have f3_1 := n3_1
  have f4_0 := n4_0
  have f4_1 := n4_1
  clear n0_0 n0_1 n1_0 n1_1 n2_0 n2_1 n3_0 n3_1 n4_0 n4_1
  refine (H5.out _).mono ?_
  rintro e w7 ⟨rfl, hb7⟩
  have hB7 : Below W6.heap.size W6 ((w7.alloc (.cells #[.bool qB, .string qS] 24)).alloc (.cells #[.bool rB, .string rS] 24)) := ((((hb7).alloc (by have := hb7.size; simp; try omega) _)).alloc (by have := hb7.size; simp; try omega) _)
  have n0_0 := (hB7.cell (p := ⟨w.heap.size, 0, none⟩) HL0.out).trans f0_0
  have n0_1 := (hB7.cell (p := ⟨w.heap.size, 1, none⟩) HL0.out).trans f0_1
  have n1_0 := (hB7.cell (p := ⟨w.heap.size + 1, 0, none⟩) HL1.out).trans f1_0
  have n1_1 := (hB7.cell (p := ⟨w.heap.size + 1, 1, none⟩) HL1.out).trans f1_1
  have n2_0 := (hB7.cell (p := ⟨g4, 0, none⟩) HL2.out).trans f2_0
  have n2_1 := (hB7.cell (p := ⟨g4, 1, none⟩) HL2.out).trans f2_1
  have n3_0 := (hB7.cell (p := ⟨g5, 0, none⟩) HL3.out).trans f3_0
  have n3_1 := (hB7.cell (p := ⟨g5, 1, none⟩) HL3.out).trans f3_1
  have n4_0 := (hB7.cell (p := ⟨g6, 0, none⟩) HL4.out).trans f4_0
  have n4_1 := (hB7.cell (p := ⟨g6, 1, none⟩) HL4.out).trans f4_1
  have n5_0 : ((w7.alloc (.cells #[.bool qB, .string qS] 24)).alloc (.cells #[.bool rB, .string rS] 24)).cell? ⟨w7.heap.size, 0, none⟩ = some (.bool qB) := by simp [go_sem]
  have n5_1 : ((w7.alloc (.cells #[.bool qB, .string qS] 24)).alloc (.cells #[.bool rB, .string rS] 24)).cell? ⟨w7.heap.size, 1, none⟩ = some (.string qS) := by simp [go_sem]
  have n6_0 : ((w7.alloc (.cells #[.bool qB, .string qS] 24)).alloc (.cells #[.bool rB, .string rS] 24)).cell? ⟨w7.heap.size + 1, 0, none⟩ = some (.bool rB) := by simp [go_sem]
  have n6_1 : ((w7.alloc (.cells #[.bool qB, .string qS] 24)).alloc (.cells #[.bool rB, .string rS] 24)).cell? ⟨w7.heap.size + 1, 1, none⟩ = some (.string rS) := by simp [go_sem]
  clear f0_0 f0_1 f1_0 f1_1 f2_0 f2_1 f3_0 f3_1 f4_0 f4_1
  have HX7 := Lib.hid hB7
  have HY7 := Lib.hid hb7.size
  clear hB7 hb7
  go_wp2_with fail
  obtain ⟨W7, hW7⟩ : ∃ W7, W7 = (w7.alloc (.cells #[.bool qB, .string qS] 24)).alloc (.cells #[.bool rB, .string rS] 24) := ⟨_, rfl⟩
  have hZ7 : W7.heap.size = w7.heap.size + 2 := by rw [hW7]; simp
  rw [← hW7] at HX7 ⊢
  rw [← hW7] at n0_0 n0_1
  rw [← hW7] at n1_0 n1_1
  rw [← hW7] at n2_0 n2_1
  rw [← hW7] at n3_0 n3_1
  rw [← hW7] at n4_0 n4_1
  rw [← hW7] at n5_0 n5_1
  rw [← hW7] at n6_0 n6_1
  obtain ⟨g7, hg7⟩ : ∃ g7, w7.heap.size = g7 := ⟨_, rfl⟩
  rw [hg7] at n5_0 n5_1
  rw [hg7] at n6_0 n6_1
  rw [hg7] at hZ7 HY7 ⊢
  clear hW7 hg7
  have HL0 := Lib.hid (Nat.lt_of_lt_of_le HL0.out HX7.out.size)
  have HL1 := Lib.hid (Nat.lt_of_lt_of_le HL1.out HX7.out.size)
  have HL2 := Lib.hid (Nat.lt_of_lt_of_le HL2.out HX7.out.size)
  have HL3 := Lib.hid (Nat.lt_of_lt_of_le HL3.out HX7.out.size)
  have HL4 := Lib.hid (Nat.lt_of_lt_of_le HL4.out HX7.out.size)
  have HL5 := Lib.hid (show g7 < W7.heap.size by rw [hZ7]; omega)
  have HL6 := Lib.hid (show g7 + 1 < W7.heap.size by rw [hZ7]; omega)
  clear hZ7 HY7
  have HB := Lib.hid (HB.out.trans (HX7.out.mono HB.out.size))
  clear HX7
  have f0_0 := n0_0
  have f0_1 := n0_1
  have f1_0 := n1_0
  have f1_1 := n1_1
  have f2_0 := n2_0
  have f2_1 := n2_1
  have f3_0 := n3_0
  have f3_1 := n3_1
  have f4_0 := n4_0
  have f4_1 := n4_1
  have f5_0 := n5_0
  have f5_1 := n5_1
  have f6_0 := n6_0
  have f6_1 := n6_1
  clear n0_0 n0_1 n1_0 n1_1 n2_0 n2_1 n3_0 n3_1 n4_0 n4_1 n5_0 n5_1 n6_0 n6_1
  refine (H6.out _).mono ?_
  rintro e w8 ⟨rfl, hb8⟩
  have hB8 : Below W7.heap.size W7 (w8.alloc (.cells #[.bool gB, .string gS] 24)) := ((hb8).alloc (by have := hb8.size; simp; try omega) _)
  have n0_0 := (hB8.cell (p := ⟨w.heap.size, 0, none⟩) HL0.out).trans f0_0
  have n0_1 := (hB8.cell (p := ⟨w.heap.size, 1, none⟩) HL0.out).trans f0_1
  have n1_0 := (hB8.cell (p := ⟨w.heap.size + 1, 0, none⟩) HL1.out).trans f1_0
  have n1_1 := (hB8.cell (p := ⟨w.heap.size + 1, 1, none⟩) HL1.out).trans f1_1
  have n2_0 := (hB8.cell (p := ⟨g4, 0, none⟩) HL2.out).trans f2_0
  have n2_1 := (hB8.cell (p := ⟨g4, 1, none⟩) HL2.out).trans f2_1
  have n3_0 := (hB8.cell (p := ⟨g5, 0, none⟩) HL3.out).trans f3_0
  have n3_1 := (hB8.cell (p := ⟨g5, 1, none⟩) HL3.out).trans f3_1
  have n4_0 := (hB8.cell (p := ⟨g6, 0, none⟩) HL4.out).trans f4_0
  have n4_1 := (hB8.cell (p := ⟨g6, 1, none⟩) HL4.out).trans f4_1
  have n5_0 := (hB8.cell (p := ⟨g7, 0, none⟩) HL5.out).trans f5_0
  have n5_1 := (hB8.cell (p := ⟨g7, 1, none⟩) HL5.out).trans f5_1
  have n6_0 := (hB8.cell (p := ⟨g7 + 1, 0, none⟩) HL6.out).trans f6_0
  have n6_1 := (hB8.cell (p := ⟨g7 + 1, 1, none⟩) HL6.out).trans f6_1
  have n7_0 : (w8.alloc (.cells #[.bool gB, .string gS] 24)).cell? ⟨w8.heap.size, 0, none⟩ = some (.bool gB) := by simp [go_sem]
  have n7_1 : (w8.alloc (.cells #[.bool gB, .string gS] 24)).cell? ⟨w8.heap.size, 1, none⟩ = some (.string gS) := by simp [go_sem]
  clear f0_0 f0_1 f1_0 f1_1 f2_0 f2_1 f3_0 f3_1 f4_0 f4_1 f5_0 f5_1 f6_0 f6_1
  have HX8 := Lib.hid hB8
  have HY8 := Lib.hid hb8.size
  clear hB8 hb8
  go_wp2_with fail
  obtain ⟨W8, hW8⟩ : ∃ W8, W8 = w8.alloc (.cells #[.bool gB, .string gS] 24) := ⟨_, rfl⟩
  have hZ8 : W8.heap.size = w8.heap.size + 1 := by rw [hW8]; simp
  rw [← hW8] at HX8 ⊢
  rw [← hW8] at n0_0 n0_1
  rw [← hW8] at n1_0 n1_1
  rw [← hW8] at n2_0 n2_1
  rw [← hW8] at n3_0 n3_1
  rw [← hW8] at n4_0 n4_1
  rw [← hW8] at n5_0 n5_1
  rw [← hW8] at n6_0 n6_1
  rw [← hW8] at n7_0 n7_1
  obtain ⟨g8, hg8⟩ : ∃ g8, w8.heap.size = g8 := ⟨_, rfl⟩
  rw [hg8] at n7_0 n7_1
  rw [hg8] at hZ8 HY8 ⊢
  clear hW8 hg8
  have HL0 := Lib.hid (Nat.lt_of_lt_of_le HL0.out HX8.out.size)
  have HL1 := Lib.hid (Nat.lt_of_lt_of_le HL1.out HX8.out.size)
  have HL2 := Lib.hid (Nat.lt_of_lt_of_le HL2.out HX8.out.size)
  have HL3 := Lib.hid (Nat.lt_of_lt_of_le HL3.out HX8.out.size)
  have HL4 := Lib.hid (Nat.lt_of_lt_of_le HL4.out HX8.out.size)
  have HL5 := Lib.hid (Nat.lt_of_lt_of_le HL5.out HX8.out.size)
  have HL6 := Lib.hid (Nat.lt_of_lt_of_le HL6.out HX8.out.size)
  have HL7 := Lib.hid (show g8 < W8.heap.size by rw [hZ8]; omega)
  clear hZ8 HY8
  have HB := Lib.hid (HB.out.trans (HX8.out.mono HB.out.size))
  clear HX8
  have f0_0 := n0_0
  have f0_1 := n0_1
  have f1_0 := n1_0
  have f1_1 := n1_1
  have f2_0 := n2_0
  have f2_1 := n2_1
  have f3_0 := n3_0
  have f3_1 := n3_1
  have f4_0 := n4_0
  have f4_1 := n4_1
  have f5_0 := n5_0
  have f5_1 := n5_1
  have f6_0 := n6_0
  have f6_1 := n6_1
  have f7_0 := n7_0
  have f7_1 := n7_1
  clear n0_0 n0_1 n1_0 n1_1 n2_0 n2_1 n3_0 n3_1 n4_0 n4_1 n5_0 n5_1 n6_0 n6_1 n7_0 n7_1
  refine (H7.out _).mono ?_
  rintro e w9 ⟨rfl, hb9⟩
  have hB9 : Below W8.heap.size W8 (w9) := hb9
  have n0_0 := (hB9.cell (p := ⟨w.heap.size, 0, none⟩) HL0.out).trans f0_0
  have n0_1 := (hB9.cell (p := ⟨w.heap.size, 1, none⟩) HL0.out).trans f0_1
  have n1_0 := (hB9.cell (p := ⟨w.heap.size + 1, 0, none⟩) HL1.out).trans f1_0
  have n1_1 := (hB9.cell (p := ⟨w.heap.size + 1, 1, none⟩) HL1.out).trans f1_1
  have n2_0 := (hB9.cell (p := ⟨g4, 0, none⟩) HL2.out).trans f2_0
  have n2_1 := (hB9.cell (p := ⟨g4, 1, none⟩) HL2.out).trans f2_1
  have n3_0 := (hB9.cell (p := ⟨g5, 0, none⟩) HL3.out).trans f3_0
  have n3_1 := (hB9.cell (p := ⟨g5, 1, none⟩) HL3.out).trans f3_1
  have n4_0 := (hB9.cell (p := ⟨g6, 0, none⟩) HL4.out).trans f4_0
  have n4_1 := (hB9.cell (p := ⟨g6, 1, none⟩) HL4.out).trans f4_1
  have n5_0 := (hB9.cell (p := ⟨g7, 0, none⟩) HL5.out).trans f5_0
  have n5_1 := (hB9.cell (p := ⟨g7, 1, none⟩) HL5.out).trans f5_1
  have n6_0 := (hB9.cell (p := ⟨g7 + 1, 0, none⟩) HL6.out).trans f6_0
  have n6_1 := (hB9.cell (p := ⟨g7 + 1, 1, none⟩) HL6.out).trans f6_1
  have n7_0 := (hB9.cell (p := ⟨g8, 0, none⟩) HL7.out).trans f7_0
  have n7_1 := (hB9.cell (p := ⟨g8, 1, none⟩) HL7.out).trans f7_1
  clear f0_0 f0_1 f1_0 f1_1 f2_0 f2_1 f3_0 f3_1 f4_0 f4_1 f5_0 f5_1 f6_0 f6_1 f7_0 f7_1
  have HX9 := Lib.hid hB9
  have HY9 := Lib.hid hb9.size
  clear hB9 hb9
  go_upto_region 11 with fail
  have HL0 := Lib.hid (Nat.lt_of_lt_of_le HL0.out HX9.out.size)
  have HL1 := Lib.hid (Nat.lt_of_lt_of_le HL1.out HX9.out.size)
  have HL2 := Lib.hid (Nat.lt_of_lt_of_le HL2.out HX9.out.size)
  have HL3 := Lib.hid (Nat.lt_of_lt_of_le HL3.out HX9.out.size)
  have HL4 := Lib.hid (Nat.lt_of_lt_of_le HL4.out HX9.out.size)
  have HL5 := Lib.hid (Nat.lt_of_lt_of_le HL5.out HX9.out.size)
  have HL6 := Lib.hid (Nat.lt_of_lt_of_le HL6.out HX9.out.size)
  have HL7 := Lib.hid (Nat.lt_of_lt_of_le HL7.out HX9.out.size)
  have HB := Lib.hid (HB.out.trans (HX9.out.mono HB.out.size))
  clear HX9
  have f0_0 := n0_0
  have f0_1 := n0_1
  have f1_0 := n1_0
  have f1_1 := n1_1
  have f2_0 := n2_0
  have f2_1 := n2_1
  have f3_0 := n3_0
  have f3_1 := n3_1
  have f4_0 := n4_0
  have f4_1 := n4_1
  have f5_0 := n5_0
  have f5_1 := n5_1
  have f6_0 := n6_0
  have f6_1 := n6_1
  have f7_0 := n7_0
  have f7_1 := n7_1
  clear n0_0 n0_1 n1_0 n1_1 n2_0 n2_1 n3_0 n3_1 n4_0 n4_1 n5_0 n5_1 n6_0 n6_1 n7_0 n7_1
  clear f1_0 f1_1 HL1 f2_0 f2_1 HL2 f3_0 f3_1 HL3 f4_0 f4_1 HL4 f5_0 f5_1 HL5 f6_0 f6_1 HL6 f7_0 f7_1 HL7
  have HSC10 := Lib.hid (show w9.cell? ⟨w.heap.size, 0, none⟩ = some (.bool aB) ∧ w9.cell? ⟨w.heap.size, 1, none⟩ = some (.string aS) ∧ Below w.heap.size w w9 from ⟨f0_0, f0_1, HB.out⟩)
  clear HL0
  go_cut [4] (fun a9 wx => a9 = .bool true ∧ (wx.cell? ⟨w.heap.size, 0, none⟩ = some (.bool aB) ∧ wx.cell? ⟨w.heap.size, 1, none⟩ = some (.string aS) ∧ Below w.heap.size w wx))
  case first =>
    refine wp_region_held_drew (S := fun w' => w'.cell? ⟨w.heap.size, 0, none⟩ = some (.bool aB) ∧ w'.cell? ⟨w.heap.size, 1, none⟩ = some (.string aS) ∧ Below w.heap.size w w') (by kernel_rfl) (ch_drew HSC10.out) (fun hHeld => ?_)
    clear f0_0 f0_1
    refine wpAnyH_take (i := 0) (oi := { dst := some 71, op := Go.Op.load 24 (Go.Operand.tmp 2), type := 24, pos := "law.go:35", after := #[], guard := none }) (v := ?_) rfl (by kernel_rfl) (by kernel_rfl) (by kernel_rfl) (fun _ _ _ h => h) (Or.inl ⟨by rfl, ?_⟩) hHeld ?_; rotate_left 1
    · (intro w9 hSw; (try dsimp only at hSw); go_simp) <;> with_reducible rfl
    try simp only [Act.put, List.setIfInBounds_toArray, List.set_cons_zero, List.set_cons_succ]
    refine wpAnyH_take (i := 2) (oi := { dst := some 73, op := Go.Op.load 24 (Go.Operand.tmp 2), type := 24, pos := "law.go:35", after := #[], guard := none }) (v := ?_) rfl (by kernel_rfl) (by kernel_rfl) (by kernel_rfl) (fun _ _ _ h => h) (Or.inl ⟨by rfl, ?_⟩) hHeld ?_; rotate_left 1
    · (intro w9 hSw; (try dsimp only at hSw); go_simp) <;> with_reducible rfl
    try simp only [Act.put, List.setIfInBounds_toArray, List.set_cons_zero, List.set_cons_succ]
    refine wpAnyH_ready (rs := [1]) (by kernel_rfl) (by simp) ?_
    refine AllReadyH.cons (o := { dst := some 72, op := Go.Op.call { callee := Go.Callee.value (Go.Operand.func 31), args := #[Go.Operand.tmp 71], argTypes := #[24] }, type := 26, pos := "law.go:35", after := #[{ on := 0, ground := Go.Ground.data }], guard := none }) rfl (fun K hK => ?_) AllReadyH.nil
    go_simp
    refine (H8.out _).mono ?_
    rintro e wn ⟨rfl, hbr⟩
    have hHeld := ch_step hbr hHeld
    clear hbr
    try go_wp2_with fail
    refine hK.out _ _ hHeld (fun _ => ?_)
    clear hK K
    try simp only [Act.put, List.setIfInBounds_toArray, List.set_cons_zero, List.set_cons_succ]
    refine wpAnyH_ready (rs := [3]) (by kernel_rfl) (by simp) ?_
    refine AllReadyH.cons (o := { dst := some 74, op := Go.Op.call { callee := Go.Callee.value (Go.Operand.func 24), args := #[Go.Operand.tmp 73], argTypes := #[24] }, type := 26, pos := "law.go:35", after := #[{ on := 2, ground := Go.Ground.data }, { on := 1, ground := Go.Ground.chain }], guard := none }) rfl (fun K hK => ?_) AllReadyH.nil
    go_simp
    refine (H9.out _).mono ?_
    rintro e wn ⟨rfl, hbr⟩
    have hHeld := ch_step hbr hHeld
    clear hbr
    try go_wp2_with fail
    refine hK.out _ _ hHeld (fun _ => ?_)
    clear hK K
    try simp only [Act.put, List.setIfInBounds_toArray, List.set_cons_zero, List.set_cons_succ]
    refine wpAnyH_take (i := 4) (oi := { dst := some 75, op := Go.Op.binOp Go.BinOp.eql 26 (Go.Operand.tmp 72) (Go.Operand.tmp 74) 26, type := 4, pos := "law.go:35", after := #[{ on := 1, ground := Go.Ground.data }, { on := 3, ground := Go.Ground.data }], guard := none }) (v := ?_) rfl (by kernel_rfl) (by kernel_rfl) (by kernel_rfl) (fun _ _ _ h => h) (Or.inl ⟨by rfl, ?_⟩) hHeld ?_; rotate_left 1
    · (intro w9 hSw; (try dsimp only at hSw); go_simp) <;> with_reducible rfl
    try simp only [Act.put, List.setIfInBounds_toArray, List.set_cons_zero, List.set_cons_succ]
    refine wpAnyH_take (i := 5) (oi := { dst := some 76, op := Go.Op.move (Go.Operand.tmp 75), type := 4, pos := "law.go:35", after := #[{ on := 4, ground := Go.Ground.data }, { on := 3, ground := Go.Ground.chain }], guard := none }) (v := ?_) rfl (by kernel_rfl) (by kernel_rfl) (by kernel_rfl) (fun _ _ _ h => h) (Or.inl ⟨by rfl, ?_⟩) hHeld ?_; rotate_left 1
    · (intro w9 hSw; (try dsimp only at hSw); go_simp) <;> with_reducible rfl
    try simp only [Act.put, List.setIfInBounds_toArray, List.set_cons_zero, List.set_cons_succ]
    refine wpAnyH_take (i := 6) (oi := { dst := some 77, op := Go.Op.move (Go.Operand.tmp 7), type := 26, pos := "law.go:35", after := #[{ on := 5, ground := Go.Ground.guard }], guard := some (5, true) }) (v := ?_) rfl (by kernel_rfl) (by kernel_rfl) (by kernel_rfl) (fun _ _ _ h => h) (Or.inl ⟨by rfl, ?_⟩) hHeld ?_; rotate_left 1
    · (intro w9 hSw; (try dsimp only at hSw); go_simp) <;> with_reducible rfl
    try simp only [Act.put, List.setIfInBounds_toArray, List.set_cons_zero, List.set_cons_succ]
    refine wpAnyH_take (i := 7) (oi := { dst := some 78, op := Go.Op.move (Go.Operand.tmp 5), type := 26, pos := "law.go:35", after := #[{ on := 5, ground := Go.Ground.guard }], guard := some (5, true) }) (v := ?_) rfl (by kernel_rfl) (by kernel_rfl) (by kernel_rfl) (fun _ _ _ h => h) (Or.inl ⟨by rfl, ?_⟩) hHeld ?_; rotate_left 1
    · (intro w9 hSw; (try dsimp only at hSw); go_simp) <;> with_reducible rfl
    try simp only [Act.put, List.setIfInBounds_toArray, List.set_cons_zero, List.set_cons_succ]
    refine wpAnyH_take (i := 8) (oi := { dst := some 79, op := Go.Op.binOp Go.BinOp.eql 26 (Go.Operand.tmp 77) (Go.Operand.tmp 78) 26, type := 4, pos := "law.go:35", after := #[{ on := 6, ground := Go.Ground.data }, { on := 7, ground := Go.Ground.data }, { on := 5, ground := Go.Ground.guard }], guard := some (5, true) }) (v := ?_) rfl (by kernel_rfl) (by kernel_rfl) (by kernel_rfl) (fun _ _ _ h => h) (Or.inl ⟨by rfl, ?_⟩) hHeld ?_; rotate_left 1
    · (intro w9 hSw; (try dsimp only at hSw); go_simp) <;> with_reducible rfl
    try simp only [Act.put, List.setIfInBounds_toArray, List.set_cons_zero, List.set_cons_succ]
    refine wpAnyH_take (i := 9) (oi := { dst := some 80, op := Go.Op.pick (Go.Operand.tmp 76) (Go.Operand.tmp 79) (Go.Operand.const (Go.Value.bool false)), type := 4, pos := "law.go:35", after := #[{ on := 5, ground := Go.Ground.data }, { on := 8, ground := Go.Ground.data }], guard := none }) (v := ?_) rfl (by kernel_rfl) (by kernel_rfl) (by kernel_rfl) (fun _ _ _ h => h) (Or.inl ⟨by rfl, ?_⟩) hHeld ?_; rotate_left 1
    · (intro w9 hSw; (try dsimp only at hSw); go_simp) <;> with_reducible rfl
    try simp only [Act.put, List.setIfInBounds_toArray, List.set_cons_zero, List.set_cons_succ]
    refine wpAnyH_take (i := 10) (oi := { dst := some 81, op := Go.Op.move (Go.Operand.tmp 80), type := 4, pos := "law.go:35", after := #[{ on := 9, ground := Go.Ground.data }, { on := 5, ground := Go.Ground.chain }], guard := none }) (v := ?_) rfl (by kernel_rfl) (by kernel_rfl) (by kernel_rfl) (fun _ _ _ h => h) (Or.inl ⟨by rfl, ?_⟩) hHeld ?_; rotate_left 1
    · (intro w9 hSw; (try dsimp only at hSw); go_simp) <;> with_reducible rfl
    try simp only [Act.put, List.setIfInBounds_toArray, List.set_cons_zero, List.set_cons_succ]
    refine wpAnyH_take (i := 11) (oi := { dst := some 82, op := Go.Op.move (Go.Operand.tmp 9), type := 26, pos := "law.go:35", after := #[{ on := 10, ground := Go.Ground.guard }], guard := some (10, true) }) (v := ?_) rfl (by kernel_rfl) (by kernel_rfl) (by kernel_rfl) (fun _ _ _ h => h) (Or.inl ⟨by rfl, ?_⟩) hHeld ?_; rotate_left 1
    · (intro w9 hSw; (try dsimp only at hSw); go_simp) <;> with_reducible rfl
    try simp only [Act.put, List.setIfInBounds_toArray, List.set_cons_zero, List.set_cons_succ]
    refine wpAnyH_take (i := 12) (oi := { dst := some 83, op := Go.Op.move (Go.Operand.tmp 5), type := 26, pos := "law.go:35", after := #[{ on := 10, ground := Go.Ground.guard }], guard := some (10, true) }) (v := ?_) rfl (by kernel_rfl) (by kernel_rfl) (by kernel_rfl) (fun _ _ _ h => h) (Or.inl ⟨by rfl, ?_⟩) hHeld ?_; rotate_left 1
    · (intro w9 hSw; (try dsimp only at hSw); go_simp) <;> with_reducible rfl
    try simp only [Act.put, List.setIfInBounds_toArray, List.set_cons_zero, List.set_cons_succ]
    refine wpAnyH_take (i := 13) (oi := { dst := some 84, op := Go.Op.binOp Go.BinOp.eql 26 (Go.Operand.tmp 82) (Go.Operand.tmp 83) 26, type := 4, pos := "law.go:35", after := #[{ on := 11, ground := Go.Ground.data }, { on := 12, ground := Go.Ground.data }, { on := 10, ground := Go.Ground.guard }], guard := some (10, true) }) (v := ?_) rfl (by kernel_rfl) (by kernel_rfl) (by kernel_rfl) (fun _ _ _ h => h) (Or.inl ⟨by rfl, ?_⟩) hHeld ?_; rotate_left 1
    · (intro w9 hSw; (try dsimp only at hSw); go_simp) <;> with_reducible rfl
    try simp only [Act.put, List.setIfInBounds_toArray, List.set_cons_zero, List.set_cons_succ]
    refine wpAnyH_take (i := 14) (oi := { dst := some 85, op := Go.Op.pick (Go.Operand.tmp 81) (Go.Operand.tmp 84) (Go.Operand.const (Go.Value.bool false)), type := 4, pos := "law.go:35", after := #[{ on := 10, ground := Go.Ground.data }, { on := 13, ground := Go.Ground.data }], guard := none }) (v := ?_) rfl (by kernel_rfl) (by kernel_rfl) (by kernel_rfl) (fun _ _ _ h => h) (Or.inl ⟨by rfl, ?_⟩) hHeld ?_; rotate_left 1
    · (intro w9 hSw; (try dsimp only at hSw); go_simp) <;> with_reducible rfl
    try simp only [Act.put, List.setIfInBounds_toArray, List.set_cons_zero, List.set_cons_succ]
    refine wpAnyH_take (i := 15) (oi := { dst := some 86, op := Go.Op.move (Go.Operand.tmp 85), type := 4, pos := "law.go:35", after := #[{ on := 14, ground := Go.Ground.data }, { on := 10, ground := Go.Ground.chain }], guard := none }) (v := ?_) rfl (by kernel_rfl) (by kernel_rfl) (by kernel_rfl) (fun _ _ _ h => h) (Or.inl ⟨by rfl, ?_⟩) hHeld ?_; rotate_left 1
    · (intro w9 hSw; (try dsimp only at hSw); go_simp) <;> with_reducible rfl
    try simp only [Act.put, List.setIfInBounds_toArray, List.set_cons_zero, List.set_cons_succ]
    refine wpAnyH_take (i := 16) (oi := { dst := some 87, op := Go.Op.move (Go.Operand.tmp 11), type := 26, pos := "law.go:35", after := #[{ on := 15, ground := Go.Ground.guard }], guard := some (15, true) }) (v := ?_) rfl (by kernel_rfl) (by kernel_rfl) (by kernel_rfl) (fun _ _ _ h => h) (Or.inl ⟨by rfl, ?_⟩) hHeld ?_; rotate_left 1
    · (intro w9 hSw; (try dsimp only at hSw); go_simp) <;> with_reducible rfl
    try simp only [Act.put, List.setIfInBounds_toArray, List.set_cons_zero, List.set_cons_succ]
    refine wpAnyH_take (i := 17) (oi := { dst := some 88, op := Go.Op.move (Go.Operand.tmp 5), type := 26, pos := "law.go:35", after := #[{ on := 15, ground := Go.Ground.guard }], guard := some (15, true) }) (v := ?_) rfl (by kernel_rfl) (by kernel_rfl) (by kernel_rfl) (fun _ _ _ h => h) (Or.inl ⟨by rfl, ?_⟩) hHeld ?_; rotate_left 1
    · (intro w9 hSw; (try dsimp only at hSw); go_simp) <;> with_reducible rfl
    try simp only [Act.put, List.setIfInBounds_toArray, List.set_cons_zero, List.set_cons_succ]
    refine wpAnyH_take (i := 18) (oi := { dst := some 89, op := Go.Op.binOp Go.BinOp.eql 26 (Go.Operand.tmp 87) (Go.Operand.tmp 88) 26, type := 4, pos := "law.go:35", after := #[{ on := 16, ground := Go.Ground.data }, { on := 17, ground := Go.Ground.data }, { on := 15, ground := Go.Ground.guard }], guard := some (15, true) }) (v := ?_) rfl (by kernel_rfl) (by kernel_rfl) (by kernel_rfl) (fun _ _ _ h => h) (Or.inl ⟨by rfl, ?_⟩) hHeld ?_; rotate_left 1
    · (intro w9 hSw; (try dsimp only at hSw); go_simp) <;> with_reducible rfl
    try simp only [Act.put, List.setIfInBounds_toArray, List.set_cons_zero, List.set_cons_succ]
    refine wpAnyH_take (i := 19) (oi := { dst := some 90, op := Go.Op.pick (Go.Operand.tmp 86) (Go.Operand.tmp 89) (Go.Operand.const (Go.Value.bool false)), type := 4, pos := "law.go:35", after := #[{ on := 15, ground := Go.Ground.data }, { on := 18, ground := Go.Ground.data }], guard := none }) (v := ?_) rfl (by kernel_rfl) (by kernel_rfl) (by kernel_rfl) (fun _ _ _ h => h) (Or.inl ⟨by rfl, ?_⟩) hHeld ?_; rotate_left 1
    · (intro w9 hSw; (try dsimp only at hSw); go_simp) <;> with_reducible rfl
    try simp only [Act.put, List.setIfInBounds_toArray, List.set_cons_zero, List.set_cons_succ]
    refine wpAnyH_take (i := 20) (oi := { dst := some 91, op := Go.Op.move (Go.Operand.tmp 90), type := 4, pos := "law.go:35", after := #[{ on := 19, ground := Go.Ground.data }, { on := 15, ground := Go.Ground.chain }], guard := none }) (v := ?_) rfl (by kernel_rfl) (by kernel_rfl) (by kernel_rfl) (fun _ _ _ h => h) (Or.inl ⟨by rfl, ?_⟩) hHeld ?_; rotate_left 1
    · (intro w9 hSw; (try dsimp only at hSw); go_simp) <;> with_reducible rfl
    try simp only [Act.put, List.setIfInBounds_toArray, List.set_cons_zero, List.set_cons_succ]
    refine wpAnyH_take (i := 21) (oi := { dst := some 92, op := Go.Op.move (Go.Operand.tmp 13), type := 26, pos := "law.go:35", after := #[{ on := 20, ground := Go.Ground.guard }], guard := some (20, true) }) (v := ?_) rfl (by kernel_rfl) (by kernel_rfl) (by kernel_rfl) (fun _ _ _ h => h) (Or.inl ⟨by rfl, ?_⟩) hHeld ?_; rotate_left 1
    · (intro w9 hSw; (try dsimp only at hSw); go_simp) <;> with_reducible rfl
    try simp only [Act.put, List.setIfInBounds_toArray, List.set_cons_zero, List.set_cons_succ]
    refine wpAnyH_take (i := 22) (oi := { dst := some 93, op := Go.Op.move (Go.Operand.tmp 5), type := 26, pos := "law.go:35", after := #[{ on := 20, ground := Go.Ground.guard }], guard := some (20, true) }) (v := ?_) rfl (by kernel_rfl) (by kernel_rfl) (by kernel_rfl) (fun _ _ _ h => h) (Or.inl ⟨by rfl, ?_⟩) hHeld ?_; rotate_left 1
    · (intro w9 hSw; (try dsimp only at hSw); go_simp) <;> with_reducible rfl
    try simp only [Act.put, List.setIfInBounds_toArray, List.set_cons_zero, List.set_cons_succ]
    refine wpAnyH_take (i := 23) (oi := { dst := some 94, op := Go.Op.binOp Go.BinOp.eql 26 (Go.Operand.tmp 92) (Go.Operand.tmp 93) 26, type := 4, pos := "law.go:35", after := #[{ on := 21, ground := Go.Ground.data }, { on := 22, ground := Go.Ground.data }, { on := 20, ground := Go.Ground.guard }], guard := some (20, true) }) (v := ?_) rfl (by kernel_rfl) (by kernel_rfl) (by kernel_rfl) (fun _ _ _ h => h) (Or.inl ⟨by rfl, ?_⟩) hHeld ?_; rotate_left 1
    · (intro w9 hSw; (try dsimp only at hSw); go_simp) <;> with_reducible rfl
    try simp only [Act.put, List.setIfInBounds_toArray, List.set_cons_zero, List.set_cons_succ]
    refine wpAnyH_take (i := 24) (oi := { dst := some 95, op := Go.Op.pick (Go.Operand.tmp 91) (Go.Operand.tmp 94) (Go.Operand.const (Go.Value.bool false)), type := 4, pos := "law.go:35", after := #[{ on := 20, ground := Go.Ground.data }, { on := 23, ground := Go.Ground.data }], guard := none }) (v := ?_) rfl (by kernel_rfl) (by kernel_rfl) (by kernel_rfl) (fun _ _ _ h => h) (Or.inl ⟨by rfl, ?_⟩) hHeld ?_; rotate_left 1
    · (intro w9 hSw; (try dsimp only at hSw); go_simp) <;> with_reducible rfl
    try simp only [Act.put, List.setIfInBounds_toArray, List.set_cons_zero, List.set_cons_succ]
    refine wpAnyH_take (i := 25) (oi := { dst := some 96, op := Go.Op.move (Go.Operand.tmp 95), type := 4, pos := "law.go:35", after := #[{ on := 24, ground := Go.Ground.data }, { on := 20, ground := Go.Ground.chain }], guard := none }) (v := ?_) rfl (by kernel_rfl) (by kernel_rfl) (by kernel_rfl) (fun _ _ _ h => h) (Or.inl ⟨by rfl, ?_⟩) hHeld ?_; rotate_left 1
    · (intro w9 hSw; (try dsimp only at hSw); go_simp) <;> with_reducible rfl
    try simp only [Act.put, List.setIfInBounds_toArray, List.set_cons_zero, List.set_cons_succ]
    refine wpAnyH_take (i := 26) (oi := { dst := some 97, op := Go.Op.move (Go.Operand.tmp 16), type := 26, pos := "law.go:35", after := #[{ on := 25, ground := Go.Ground.guard }], guard := some (25, true) }) (v := ?_) rfl (by kernel_rfl) (by kernel_rfl) (by kernel_rfl) (fun _ _ _ h => h) (Or.inl ⟨by rfl, ?_⟩) hHeld ?_; rotate_left 1
    · (intro w9 hSw; (try dsimp only at hSw); go_simp) <;> with_reducible rfl
    try simp only [Act.put, List.setIfInBounds_toArray, List.set_cons_zero, List.set_cons_succ]
    refine wpAnyH_take (i := 27) (oi := { dst := some 98, op := Go.Op.move (Go.Operand.tmp 5), type := 26, pos := "law.go:35", after := #[{ on := 25, ground := Go.Ground.guard }], guard := some (25, true) }) (v := ?_) rfl (by kernel_rfl) (by kernel_rfl) (by kernel_rfl) (fun _ _ _ h => h) (Or.inl ⟨by rfl, ?_⟩) hHeld ?_; rotate_left 1
    · (intro w9 hSw; (try dsimp only at hSw); go_simp) <;> with_reducible rfl
    try simp only [Act.put, List.setIfInBounds_toArray, List.set_cons_zero, List.set_cons_succ]
    refine wpAnyH_take (i := 28) (oi := { dst := some 99, op := Go.Op.binOp Go.BinOp.eql 26 (Go.Operand.tmp 97) (Go.Operand.tmp 98) 26, type := 4, pos := "law.go:35", after := #[{ on := 26, ground := Go.Ground.data }, { on := 27, ground := Go.Ground.data }, { on := 25, ground := Go.Ground.guard }], guard := some (25, true) }) (v := ?_) rfl (by kernel_rfl) (by kernel_rfl) (by kernel_rfl) (fun _ _ _ h => h) (Or.inl ⟨by rfl, ?_⟩) hHeld ?_; rotate_left 1
    · (intro w9 hSw; (try dsimp only at hSw); go_simp) <;> with_reducible rfl
    try simp only [Act.put, List.setIfInBounds_toArray, List.set_cons_zero, List.set_cons_succ]
    refine wpAnyH_take (i := 29) (oi := { dst := some 100, op := Go.Op.move (Go.Operand.tmp 99), type := 4, pos := "law.go:35", after := #[{ on := 28, ground := Go.Ground.data }, { on := 25, ground := Go.Ground.chain }, { on := 25, ground := Go.Ground.guard }], guard := some (25, true) }) (v := ?_) rfl (by kernel_rfl) (by kernel_rfl) (by kernel_rfl) (fun _ _ _ h => h) (Or.inl ⟨by rfl, ?_⟩) hHeld ?_; rotate_left 1
    · (intro w9 hSw; (try dsimp only at hSw); go_simp) <;> with_reducible rfl
    try simp only [Act.put, List.setIfInBounds_toArray, List.set_cons_zero, List.set_cons_succ]
    refine wpAnyH_take (i := 30) (oi := { dst := some 101, op := Go.Op.move (Go.Operand.tmp 5), type := 26, pos := "law.go:35", after := #[{ on := 29, ground := Go.Ground.guard }], guard := some (29, false) }) (v := undef) rfl (by kernel_rfl) (by kernel_rfl) (by kernel_rfl) (fun _ _ _ h => h) (Or.inr ⟨by rfl, rfl⟩) hHeld ?_
    try simp only [Act.put, List.setIfInBounds_toArray, List.set_cons_zero, List.set_cons_succ]
    refine wpAnyH_take (i := 31) (oi := { dst := some 102, op := Go.Op.binOp Go.BinOp.eql 26 (Go.Operand.tmp 101) (Go.Operand.const (Go.Value.int Go.IntKind.i64 0)) 26, type := 4, pos := "law.go:35", after := #[{ on := 30, ground := Go.Ground.data }, { on := 29, ground := Go.Ground.guard }], guard := some (29, false) }) (v := undef) rfl (by kernel_rfl) (by kernel_rfl) (by kernel_rfl) (fun _ _ _ h => h) (Or.inr ⟨by rfl, rfl⟩) hHeld ?_
    try simp only [Act.put, List.setIfInBounds_toArray, List.set_cons_zero, List.set_cons_succ]
    refine wpAnyH_take (i := 32) (oi := { dst := some 103, op := Go.Op.move (Go.Operand.tmp 102), type := 4, pos := "law.go:35", after := #[{ on := 31, ground := Go.Ground.data }, { on := 29, ground := Go.Ground.chain }, { on := 29, ground := Go.Ground.guard }], guard := some (29, false) }) (v := undef) rfl (by kernel_rfl) (by kernel_rfl) (by kernel_rfl) (fun _ _ _ h => h) (Or.inr ⟨by rfl, rfl⟩) hHeld ?_
    try simp only [Act.put, List.setIfInBounds_toArray, List.set_cons_zero, List.set_cons_succ]
    refine wpAnyH_take (i := 33) (oi := { dst := some 104, op := Go.Op.move (Go.Operand.tmp 16), type := 26, pos := "law.go:35", after := #[{ on := 32, ground := Go.Ground.guard }], guard := some (32, true) }) (v := undef) rfl (by kernel_rfl) (by kernel_rfl) (by kernel_rfl) (fun _ _ _ h => h) (Or.inr ⟨by rfl, rfl⟩) hHeld ?_
    try simp only [Act.put, List.setIfInBounds_toArray, List.set_cons_zero, List.set_cons_succ]
    refine wpAnyH_take (i := 34) (oi := { dst := some 105, op := Go.Op.binOp Go.BinOp.eql 26 (Go.Operand.tmp 104) (Go.Operand.const (Go.Value.int Go.IntKind.i64 3)) 26, type := 4, pos := "law.go:35", after := #[{ on := 33, ground := Go.Ground.data }, { on := 32, ground := Go.Ground.guard }], guard := some (32, true) }) (v := undef) rfl (by kernel_rfl) (by kernel_rfl) (by kernel_rfl) (fun _ _ _ h => h) (Or.inr ⟨by rfl, rfl⟩) hHeld ?_
    try simp only [Act.put, List.setIfInBounds_toArray, List.set_cons_zero, List.set_cons_succ]
    refine wpAnyH_take (i := 35) (oi := { dst := some 106, op := Go.Op.pick (Go.Operand.tmp 103) (Go.Operand.tmp 105) (Go.Operand.const (Go.Value.bool false)), type := 4, pos := "law.go:35", after := #[{ on := 32, ground := Go.Ground.data }, { on := 34, ground := Go.Ground.data }, { on := 29, ground := Go.Ground.guard }], guard := some (29, false) }) (v := undef) rfl (by kernel_rfl) (by kernel_rfl) (by kernel_rfl) (fun _ _ _ h => h) (Or.inr ⟨by rfl, rfl⟩) hHeld ?_
    try simp only [Act.put, List.setIfInBounds_toArray, List.set_cons_zero, List.set_cons_succ]
    refine wpAnyH_take (i := 36) (oi := { dst := some 107, op := Go.Op.pick (Go.Operand.tmp 100) (Go.Operand.const (Go.Value.bool true)) (Go.Operand.tmp 106), type := 4, pos := "law.go:35", after := #[{ on := 29, ground := Go.Ground.data }, { on := 35, ground := Go.Ground.data }, { on := 25, ground := Go.Ground.guard }], guard := some (25, true) }) (v := ?_) rfl (by kernel_rfl) (by kernel_rfl) (by kernel_rfl) (fun _ _ _ h => h) (Or.inl ⟨by rfl, ?_⟩) hHeld ?_; rotate_left 1
    · (intro w9 hSw; (try dsimp only at hSw); go_simp) <;> with_reducible rfl
    try simp only [Act.put, List.setIfInBounds_toArray, List.set_cons_zero, List.set_cons_succ]
    refine wpAnyH_take (i := 37) (oi := { dst := some 108, op := Go.Op.pick (Go.Operand.tmp 96) (Go.Operand.tmp 107) (Go.Operand.const (Go.Value.bool false)), type := 4, pos := "law.go:35", after := #[{ on := 25, ground := Go.Ground.data }, { on := 36, ground := Go.Ground.data }], guard := none }) (v := ?_) rfl (by kernel_rfl) (by kernel_rfl) (by kernel_rfl) (fun _ _ _ h => h) (Or.inl ⟨by rfl, ?_⟩) hHeld ?_; rotate_left 1
    · (intro w9 hSw; (try dsimp only at hSw); go_simp) <;> with_reducible rfl
    try simp only [Act.put, List.setIfInBounds_toArray, List.set_cons_zero, List.set_cons_succ]
    refine wpAnyH_take (i := 38) (oi := { dst := some 109, op := Go.Op.move (Go.Operand.tmp 108), type := 4, pos := "law.go:35", after := #[{ on := 37, ground := Go.Ground.data }, { on := 32, ground := Go.Ground.chain }], guard := none }) (v := ?_) rfl (by kernel_rfl) (by kernel_rfl) (by kernel_rfl) (fun _ _ _ h => h) (Or.inl ⟨by rfl, ?_⟩) hHeld ?_; rotate_left 1
    · (intro w9 hSw; (try dsimp only at hSw); go_simp) <;> with_reducible rfl
    try simp only [Act.put, List.setIfInBounds_toArray, List.set_cons_zero, List.set_cons_succ]
    refine wpAnyH_take (i := 39) (oi := { dst := some 110, op := Go.Op.move (Go.Operand.tmp 18), type := 26, pos := "law.go:35", after := #[{ on := 38, ground := Go.Ground.guard }], guard := some (38, true) }) (v := ?_) rfl (by kernel_rfl) (by kernel_rfl) (by kernel_rfl) (fun _ _ _ h => h) (Or.inl ⟨by rfl, ?_⟩) hHeld ?_; rotate_left 1
    · (intro w9 hSw; (try dsimp only at hSw); go_simp) <;> with_reducible rfl
    try simp only [Act.put, List.setIfInBounds_toArray, List.set_cons_zero, List.set_cons_succ]
    refine wpAnyH_take (i := 40) (oi := { dst := some 111, op := Go.Op.move (Go.Operand.tmp 5), type := 26, pos := "law.go:35", after := #[{ on := 38, ground := Go.Ground.guard }], guard := some (38, true) }) (v := ?_) rfl (by kernel_rfl) (by kernel_rfl) (by kernel_rfl) (fun _ _ _ h => h) (Or.inl ⟨by rfl, ?_⟩) hHeld ?_; rotate_left 1
    · (intro w9 hSw; (try dsimp only at hSw); go_simp) <;> with_reducible rfl
    try simp only [Act.put, List.setIfInBounds_toArray, List.set_cons_zero, List.set_cons_succ]
    refine wpAnyH_take (i := 41) (oi := { dst := some 112, op := Go.Op.binOp Go.BinOp.eql 26 (Go.Operand.tmp 110) (Go.Operand.tmp 111) 26, type := 4, pos := "law.go:35", after := #[{ on := 39, ground := Go.Ground.data }, { on := 40, ground := Go.Ground.data }, { on := 38, ground := Go.Ground.guard }], guard := some (38, true) }) (v := ?_) rfl (by kernel_rfl) (by kernel_rfl) (by kernel_rfl) (fun _ _ _ h => h) (Or.inl ⟨by rfl, ?_⟩) hHeld ?_; rotate_left 1
    · (intro w9 hSw; (try dsimp only at hSw); go_simp) <;> with_reducible rfl
    try simp only [Act.put, List.setIfInBounds_toArray, List.set_cons_zero, List.set_cons_succ]
    refine wpAnyH_take (i := 42) (oi := { dst := some 113, op := Go.Op.pick (Go.Operand.tmp 109) (Go.Operand.tmp 112) (Go.Operand.const (Go.Value.bool false)), type := 4, pos := "law.go:35", after := #[{ on := 38, ground := Go.Ground.data }, { on := 41, ground := Go.Ground.data }], guard := none }) (v := ?_) rfl (by kernel_rfl) (by kernel_rfl) (by kernel_rfl) (fun _ _ _ h => h) (Or.inl ⟨by rfl, ?_⟩) hHeld ?_; rotate_left 1
    · (intro w9 hSw; (try dsimp only at hSw); go_simp) <;> with_reducible rfl
    try simp only [Act.put, List.setIfInBounds_toArray, List.set_cons_zero, List.set_cons_succ]
    refine wpAnyH_take (i := 43) (oi := { dst := some 114, op := Go.Op.move (Go.Operand.tmp 113), type := 4, pos := "law.go:35", after := #[{ on := 42, ground := Go.Ground.data }, { on := 38, ground := Go.Ground.chain }], guard := none }) (v := ?_) rfl (by kernel_rfl) (by kernel_rfl) (by kernel_rfl) (fun _ _ _ h => h) (Or.inl ⟨by rfl, ?_⟩) hHeld ?_; rotate_left 1
    · (intro w9 hSw; (try dsimp only at hSw); go_simp) <;> with_reducible rfl
    try simp only [Act.put, List.setIfInBounds_toArray, List.set_cons_zero, List.set_cons_succ]
    refine wpAnyH_take (i := 44) (oi := { dst := some 115, op := Go.Op.move (Go.Operand.tmp 20), type := 26, pos := "law.go:35", after := #[{ on := 43, ground := Go.Ground.guard }], guard := some (43, true) }) (v := ?_) rfl (by kernel_rfl) (by kernel_rfl) (by kernel_rfl) (fun _ _ _ h => h) (Or.inl ⟨by rfl, ?_⟩) hHeld ?_; rotate_left 1
    · (intro w9 hSw; (try dsimp only at hSw); go_simp) <;> with_reducible rfl
    try simp only [Act.put, List.setIfInBounds_toArray, List.set_cons_zero, List.set_cons_succ]
    refine wpAnyH_take (i := 45) (oi := { dst := some 116, op := Go.Op.load 24 (Go.Operand.tmp 2), type := 24, pos := "law.go:35", after := #[{ on := 43, ground := Go.Ground.guard }], guard := some (43, true) }) (v := ?_) rfl (by kernel_rfl) (by kernel_rfl) (by kernel_rfl) (fun _ _ _ h => h) (Or.inl ⟨by rfl, ?_⟩) hHeld ?_; rotate_left 1
    · (intro w9 hSw; (try dsimp only at hSw); go_simp) <;> with_reducible rfl
    try simp only [Act.put, List.setIfInBounds_toArray, List.set_cons_zero, List.set_cons_succ]
    refine wpAnyH_ready (rs := [46]) (by kernel_rfl) (by simp) ?_
    refine AllReadyH.cons (o := { dst := some 117, op := Go.Op.call { callee := Go.Callee.value (Go.Operand.func 24), args := #[Go.Operand.tmp 116], argTypes := #[24] }, type := 26, pos := "law.go:35", after := #[{ on := 45, ground := Go.Ground.data }, { on := 43, ground := Go.Ground.chain }, { on := 43, ground := Go.Ground.guard }], guard := some (43, true) }) rfl (fun K hK => ?_) AllReadyH.nil
    go_simp
    refine (H9.out _).mono ?_
    rintro e wn ⟨rfl, hbr⟩
    have hHeld := ch_step hbr hHeld
    clear hbr
    try go_wp2_with fail
    refine hK.out _ _ hHeld (fun _ => ?_)
    clear hK K
    try simp only [Act.put, List.setIfInBounds_toArray, List.set_cons_zero, List.set_cons_succ]
    refine wpAnyH_take (i := 47) (oi := { dst := some 118, op := Go.Op.binOp Go.BinOp.eql 26 (Go.Operand.tmp 115) (Go.Operand.tmp 117) 26, type := 4, pos := "law.go:35", after := #[{ on := 44, ground := Go.Ground.data }, { on := 46, ground := Go.Ground.data }, { on := 43, ground := Go.Ground.guard }], guard := some (43, true) }) (v := ?_) rfl (by kernel_rfl) (by kernel_rfl) (by kernel_rfl) (fun _ _ _ h => h) (Or.inl ⟨by rfl, ?_⟩) hHeld ?_; rotate_left 1
    · (intro w9 hSw; (try dsimp only at hSw); go_simp) <;> with_reducible rfl
    try simp only [Act.put, List.setIfInBounds_toArray, List.set_cons_zero, List.set_cons_succ]
    refine wpAnyH_take (i := 48) (oi := { dst := some 119, op := Go.Op.pick (Go.Operand.tmp 114) (Go.Operand.tmp 118) (Go.Operand.const (Go.Value.bool false)), type := 4, pos := "law.go:35", after := #[{ on := 43, ground := Go.Ground.data }, { on := 47, ground := Go.Ground.data }], guard := none }) (v := ?_) rfl (by kernel_rfl) (by kernel_rfl) (by kernel_rfl) (fun _ _ _ h => h) (Or.inl ⟨by rfl, ?_⟩) hHeld ?_; rotate_left 1
    · (intro w9 hSw; (try dsimp only at hSw); go_simp) <;> with_reducible rfl
    try simp only [Act.put, List.setIfInBounds_toArray, List.set_cons_zero, List.set_cons_succ]
    refine wpAnyH_take (i := 49) (oi := { dst := some 120, op := Go.Op.move (Go.Operand.tmp 119), type := 4, pos := "law.go:35", after := #[{ on := 48, ground := Go.Ground.data }, { on := 46, ground := Go.Ground.chain }], guard := none }) (v := ?_) rfl (by kernel_rfl) (by kernel_rfl) (by kernel_rfl) (fun _ _ _ h => h) (Or.inl ⟨by rfl, ?_⟩) hHeld ?_; rotate_left 1
    · (intro w9 hSw; (try dsimp only at hSw); go_simp) <;> with_reducible rfl
    try simp only [Act.put, List.setIfInBounds_toArray, List.set_cons_zero, List.set_cons_succ]
    refine wpAnyH_ready (rs := [50]) (by kernel_rfl) (by simp) ?_
    refine AllReadyH.cons (o := { dst := some 121, op := Go.Op.call { callee := Go.Callee.value (Go.Operand.func 12), args := #[], argTypes := #[] }, type := 4, pos := "law.go:35", after := #[{ on := 49, ground := Go.Ground.chain }, { on := 49, ground := Go.Ground.guard }], guard := some (49, true) }) rfl (fun K hK => ?_) AllReadyH.nil
    go_simp
    refine (HLV.out _).mono ?_
    rintro e wn ⟨rfl, hbr⟩
    have hHeld := ch_step hbr hHeld
    clear hbr
    try go_wp2_with fail
    refine hK.out _ _ hHeld (fun _ => ?_)
    clear hK K
    try simp only [Act.put, List.setIfInBounds_toArray, List.set_cons_zero, List.set_cons_succ]
    refine wpAnyH_take (i := 51) (oi := { dst := some 122, op := Go.Op.pick (Go.Operand.tmp 120) (Go.Operand.tmp 121) (Go.Operand.const (Go.Value.bool false)), type := 4, pos := "law.go:35", after := #[{ on := 49, ground := Go.Ground.data }, { on := 50, ground := Go.Ground.data }], guard := none }) (v := ?_) rfl (by kernel_rfl) (by kernel_rfl) (by kernel_rfl) (fun _ _ _ h => h) (Or.inl ⟨by rfl, ?_⟩) hHeld ?_; rotate_left 1
    · (intro w9 hSw; (try dsimp only at hSw); go_simp) <;> with_reducible rfl
    try simp only [Act.put, List.setIfInBounds_toArray, List.set_cons_zero, List.set_cons_succ]
    refine wpAnyH_take (i := 52) (oi := { dst := some 4, op := Go.Op.assign (Go.Operand.tmp 122), type := 4, pos := "law.go:35", after := #[{ on := 51, ground := Go.Ground.data }, { on := 50, ground := Go.Ground.chain }, { on := 0, ground := Go.Ground.phase }, { on := 1, ground := Go.Ground.phase }, { on := 2, ground := Go.Ground.phase }, { on := 3, ground := Go.Ground.phase }, { on := 4, ground := Go.Ground.phase }, { on := 5, ground := Go.Ground.phase }, { on := 6, ground := Go.Ground.phase }, { on := 7, ground := Go.Ground.phase }, { on := 8, ground := Go.Ground.phase }, { on := 9, ground := Go.Ground.phase }, { on := 10, ground := Go.Ground.phase }, { on := 11, ground := Go.Ground.phase }, { on := 12, ground := Go.Ground.phase }, { on := 13, ground := Go.Ground.phase }, { on := 14, ground := Go.Ground.phase }, { on := 15, ground := Go.Ground.phase }, { on := 16, ground := Go.Ground.phase }, { on := 17, ground := Go.Ground.phase }, { on := 18, ground := Go.Ground.phase }, { on := 19, ground := Go.Ground.phase }, { on := 20, ground := Go.Ground.phase }, { on := 21, ground := Go.Ground.phase }, { on := 22, ground := Go.Ground.phase }, { on := 23, ground := Go.Ground.phase }, { on := 24, ground := Go.Ground.phase }, { on := 25, ground := Go.Ground.phase }, { on := 26, ground := Go.Ground.phase }, { on := 27, ground := Go.Ground.phase }, { on := 28, ground := Go.Ground.phase }, { on := 29, ground := Go.Ground.phase }, { on := 30, ground := Go.Ground.phase }, { on := 31, ground := Go.Ground.phase }, { on := 32, ground := Go.Ground.phase }, { on := 33, ground := Go.Ground.phase }, { on := 34, ground := Go.Ground.phase }, { on := 35, ground := Go.Ground.phase }, { on := 36, ground := Go.Ground.phase }, { on := 37, ground := Go.Ground.phase }, { on := 38, ground := Go.Ground.phase }, { on := 39, ground := Go.Ground.phase }, { on := 40, ground := Go.Ground.phase }, { on := 41, ground := Go.Ground.phase }, { on := 42, ground := Go.Ground.phase }, { on := 43, ground := Go.Ground.phase }, { on := 44, ground := Go.Ground.phase }, { on := 45, ground := Go.Ground.phase }, { on := 46, ground := Go.Ground.phase }, { on := 47, ground := Go.Ground.phase }, { on := 48, ground := Go.Ground.phase }, { on := 49, ground := Go.Ground.phase }, { on := 50, ground := Go.Ground.phase }, { on := 51, ground := Go.Ground.phase }], guard := none }) (v := ?_) rfl (by kernel_rfl) (by kernel_rfl) (by kernel_rfl) (fun _ _ _ h => h) (Or.inl ⟨by rfl, ?_⟩) hHeld ?_; rotate_left 1
    · (intro w9 hSw; (try dsimp only at hSw); go_simp) <;> with_reducible rfl
    try simp only [Act.put, List.setIfInBounds_toArray, List.set_cons_zero, List.set_cons_succ]
    refine wpAnyH_done (by kernel_rfl) ?_ _
    go_wp2
    go_meet
    exact ⟨rfl, hHeld⟩
  case rest =>
    obtain ⟨rfl, hSc⟩ := hcut
    obtain ⟨m0_0, m0_1, hbc⟩ := hSc
    clear f0_0 f0_1
    have HB := Lib.hid hbc
    have f0_0 := m0_0; have f0_1 := m0_1; have HL0 := Lib.hid (World.block_lt_of_cell? _ _ f0_0)
    clear m0_0 m0_1 hbc HSC10
    go_wp2
    go_ret
    exact ⟨rfl, HB.out⟩

set_option maxHeartbeats 4000000 in
set_option maxRecDepth 100000 in
theorem checks_e1 (aB bB : Bool) (aS bS : ByteArray) (HS : Hid (∀ w, Calls Tryd.prog 10 #[.agg #[.bool aB, .string aS], .agg #[.bool bB, .string bS]] w fun e w' => e = .returned (.bool true) ∧ Below w.heap.size w w')) (sB dB pB qB rB gB : Bool) (sS dS pS qS rS gS tS : ByteArray) (c EA : Int) (HE : Hid (∀ w, Calls Tryd.prog 11 #[.agg #[.bool aB, .string aS], .agg #[.bool bB, .string bS]] w fun e w' => e = .returned (.int .i64 1) ∧ Below w.heap.size w w')) (H1 : Hid (∀ w, Calls Tryd.prog 30 #[.agg #[.bool aB, .string aS], .agg #[.bool bB, .string bS]] w fun e w' => e = .returned (.tuple #[.int .i64 c, .int .i64 1]) ∧ Below w.heap.size w w')) (H2 : Hid (∀ w, Calls Tryd.prog 27 #[.agg #[.bool aB, .string aS], .agg #[.bool bB, .string bS]] w fun e w' => e = .returned (.tuple #[.agg #[.bool sB, .string sS], .int .i64 1]) ∧ Below w.heap.size w w')) (H3 : Hid (∀ w, Calls Tryd.prog 29 #[.agg #[.bool aB, .string aS], .agg #[.bool bB, .string bS]] w fun e w' => e = .returned (.tuple #[.agg #[.bool dB, .string dS], .int .i64 1]) ∧ Below w.heap.size w w')) (H4 : Hid (∀ w, Calls Tryd.prog 28 #[.agg #[.bool aB, .string aS], .agg #[.bool bB, .string bS]] w fun e w' => e = .returned (.tuple #[.agg #[.bool pB, .string pS], .int .i64 1]) ∧ Below w.heap.size w w')) (H5 : Hid (∀ w, Calls Tryd.prog 13 #[.agg #[.bool aB, .string aS], .agg #[.bool bB, .string bS]] w fun e w' => e = .returned (.tuple #[.agg #[.bool qB, .string qS], .agg #[.bool rB, .string rS], .int .i64 1]) ∧ Below w.heap.size w w')) (H6 : Hid (∀ w, Calls Tryd.prog 18 #[.agg #[.bool aB, .string aS], .agg #[.bool bB, .string bS]] w fun e w' => e = .returned (.tuple #[.agg #[.bool gB, .string gS], .int .i64 1]) ∧ Below w.heap.size w w')) (H7 : Hid (∀ w, Calls Tryd.prog 25 #[.agg #[.bool aB, .string aS]] w fun e w' => e = .returned (.tuple #[.string tS, .int .i64 EA]) ∧ Below w.heap.size w w')) (H8 : Hid (∀ w, Calls Tryd.prog 31 #[.agg #[.bool aB, .string aS]] w fun e w' => e = .returned (.int .i64 EA) ∧ Below w.heap.size w w')) (H9 : Hid (∀ w, Calls Tryd.prog 24 #[.agg #[.bool aB, .string aS]] w fun e w' => e = .returned (.int .i64 EA) ∧ Below w.heap.size w w')) (w : World) :
    Calls Tryd.prog 9 #[.agg #[.bool aB, .string aS], .agg #[.bool bB, .string bS]] w fun e w' => e = .returned (.bool true) ∧ Below w.heap.size w w' := by
  obtain ⟨W0, hW0⟩ : ∃ W0, W0 = (w.alloc (.cells #[.bool aB, .string aS] 24)).alloc (.cells #[.bool bB, .string bS] 24) := ⟨_, rfl⟩
  have hB0 : Below w.heap.size w W0 := by rw [hW0]; exact ((Below.refl _ _).alloc (by simp; try omega) _).alloc (by simp; try omega) _
  have f0_0 : W0.cell? ⟨w.heap.size, 0, none⟩ = some (.bool aB) := by rw [hW0]; simp [go_sem]
  have f0_1 : W0.cell? ⟨w.heap.size, 1, none⟩ = some (.string aS) := by rw [hW0]; simp [go_sem]
  have f1_0 : W0.cell? ⟨w.heap.size + 1, 0, none⟩ = some (.bool bB) := by rw [hW0]; simp [go_sem]
  have f1_1 : W0.cell? ⟨w.heap.size + 1, 1, none⟩ = some (.string bS) := by rw [hW0]; simp [go_sem]
  have hZ0 : W0.heap.size = w.heap.size + 2 := by rw [hW0]; simp
  have HL0 := Lib.hid (show w.heap.size < W0.heap.size by rw [hZ0]; omega)
  have HL1 := Lib.hid (show w.heap.size + 1 < W0.heap.size by rw [hZ0]; omega)
  have HW0 := Lib.hid hW0
  have HB := Lib.hid hB0
  clear hB0 hZ0 hW0
  have HLV := Lib.hid live_c
  go_enter Tryd.func9, Tryd.ntmps9
  go_wp2_with fail
  rw [← HW0.out]
  refine (HS.out _).mono ?_
  rintro e w1 ⟨rfl, hb1⟩
  have hB1 : Below W0.heap.size W0 (w1) := hb1
  have n0_0 := (hB1.cell (p := ⟨w.heap.size, 0, none⟩) HL0.out).trans f0_0
  have n0_1 := (hB1.cell (p := ⟨w.heap.size, 1, none⟩) HL0.out).trans f0_1
  have n1_0 := (hB1.cell (p := ⟨w.heap.size + 1, 0, none⟩) HL1.out).trans f1_0
  have n1_1 := (hB1.cell (p := ⟨w.heap.size + 1, 1, none⟩) HL1.out).trans f1_1
  clear f0_0 f0_1 f1_0 f1_1
  have HX1 := Lib.hid hB1
  have HY1 := Lib.hid hb1.size
  clear hB1 hb1
  go_wp2_with fail
  have HL0 := Lib.hid (Nat.lt_of_lt_of_le HL0.out HX1.out.size)
  have HL1 := Lib.hid (Nat.lt_of_lt_of_le HL1.out HX1.out.size)
  have HB := Lib.hid (HB.out.trans (HX1.out.mono HB.out.size))
  clear HX1
  have f0_0 := n0_0
  have f0_1 := n0_1
  have f1_0 := n1_0
  have f1_1 := n1_1
  clear n0_0 n0_1 n1_0 n1_1
  refine (HE.out _).mono ?_
  rintro e w2 ⟨rfl, hb2⟩
  have hB2 : Below w1.heap.size w1 (w2) := hb2
  have n0_0 := (hB2.cell (p := ⟨w.heap.size, 0, none⟩) HL0.out).trans f0_0
  have n0_1 := (hB2.cell (p := ⟨w.heap.size, 1, none⟩) HL0.out).trans f0_1
  have n1_0 := (hB2.cell (p := ⟨w.heap.size + 1, 0, none⟩) HL1.out).trans f1_0
  have n1_1 := (hB2.cell (p := ⟨w.heap.size + 1, 1, none⟩) HL1.out).trans f1_1
  clear f0_0 f0_1 f1_0 f1_1
  have HX2 := Lib.hid hB2
  have HY2 := Lib.hid hb2.size
  clear hB2 hb2
  go_wp2_with fail
  have HL0 := Lib.hid (Nat.lt_of_lt_of_le HL0.out HX2.out.size)
  have HL1 := Lib.hid (Nat.lt_of_lt_of_le HL1.out HX2.out.size)
  have HB := Lib.hid (HB.out.trans (HX2.out.mono HB.out.size))
  clear HX2
  have f0_0 := n0_0
  have f0_1 := n0_1
  have f1_0 := n1_0
  have f1_1 := n1_1
  clear n0_0 n0_1 n1_0 n1_1
  refine (H1.out _).mono ?_
  rintro e w3 ⟨rfl, hb3⟩
  have hB3 : Below w2.heap.size w2 (w3) := hb3
  have n0_0 := (hB3.cell (p := ⟨w.heap.size, 0, none⟩) HL0.out).trans f0_0
  have n0_1 := (hB3.cell (p := ⟨w.heap.size, 1, none⟩) HL0.out).trans f0_1
  have n1_0 := (hB3.cell (p := ⟨w.heap.size + 1, 0, none⟩) HL1.out).trans f1_0
  have n1_1 := (hB3.cell (p := ⟨w.heap.size + 1, 1, none⟩) HL1.out).trans f1_1
  clear f0_0 f0_1 f1_0 f1_1
  have HX3 := Lib.hid hB3
  have HY3 := Lib.hid hb3.size
  clear hB3 hb3
  go_wp2_with fail
  have HL0 := Lib.hid (Nat.lt_of_lt_of_le HL0.out HX3.out.size)
  have HL1 := Lib.hid (Nat.lt_of_lt_of_le HL1.out HX3.out.size)
  have HB := Lib.hid (HB.out.trans (HX3.out.mono HB.out.size))
  clear HX3
  have f0_0 := n0_0
  have f0_1 := n0_1
  have f1_0 := n1_0
  have f1_1 := n1_1
  clear n0_0 n0_1 n1_0 n1_1
  refine (H2.out _).mono ?_
  rintro e w4 ⟨rfl, hb4⟩
  have hB4 : Below w3.heap.size w3 (w4.alloc (.cells #[.bool sB, .string sS] 24)) := ((hb4).alloc (by have := hb4.size; simp; try omega) _)
  have n0_0 := (hB4.cell (p := ⟨w.heap.size, 0, none⟩) HL0.out).trans f0_0
  have n0_1 := (hB4.cell (p := ⟨w.heap.size, 1, none⟩) HL0.out).trans f0_1
  have n1_0 := (hB4.cell (p := ⟨w.heap.size + 1, 0, none⟩) HL1.out).trans f1_0
  have n1_1 := (hB4.cell (p := ⟨w.heap.size + 1, 1, none⟩) HL1.out).trans f1_1
  have n2_0 : (w4.alloc (.cells #[.bool sB, .string sS] 24)).cell? ⟨w4.heap.size, 0, none⟩ = some (.bool sB) := by simp [go_sem]
  have n2_1 : (w4.alloc (.cells #[.bool sB, .string sS] 24)).cell? ⟨w4.heap.size, 1, none⟩ = some (.string sS) := by simp [go_sem]
  clear f0_0 f0_1 f1_0 f1_1
  have HX4 := Lib.hid hB4
  have HY4 := Lib.hid hb4.size
  clear hB4 hb4
  go_wp2_with fail
  obtain ⟨W4, hW4⟩ : ∃ W4, W4 = w4.alloc (.cells #[.bool sB, .string sS] 24) := ⟨_, rfl⟩
  have hZ4 : W4.heap.size = w4.heap.size + 1 := by rw [hW4]; simp
  rw [← hW4] at HX4 ⊢
  rw [← hW4] at n0_0 n0_1
  rw [← hW4] at n1_0 n1_1
  rw [← hW4] at n2_0 n2_1
  obtain ⟨g4, hg4⟩ : ∃ g4, w4.heap.size = g4 := ⟨_, rfl⟩
  rw [hg4] at n2_0 n2_1
  rw [hg4] at hZ4 HY4 ⊢
  clear hW4 hg4
  have HL0 := Lib.hid (Nat.lt_of_lt_of_le HL0.out HX4.out.size)
  have HL1 := Lib.hid (Nat.lt_of_lt_of_le HL1.out HX4.out.size)
  have HL2 := Lib.hid (show g4 < W4.heap.size by rw [hZ4]; omega)
  clear hZ4 HY4
  have HB := Lib.hid (HB.out.trans (HX4.out.mono HB.out.size))
  clear HX4
  have f0_0 := n0_0
  have f0_1 := n0_1
  have f1_0 := n1_0
  have f1_1 := n1_1
  have f2_0 := n2_0
  have f2_1 := n2_1
  clear n0_0 n0_1 n1_0 n1_1 n2_0 n2_1
  refine (H3.out _).mono ?_
  rintro e w5 ⟨rfl, hb5⟩
  have hB5 : Below W4.heap.size W4 (w5.alloc (.cells #[.bool dB, .string dS] 24)) := ((hb5).alloc (by have := hb5.size; simp; try omega) _)
  have n0_0 := (hB5.cell (p := ⟨w.heap.size, 0, none⟩) HL0.out).trans f0_0
  have n0_1 := (hB5.cell (p := ⟨w.heap.size, 1, none⟩) HL0.out).trans f0_1
  have n1_0 := (hB5.cell (p := ⟨w.heap.size + 1, 0, none⟩) HL1.out).trans f1_0
  have n1_1 := (hB5.cell (p := ⟨w.heap.size + 1, 1, none⟩) HL1.out).trans f1_1
  have n2_0 := (hB5.cell (p := ⟨g4, 0, none⟩) HL2.out).trans f2_0
  have n2_1 := (hB5.cell (p := ⟨g4, 1, none⟩) HL2.out).trans f2_1
  have n3_0 : (w5.alloc (.cells #[.bool dB, .string dS] 24)).cell? ⟨w5.heap.size, 0, none⟩ = some (.bool dB) := by simp [go_sem]
  have n3_1 : (w5.alloc (.cells #[.bool dB, .string dS] 24)).cell? ⟨w5.heap.size, 1, none⟩ = some (.string dS) := by simp [go_sem]
  clear f0_0 f0_1 f1_0 f1_1 f2_0 f2_1
  have HX5 := Lib.hid hB5
  have HY5 := Lib.hid hb5.size
  clear hB5 hb5
  go_wp2_with fail
  obtain ⟨W5, hW5⟩ : ∃ W5, W5 = w5.alloc (.cells #[.bool dB, .string dS] 24) := ⟨_, rfl⟩
  have hZ5 : W5.heap.size = w5.heap.size + 1 := by rw [hW5]; simp
  rw [← hW5] at HX5 ⊢
  rw [← hW5] at n0_0 n0_1
  rw [← hW5] at n1_0 n1_1
  rw [← hW5] at n2_0 n2_1
  rw [← hW5] at n3_0 n3_1
  obtain ⟨g5, hg5⟩ : ∃ g5, w5.heap.size = g5 := ⟨_, rfl⟩
  rw [hg5] at n3_0 n3_1
  rw [hg5] at hZ5 HY5 ⊢
  clear hW5 hg5
  have HL0 := Lib.hid (Nat.lt_of_lt_of_le HL0.out HX5.out.size)
  have HL1 := Lib.hid (Nat.lt_of_lt_of_le HL1.out HX5.out.size)
  have HL2 := Lib.hid (Nat.lt_of_lt_of_le HL2.out HX5.out.size)
  have HL3 := Lib.hid (show g5 < W5.heap.size by rw [hZ5]; omega)
  clear hZ5 HY5
  have HB := Lib.hid (HB.out.trans (HX5.out.mono HB.out.size))
  clear HX5
  have f0_0 := n0_0
  have f0_1 := n0_1
  have f1_0 := n1_0
  have f1_1 := n1_1
  have f2_0 := n2_0
  have f2_1 := n2_1
  have f3_0 := n3_0
  have f3_1 := n3_1
  clear n0_0 n0_1 n1_0 n1_1 n2_0 n2_1 n3_0 n3_1
  refine (H4.out _).mono ?_
  rintro e w6 ⟨rfl, hb6⟩
  have hB6 : Below W5.heap.size W5 (w6.alloc (.cells #[.bool pB, .string pS] 24)) := ((hb6).alloc (by have := hb6.size; simp; try omega) _)
  have n0_0 := (hB6.cell (p := ⟨w.heap.size, 0, none⟩) HL0.out).trans f0_0
  have n0_1 := (hB6.cell (p := ⟨w.heap.size, 1, none⟩) HL0.out).trans f0_1
  have n1_0 := (hB6.cell (p := ⟨w.heap.size + 1, 0, none⟩) HL1.out).trans f1_0
  have n1_1 := (hB6.cell (p := ⟨w.heap.size + 1, 1, none⟩) HL1.out).trans f1_1
  have n2_0 := (hB6.cell (p := ⟨g4, 0, none⟩) HL2.out).trans f2_0
  have n2_1 := (hB6.cell (p := ⟨g4, 1, none⟩) HL2.out).trans f2_1
  have n3_0 := (hB6.cell (p := ⟨g5, 0, none⟩) HL3.out).trans f3_0
  have n3_1 := (hB6.cell (p := ⟨g5, 1, none⟩) HL3.out).trans f3_1
  have n4_0 : (w6.alloc (.cells #[.bool pB, .string pS] 24)).cell? ⟨w6.heap.size, 0, none⟩ = some (.bool pB) := by simp [go_sem]
  have n4_1 : (w6.alloc (.cells #[.bool pB, .string pS] 24)).cell? ⟨w6.heap.size, 1, none⟩ = some (.string pS) := by simp [go_sem]
  clear f0_0 f0_1 f1_0 f1_1 f2_0 f2_1 f3_0 f3_1
  have HX6 := Lib.hid hB6
  have HY6 := Lib.hid hb6.size
  clear hB6 hb6
  go_wp2_with fail
  obtain ⟨W6, hW6⟩ : ∃ W6, W6 = w6.alloc (.cells #[.bool pB, .string pS] 24) := ⟨_, rfl⟩
  have hZ6 : W6.heap.size = w6.heap.size + 1 := by rw [hW6]; simp
  rw [← hW6] at HX6 ⊢
  rw [← hW6] at n0_0 n0_1
  rw [← hW6] at n1_0 n1_1
  rw [← hW6] at n2_0 n2_1
  rw [← hW6] at n3_0 n3_1
  rw [← hW6] at n4_0 n4_1
  obtain ⟨g6, hg6⟩ : ∃ g6, w6.heap.size = g6 := ⟨_, rfl⟩
  rw [hg6] at n4_0 n4_1
  rw [hg6] at hZ6 HY6 ⊢
  clear hW6 hg6
  have HL0 := Lib.hid (Nat.lt_of_lt_of_le HL0.out HX6.out.size)
  have HL1 := Lib.hid (Nat.lt_of_lt_of_le HL1.out HX6.out.size)
  have HL2 := Lib.hid (Nat.lt_of_lt_of_le HL2.out HX6.out.size)
  have HL3 := Lib.hid (Nat.lt_of_lt_of_le HL3.out HX6.out.size)
  have HL4 := Lib.hid (show g6 < W6.heap.size by rw [hZ6]; omega)
  clear hZ6 HY6
  have HB := Lib.hid (HB.out.trans (HX6.out.mono HB.out.size))
  clear HX6
  have f0_0 := n0_0
  have f0_1 := n0_1
  have f1_0 := n1_0
  have f1_1 := n1_1
  have f2_0 := n2_0
  have f2_1 := n2_1
  have f3_0 := n3_0
  have f3_1 := n3_1
  have f4_0 := n4_0
  have f4_1 := n4_1
  clear n0_0 n0_1 n1_0 n1_1 n2_0 n2_1 n3_0 n3_1 n4_0 n4_1
  refine (H5.out _).mono ?_
  rintro e w7 ⟨rfl, hb7⟩
  have hB7 : Below W6.heap.size W6 ((w7.alloc (.cells #[.bool qB, .string qS] 24)).alloc (.cells #[.bool rB, .string rS] 24)) := ((((hb7).alloc (by have := hb7.size; simp; try omega) _)).alloc (by have := hb7.size; simp; try omega) _)
  have n0_0 := (hB7.cell (p := ⟨w.heap.size, 0, none⟩) HL0.out).trans f0_0
  have n0_1 := (hB7.cell (p := ⟨w.heap.size, 1, none⟩) HL0.out).trans f0_1
  have n1_0 := (hB7.cell (p := ⟨w.heap.size + 1, 0, none⟩) HL1.out).trans f1_0
  have n1_1 := (hB7.cell (p := ⟨w.heap.size + 1, 1, none⟩) HL1.out).trans f1_1
  have n2_0 := (hB7.cell (p := ⟨g4, 0, none⟩) HL2.out).trans f2_0
  have n2_1 := (hB7.cell (p := ⟨g4, 1, none⟩) HL2.out).trans f2_1
  have n3_0 := (hB7.cell (p := ⟨g5, 0, none⟩) HL3.out).trans f3_0
  have n3_1 := (hB7.cell (p := ⟨g5, 1, none⟩) HL3.out).trans f3_1
  have n4_0 := (hB7.cell (p := ⟨g6, 0, none⟩) HL4.out).trans f4_0
  have n4_1 := (hB7.cell (p := ⟨g6, 1, none⟩) HL4.out).trans f4_1
  have n5_0 : ((w7.alloc (.cells #[.bool qB, .string qS] 24)).alloc (.cells #[.bool rB, .string rS] 24)).cell? ⟨w7.heap.size, 0, none⟩ = some (.bool qB) := by simp [go_sem]
  have n5_1 : ((w7.alloc (.cells #[.bool qB, .string qS] 24)).alloc (.cells #[.bool rB, .string rS] 24)).cell? ⟨w7.heap.size, 1, none⟩ = some (.string qS) := by simp [go_sem]
  have n6_0 : ((w7.alloc (.cells #[.bool qB, .string qS] 24)).alloc (.cells #[.bool rB, .string rS] 24)).cell? ⟨w7.heap.size + 1, 0, none⟩ = some (.bool rB) := by simp [go_sem]
  have n6_1 : ((w7.alloc (.cells #[.bool qB, .string qS] 24)).alloc (.cells #[.bool rB, .string rS] 24)).cell? ⟨w7.heap.size + 1, 1, none⟩ = some (.string rS) := by simp [go_sem]
  clear f0_0 f0_1 f1_0 f1_1 f2_0 f2_1 f3_0 f3_1 f4_0 f4_1
  have HX7 := Lib.hid hB7
  have HY7 := Lib.hid hb7.size
  clear hB7 hb7
  go_wp2_with fail
  obtain ⟨W7, hW7⟩ : ∃ W7, W7 = (w7.alloc (.cells #[.bool qB, .string qS] 24)).alloc (.cells #[.bool rB, .string rS] 24) := ⟨_, rfl⟩
  have hZ7 : W7.heap.size = w7.heap.size + 2 := by rw [hW7]; simp
  rw [← hW7] at HX7 ⊢
  rw [← hW7] at n0_0 n0_1
  rw [← hW7] at n1_0 n1_1
  rw [← hW7] at n2_0 n2_1
  rw [← hW7] at n3_0 n3_1
  rw [← hW7] at n4_0 n4_1
  rw [← hW7] at n5_0 n5_1
  rw [← hW7] at n6_0 n6_1
  obtain ⟨g7, hg7⟩ : ∃ g7, w7.heap.size = g7 := ⟨_, rfl⟩
  rw [hg7] at n5_0 n5_1
  rw [hg7] at n6_0 n6_1
  rw [hg7] at hZ7 HY7 ⊢
  clear hW7 hg7
  have HL0 := Lib.hid (Nat.lt_of_lt_of_le HL0.out HX7.out.size)
  have HL1 := Lib.hid (Nat.lt_of_lt_of_le HL1.out HX7.out.size)
  have HL2 := Lib.hid (Nat.lt_of_lt_of_le HL2.out HX7.out.size)
  have HL3 := Lib.hid (Nat.lt_of_lt_of_le HL3.out HX7.out.size)
  have HL4 := Lib.hid (Nat.lt_of_lt_of_le HL4.out HX7.out.size)
  have HL5 := Lib.hid (show g7 < W7.heap.size by rw [hZ7]; omega)
  have HL6 := Lib.hid (show g7 + 1 < W7.heap.size by rw [hZ7]; omega)
  clear hZ7 HY7
  have HB := Lib.hid (HB.out.trans (HX7.out.mono HB.out.size))
  clear HX7
  have f0_0 := n0_0
  have f0_1 := n0_1
  have f1_0 := n1_0
  have f1_1 := n1_1
  have f2_0 := n2_0
  have f2_1 := n2_1
  have f3_0 := n3_0
  have f3_1 := n3_1
  have f4_0 := n4_0
  have f4_1 := n4_1
  have f5_0 := n5_0
  have f5_1 := n5_1
  have f6_0 := n6_0
  have f6_1 := n6_1
  clear n0_0 n0_1 n1_0 n1_1 n2_0 n2_1 n3_0 n3_1 n4_0 n4_1 n5_0 n5_1 n6_0 n6_1
  refine (H6.out _).mono ?_
  rintro e w8 ⟨rfl, hb8⟩
  have hB8 : Below W7.heap.size W7 (w8.alloc (.cells #[.bool gB, .string gS] 24)) := ((hb8).alloc (by have := hb8.size; simp; try omega) _)
  have n0_0 := (hB8.cell (p := ⟨w.heap.size, 0, none⟩) HL0.out).trans f0_0
  have n0_1 := (hB8.cell (p := ⟨w.heap.size, 1, none⟩) HL0.out).trans f0_1
  have n1_0 := (hB8.cell (p := ⟨w.heap.size + 1, 0, none⟩) HL1.out).trans f1_0
  have n1_1 := (hB8.cell (p := ⟨w.heap.size + 1, 1, none⟩) HL1.out).trans f1_1
  have n2_0 := (hB8.cell (p := ⟨g4, 0, none⟩) HL2.out).trans f2_0
  have n2_1 := (hB8.cell (p := ⟨g4, 1, none⟩) HL2.out).trans f2_1
  have n3_0 := (hB8.cell (p := ⟨g5, 0, none⟩) HL3.out).trans f3_0
  have n3_1 := (hB8.cell (p := ⟨g5, 1, none⟩) HL3.out).trans f3_1
  have n4_0 := (hB8.cell (p := ⟨g6, 0, none⟩) HL4.out).trans f4_0
  have n4_1 := (hB8.cell (p := ⟨g6, 1, none⟩) HL4.out).trans f4_1
  have n5_0 := (hB8.cell (p := ⟨g7, 0, none⟩) HL5.out).trans f5_0
  have n5_1 := (hB8.cell (p := ⟨g7, 1, none⟩) HL5.out).trans f5_1
  have n6_0 := (hB8.cell (p := ⟨g7 + 1, 0, none⟩) HL6.out).trans f6_0
  have n6_1 := (hB8.cell (p := ⟨g7 + 1, 1, none⟩) HL6.out).trans f6_1
  have n7_0 : (w8.alloc (.cells #[.bool gB, .string gS] 24)).cell? ⟨w8.heap.size, 0, none⟩ = some (.bool gB) := by simp [go_sem]
  have n7_1 : (w8.alloc (.cells #[.bool gB, .string gS] 24)).cell? ⟨w8.heap.size, 1, none⟩ = some (.string gS) := by simp [go_sem]
  clear f0_0 f0_1 f1_0 f1_1 f2_0 f2_1 f3_0 f3_1 f4_0 f4_1 f5_0 f5_1 f6_0 f6_1
  have HX8 := Lib.hid hB8
  have HY8 := Lib.hid hb8.size
  clear hB8 hb8
  go_wp2_with fail
  obtain ⟨W8, hW8⟩ : ∃ W8, W8 = w8.alloc (.cells #[.bool gB, .string gS] 24) := ⟨_, rfl⟩
  have hZ8 : W8.heap.size = w8.heap.size + 1 := by rw [hW8]; simp
  rw [← hW8] at HX8 ⊢
  rw [← hW8] at n0_0 n0_1
  rw [← hW8] at n1_0 n1_1
  rw [← hW8] at n2_0 n2_1
  rw [← hW8] at n3_0 n3_1
  rw [← hW8] at n4_0 n4_1
  rw [← hW8] at n5_0 n5_1
  rw [← hW8] at n6_0 n6_1
  rw [← hW8] at n7_0 n7_1
  obtain ⟨g8, hg8⟩ : ∃ g8, w8.heap.size = g8 := ⟨_, rfl⟩
  rw [hg8] at n7_0 n7_1
  rw [hg8] at hZ8 HY8 ⊢
  clear hW8 hg8
  have HL0 := Lib.hid (Nat.lt_of_lt_of_le HL0.out HX8.out.size)
  have HL1 := Lib.hid (Nat.lt_of_lt_of_le HL1.out HX8.out.size)
  have HL2 := Lib.hid (Nat.lt_of_lt_of_le HL2.out HX8.out.size)
  have HL3 := Lib.hid (Nat.lt_of_lt_of_le HL3.out HX8.out.size)
  have HL4 := Lib.hid (Nat.lt_of_lt_of_le HL4.out HX8.out.size)
  have HL5 := Lib.hid (Nat.lt_of_lt_of_le HL5.out HX8.out.size)
  have HL6 := Lib.hid (Nat.lt_of_lt_of_le HL6.out HX8.out.size)
  have HL7 := Lib.hid (show g8 < W8.heap.size by rw [hZ8]; omega)
  clear hZ8 HY8
  have HB := Lib.hid (HB.out.trans (HX8.out.mono HB.out.size))
  clear HX8
  have f0_0 := n0_0
  have f0_1 := n0_1
  have f1_0 := n1_0
  have f1_1 := n1_1
  have f2_0 := n2_0
  have f2_1 := n2_1
  have f3_0 := n3_0
  have f3_1 := n3_1
  have f4_0 := n4_0
  have f4_1 := n4_1
  have f5_0 := n5_0
  have f5_1 := n5_1
  have f6_0 := n6_0
  have f6_1 := n6_1
  have f7_0 := n7_0
  have f7_1 := n7_1
  clear n0_0 n0_1 n1_0 n1_1 n2_0 n2_1 n3_0 n3_1 n4_0 n4_1 n5_0 n5_1 n6_0 n6_1 n7_0 n7_1
  refine (H7.out _).mono ?_
  rintro e w9 ⟨rfl, hb9⟩
  have hB9 : Below W8.heap.size W8 (w9) := hb9
  have n0_0 := (hB9.cell (p := ⟨w.heap.size, 0, none⟩) HL0.out).trans f0_0
  have n0_1 := (hB9.cell (p := ⟨w.heap.size, 1, none⟩) HL0.out).trans f0_1
  have n1_0 := (hB9.cell (p := ⟨w.heap.size + 1, 0, none⟩) HL1.out).trans f1_0
  have n1_1 := (hB9.cell (p := ⟨w.heap.size + 1, 1, none⟩) HL1.out).trans f1_1
  have n2_0 := (hB9.cell (p := ⟨g4, 0, none⟩) HL2.out).trans f2_0
  have n2_1 := (hB9.cell (p := ⟨g4, 1, none⟩) HL2.out).trans f2_1
  have n3_0 := (hB9.cell (p := ⟨g5, 0, none⟩) HL3.out).trans f3_0
  have n3_1 := (hB9.cell (p := ⟨g5, 1, none⟩) HL3.out).trans f3_1
  have n4_0 := (hB9.cell (p := ⟨g6, 0, none⟩) HL4.out).trans f4_0
  have n4_1 := (hB9.cell (p := ⟨g6, 1, none⟩) HL4.out).trans f4_1
  have n5_0 := (hB9.cell (p := ⟨g7, 0, none⟩) HL5.out).trans f5_0
  have n5_1 := (hB9.cell (p := ⟨g7, 1, none⟩) HL5.out).trans f5_1
  have n6_0 := (hB9.cell (p := ⟨g7 + 1, 0, none⟩) HL6.out).trans f6_0
  have n6_1 := (hB9.cell (p := ⟨g7 + 1, 1, none⟩) HL6.out).trans f6_1
  have n7_0 := (hB9.cell (p := ⟨g8, 0, none⟩) HL7.out).trans f7_0
  have n7_1 := (hB9.cell (p := ⟨g8, 1, none⟩) HL7.out).trans f7_1
  clear f0_0 f0_1 f1_0 f1_1 f2_0 f2_1 f3_0 f3_1 f4_0 f4_1 f5_0 f5_1 f6_0 f6_1 f7_0 f7_1
  have HX9 := Lib.hid hB9
  have HY9 := Lib.hid hb9.size
  clear hB9 hb9
  go_upto_region 11 with fail
  have HL0 := Lib.hid (Nat.lt_of_lt_of_le HL0.out HX9.out.size)
  have HL1 := Lib.hid (Nat.lt_of_lt_of_le HL1.out HX9.out.size)
  have HL2 := Lib.hid (Nat.lt_of_lt_of_le HL2.out HX9.out.size)
  have HL3 := Lib.hid (Nat.lt_of_lt_of_le HL3.out HX9.out.size)
  have HL4 := Lib.hid (Nat.lt_of_lt_of_le HL4.out HX9.out.size)
  have HL5 := Lib.hid (Nat.lt_of_lt_of_le HL5.out HX9.out.size)
  have HL6 := Lib.hid (Nat.lt_of_lt_of_le HL6.out HX9.out.size)
  have HL7 := Lib.hid (Nat.lt_of_lt_of_le HL7.out HX9.out.size)
  have HB := Lib.hid (HB.out.trans (HX9.out.mono HB.out.size))
  clear HX9
  have f0_0 := n0_0
  have f0_1 := n0_1
  have f1_0 := n1_0
  have f1_1 := n1_1
  have f2_0 := n2_0
  have f2_1 := n2_1
  have f3_0 := n3_0
  have f3_1 := n3_1
  have f4_0 := n4_0
  have f4_1 := n4_1
  have f5_0 := n5_0
  have f5_1 := n5_1
  have f6_0 := n6_0
  have f6_1 := n6_1
  have f7_0 := n7_0
  have f7_1 := n7_1
  clear n0_0 n0_1 n1_0 n1_1 n2_0 n2_1 n3_0 n3_1 n4_0 n4_1 n5_0 n5_1 n6_0 n6_1 n7_0 n7_1
  clear f1_0 f1_1 HL1 f2_0 f2_1 HL2 f3_0 f3_1 HL3 f4_0 f4_1 HL4 f5_0 f5_1 HL5 f6_0 f6_1 HL6 f7_0 f7_1 HL7
  have HSC10 := Lib.hid (show w9.cell? ⟨w.heap.size, 0, none⟩ = some (.bool aB) ∧ w9.cell? ⟨w.heap.size, 1, none⟩ = some (.string aS) ∧ Below w.heap.size w w9 from ⟨f0_0, f0_1, HB.out⟩)
  clear HL0
  go_cut [4] (fun a9 wx => a9 = .bool true ∧ (wx.cell? ⟨w.heap.size, 0, none⟩ = some (.bool aB) ∧ wx.cell? ⟨w.heap.size, 1, none⟩ = some (.string aS) ∧ Below w.heap.size w wx))
  case first =>
    refine wp_region_held_drew (S := fun w' => w'.cell? ⟨w.heap.size, 0, none⟩ = some (.bool aB) ∧ w'.cell? ⟨w.heap.size, 1, none⟩ = some (.string aS) ∧ Below w.heap.size w w') (by kernel_rfl) (ch_drew HSC10.out) (fun hHeld => ?_)
    clear f0_0 f0_1
    refine wpAnyH_take (i := 0) (oi := { dst := some 71, op := Go.Op.load 24 (Go.Operand.tmp 2), type := 24, pos := "law.go:35", after := #[], guard := none }) (v := ?_) rfl (by kernel_rfl) (by kernel_rfl) (by kernel_rfl) (fun _ _ _ h => h) (Or.inl ⟨by rfl, ?_⟩) hHeld ?_; rotate_left 1
    · (intro w9 hSw; (try dsimp only at hSw); go_simp) <;> with_reducible rfl
    try simp only [Act.put, List.setIfInBounds_toArray, List.set_cons_zero, List.set_cons_succ]
    refine wpAnyH_take (i := 2) (oi := { dst := some 73, op := Go.Op.load 24 (Go.Operand.tmp 2), type := 24, pos := "law.go:35", after := #[], guard := none }) (v := ?_) rfl (by kernel_rfl) (by kernel_rfl) (by kernel_rfl) (fun _ _ _ h => h) (Or.inl ⟨by rfl, ?_⟩) hHeld ?_; rotate_left 1
    · (intro w9 hSw; (try dsimp only at hSw); go_simp) <;> with_reducible rfl
    try simp only [Act.put, List.setIfInBounds_toArray, List.set_cons_zero, List.set_cons_succ]
    refine wpAnyH_ready (rs := [1]) (by kernel_rfl) (by simp) ?_
    refine AllReadyH.cons (o := { dst := some 72, op := Go.Op.call { callee := Go.Callee.value (Go.Operand.func 31), args := #[Go.Operand.tmp 71], argTypes := #[24] }, type := 26, pos := "law.go:35", after := #[{ on := 0, ground := Go.Ground.data }], guard := none }) rfl (fun K hK => ?_) AllReadyH.nil
    go_simp
    refine (H8.out _).mono ?_
    rintro e wn ⟨rfl, hbr⟩
    have hHeld := ch_step hbr hHeld
    clear hbr
    try go_wp2_with fail
    refine hK.out _ _ hHeld (fun _ => ?_)
    clear hK K
    try simp only [Act.put, List.setIfInBounds_toArray, List.set_cons_zero, List.set_cons_succ]
    refine wpAnyH_ready (rs := [3]) (by kernel_rfl) (by simp) ?_
    refine AllReadyH.cons (o := { dst := some 74, op := Go.Op.call { callee := Go.Callee.value (Go.Operand.func 24), args := #[Go.Operand.tmp 73], argTypes := #[24] }, type := 26, pos := "law.go:35", after := #[{ on := 2, ground := Go.Ground.data }, { on := 1, ground := Go.Ground.chain }], guard := none }) rfl (fun K hK => ?_) AllReadyH.nil
    go_simp
    refine (H9.out _).mono ?_
    rintro e wn ⟨rfl, hbr⟩
    have hHeld := ch_step hbr hHeld
    clear hbr
    try go_wp2_with fail
    refine hK.out _ _ hHeld (fun _ => ?_)
    clear hK K
    try simp only [Act.put, List.setIfInBounds_toArray, List.set_cons_zero, List.set_cons_succ]
    refine wpAnyH_take (i := 4) (oi := { dst := some 75, op := Go.Op.binOp Go.BinOp.eql 26 (Go.Operand.tmp 72) (Go.Operand.tmp 74) 26, type := 4, pos := "law.go:35", after := #[{ on := 1, ground := Go.Ground.data }, { on := 3, ground := Go.Ground.data }], guard := none }) (v := ?_) rfl (by kernel_rfl) (by kernel_rfl) (by kernel_rfl) (fun _ _ _ h => h) (Or.inl ⟨by rfl, ?_⟩) hHeld ?_; rotate_left 1
    · (intro w9 hSw; (try dsimp only at hSw); go_simp) <;> with_reducible rfl
    try simp only [Act.put, List.setIfInBounds_toArray, List.set_cons_zero, List.set_cons_succ]
    refine wpAnyH_take (i := 5) (oi := { dst := some 76, op := Go.Op.move (Go.Operand.tmp 75), type := 4, pos := "law.go:35", after := #[{ on := 4, ground := Go.Ground.data }, { on := 3, ground := Go.Ground.chain }], guard := none }) (v := ?_) rfl (by kernel_rfl) (by kernel_rfl) (by kernel_rfl) (fun _ _ _ h => h) (Or.inl ⟨by rfl, ?_⟩) hHeld ?_; rotate_left 1
    · (intro w9 hSw; (try dsimp only at hSw); go_simp) <;> with_reducible rfl
    try simp only [Act.put, List.setIfInBounds_toArray, List.set_cons_zero, List.set_cons_succ]
    refine wpAnyH_take (i := 6) (oi := { dst := some 77, op := Go.Op.move (Go.Operand.tmp 7), type := 26, pos := "law.go:35", after := #[{ on := 5, ground := Go.Ground.guard }], guard := some (5, true) }) (v := ?_) rfl (by kernel_rfl) (by kernel_rfl) (by kernel_rfl) (fun _ _ _ h => h) (Or.inl ⟨by rfl, ?_⟩) hHeld ?_; rotate_left 1
    · (intro w9 hSw; (try dsimp only at hSw); go_simp) <;> with_reducible rfl
    try simp only [Act.put, List.setIfInBounds_toArray, List.set_cons_zero, List.set_cons_succ]
    refine wpAnyH_take (i := 7) (oi := { dst := some 78, op := Go.Op.move (Go.Operand.tmp 5), type := 26, pos := "law.go:35", after := #[{ on := 5, ground := Go.Ground.guard }], guard := some (5, true) }) (v := ?_) rfl (by kernel_rfl) (by kernel_rfl) (by kernel_rfl) (fun _ _ _ h => h) (Or.inl ⟨by rfl, ?_⟩) hHeld ?_; rotate_left 1
    · (intro w9 hSw; (try dsimp only at hSw); go_simp) <;> with_reducible rfl
    try simp only [Act.put, List.setIfInBounds_toArray, List.set_cons_zero, List.set_cons_succ]
    refine wpAnyH_take (i := 8) (oi := { dst := some 79, op := Go.Op.binOp Go.BinOp.eql 26 (Go.Operand.tmp 77) (Go.Operand.tmp 78) 26, type := 4, pos := "law.go:35", after := #[{ on := 6, ground := Go.Ground.data }, { on := 7, ground := Go.Ground.data }, { on := 5, ground := Go.Ground.guard }], guard := some (5, true) }) (v := ?_) rfl (by kernel_rfl) (by kernel_rfl) (by kernel_rfl) (fun _ _ _ h => h) (Or.inl ⟨by rfl, ?_⟩) hHeld ?_; rotate_left 1
    · (intro w9 hSw; (try dsimp only at hSw); go_simp) <;> with_reducible rfl
    try simp only [Act.put, List.setIfInBounds_toArray, List.set_cons_zero, List.set_cons_succ]
    refine wpAnyH_take (i := 9) (oi := { dst := some 80, op := Go.Op.pick (Go.Operand.tmp 76) (Go.Operand.tmp 79) (Go.Operand.const (Go.Value.bool false)), type := 4, pos := "law.go:35", after := #[{ on := 5, ground := Go.Ground.data }, { on := 8, ground := Go.Ground.data }], guard := none }) (v := ?_) rfl (by kernel_rfl) (by kernel_rfl) (by kernel_rfl) (fun _ _ _ h => h) (Or.inl ⟨by rfl, ?_⟩) hHeld ?_; rotate_left 1
    · (intro w9 hSw; (try dsimp only at hSw); go_simp) <;> with_reducible rfl
    try simp only [Act.put, List.setIfInBounds_toArray, List.set_cons_zero, List.set_cons_succ]
    refine wpAnyH_take (i := 10) (oi := { dst := some 81, op := Go.Op.move (Go.Operand.tmp 80), type := 4, pos := "law.go:35", after := #[{ on := 9, ground := Go.Ground.data }, { on := 5, ground := Go.Ground.chain }], guard := none }) (v := ?_) rfl (by kernel_rfl) (by kernel_rfl) (by kernel_rfl) (fun _ _ _ h => h) (Or.inl ⟨by rfl, ?_⟩) hHeld ?_; rotate_left 1
    · (intro w9 hSw; (try dsimp only at hSw); go_simp) <;> with_reducible rfl
    try simp only [Act.put, List.setIfInBounds_toArray, List.set_cons_zero, List.set_cons_succ]
    refine wpAnyH_take (i := 11) (oi := { dst := some 82, op := Go.Op.move (Go.Operand.tmp 9), type := 26, pos := "law.go:35", after := #[{ on := 10, ground := Go.Ground.guard }], guard := some (10, true) }) (v := ?_) rfl (by kernel_rfl) (by kernel_rfl) (by kernel_rfl) (fun _ _ _ h => h) (Or.inl ⟨by rfl, ?_⟩) hHeld ?_; rotate_left 1
    · (intro w9 hSw; (try dsimp only at hSw); go_simp) <;> with_reducible rfl
    try simp only [Act.put, List.setIfInBounds_toArray, List.set_cons_zero, List.set_cons_succ]
    refine wpAnyH_take (i := 12) (oi := { dst := some 83, op := Go.Op.move (Go.Operand.tmp 5), type := 26, pos := "law.go:35", after := #[{ on := 10, ground := Go.Ground.guard }], guard := some (10, true) }) (v := ?_) rfl (by kernel_rfl) (by kernel_rfl) (by kernel_rfl) (fun _ _ _ h => h) (Or.inl ⟨by rfl, ?_⟩) hHeld ?_; rotate_left 1
    · (intro w9 hSw; (try dsimp only at hSw); go_simp) <;> with_reducible rfl
    try simp only [Act.put, List.setIfInBounds_toArray, List.set_cons_zero, List.set_cons_succ]
    refine wpAnyH_take (i := 13) (oi := { dst := some 84, op := Go.Op.binOp Go.BinOp.eql 26 (Go.Operand.tmp 82) (Go.Operand.tmp 83) 26, type := 4, pos := "law.go:35", after := #[{ on := 11, ground := Go.Ground.data }, { on := 12, ground := Go.Ground.data }, { on := 10, ground := Go.Ground.guard }], guard := some (10, true) }) (v := ?_) rfl (by kernel_rfl) (by kernel_rfl) (by kernel_rfl) (fun _ _ _ h => h) (Or.inl ⟨by rfl, ?_⟩) hHeld ?_; rotate_left 1
    · (intro w9 hSw; (try dsimp only at hSw); go_simp) <;> with_reducible rfl
    try simp only [Act.put, List.setIfInBounds_toArray, List.set_cons_zero, List.set_cons_succ]
    refine wpAnyH_take (i := 14) (oi := { dst := some 85, op := Go.Op.pick (Go.Operand.tmp 81) (Go.Operand.tmp 84) (Go.Operand.const (Go.Value.bool false)), type := 4, pos := "law.go:35", after := #[{ on := 10, ground := Go.Ground.data }, { on := 13, ground := Go.Ground.data }], guard := none }) (v := ?_) rfl (by kernel_rfl) (by kernel_rfl) (by kernel_rfl) (fun _ _ _ h => h) (Or.inl ⟨by rfl, ?_⟩) hHeld ?_; rotate_left 1
    · (intro w9 hSw; (try dsimp only at hSw); go_simp) <;> with_reducible rfl
    try simp only [Act.put, List.setIfInBounds_toArray, List.set_cons_zero, List.set_cons_succ]
    refine wpAnyH_take (i := 15) (oi := { dst := some 86, op := Go.Op.move (Go.Operand.tmp 85), type := 4, pos := "law.go:35", after := #[{ on := 14, ground := Go.Ground.data }, { on := 10, ground := Go.Ground.chain }], guard := none }) (v := ?_) rfl (by kernel_rfl) (by kernel_rfl) (by kernel_rfl) (fun _ _ _ h => h) (Or.inl ⟨by rfl, ?_⟩) hHeld ?_; rotate_left 1
    · (intro w9 hSw; (try dsimp only at hSw); go_simp) <;> with_reducible rfl
    try simp only [Act.put, List.setIfInBounds_toArray, List.set_cons_zero, List.set_cons_succ]
    refine wpAnyH_take (i := 16) (oi := { dst := some 87, op := Go.Op.move (Go.Operand.tmp 11), type := 26, pos := "law.go:35", after := #[{ on := 15, ground := Go.Ground.guard }], guard := some (15, true) }) (v := ?_) rfl (by kernel_rfl) (by kernel_rfl) (by kernel_rfl) (fun _ _ _ h => h) (Or.inl ⟨by rfl, ?_⟩) hHeld ?_; rotate_left 1
    · (intro w9 hSw; (try dsimp only at hSw); go_simp) <;> with_reducible rfl
    try simp only [Act.put, List.setIfInBounds_toArray, List.set_cons_zero, List.set_cons_succ]
    refine wpAnyH_take (i := 17) (oi := { dst := some 88, op := Go.Op.move (Go.Operand.tmp 5), type := 26, pos := "law.go:35", after := #[{ on := 15, ground := Go.Ground.guard }], guard := some (15, true) }) (v := ?_) rfl (by kernel_rfl) (by kernel_rfl) (by kernel_rfl) (fun _ _ _ h => h) (Or.inl ⟨by rfl, ?_⟩) hHeld ?_; rotate_left 1
    · (intro w9 hSw; (try dsimp only at hSw); go_simp) <;> with_reducible rfl
    try simp only [Act.put, List.setIfInBounds_toArray, List.set_cons_zero, List.set_cons_succ]
    refine wpAnyH_take (i := 18) (oi := { dst := some 89, op := Go.Op.binOp Go.BinOp.eql 26 (Go.Operand.tmp 87) (Go.Operand.tmp 88) 26, type := 4, pos := "law.go:35", after := #[{ on := 16, ground := Go.Ground.data }, { on := 17, ground := Go.Ground.data }, { on := 15, ground := Go.Ground.guard }], guard := some (15, true) }) (v := ?_) rfl (by kernel_rfl) (by kernel_rfl) (by kernel_rfl) (fun _ _ _ h => h) (Or.inl ⟨by rfl, ?_⟩) hHeld ?_; rotate_left 1
    · (intro w9 hSw; (try dsimp only at hSw); go_simp) <;> with_reducible rfl
    try simp only [Act.put, List.setIfInBounds_toArray, List.set_cons_zero, List.set_cons_succ]
    refine wpAnyH_take (i := 19) (oi := { dst := some 90, op := Go.Op.pick (Go.Operand.tmp 86) (Go.Operand.tmp 89) (Go.Operand.const (Go.Value.bool false)), type := 4, pos := "law.go:35", after := #[{ on := 15, ground := Go.Ground.data }, { on := 18, ground := Go.Ground.data }], guard := none }) (v := ?_) rfl (by kernel_rfl) (by kernel_rfl) (by kernel_rfl) (fun _ _ _ h => h) (Or.inl ⟨by rfl, ?_⟩) hHeld ?_; rotate_left 1
    · (intro w9 hSw; (try dsimp only at hSw); go_simp) <;> with_reducible rfl
    try simp only [Act.put, List.setIfInBounds_toArray, List.set_cons_zero, List.set_cons_succ]
    refine wpAnyH_take (i := 20) (oi := { dst := some 91, op := Go.Op.move (Go.Operand.tmp 90), type := 4, pos := "law.go:35", after := #[{ on := 19, ground := Go.Ground.data }, { on := 15, ground := Go.Ground.chain }], guard := none }) (v := ?_) rfl (by kernel_rfl) (by kernel_rfl) (by kernel_rfl) (fun _ _ _ h => h) (Or.inl ⟨by rfl, ?_⟩) hHeld ?_; rotate_left 1
    · (intro w9 hSw; (try dsimp only at hSw); go_simp) <;> with_reducible rfl
    try simp only [Act.put, List.setIfInBounds_toArray, List.set_cons_zero, List.set_cons_succ]
    refine wpAnyH_take (i := 21) (oi := { dst := some 92, op := Go.Op.move (Go.Operand.tmp 13), type := 26, pos := "law.go:35", after := #[{ on := 20, ground := Go.Ground.guard }], guard := some (20, true) }) (v := ?_) rfl (by kernel_rfl) (by kernel_rfl) (by kernel_rfl) (fun _ _ _ h => h) (Or.inl ⟨by rfl, ?_⟩) hHeld ?_; rotate_left 1
    · (intro w9 hSw; (try dsimp only at hSw); go_simp) <;> with_reducible rfl
    try simp only [Act.put, List.setIfInBounds_toArray, List.set_cons_zero, List.set_cons_succ]
    refine wpAnyH_take (i := 22) (oi := { dst := some 93, op := Go.Op.move (Go.Operand.tmp 5), type := 26, pos := "law.go:35", after := #[{ on := 20, ground := Go.Ground.guard }], guard := some (20, true) }) (v := ?_) rfl (by kernel_rfl) (by kernel_rfl) (by kernel_rfl) (fun _ _ _ h => h) (Or.inl ⟨by rfl, ?_⟩) hHeld ?_; rotate_left 1
    · (intro w9 hSw; (try dsimp only at hSw); go_simp) <;> with_reducible rfl
    try simp only [Act.put, List.setIfInBounds_toArray, List.set_cons_zero, List.set_cons_succ]
    refine wpAnyH_take (i := 23) (oi := { dst := some 94, op := Go.Op.binOp Go.BinOp.eql 26 (Go.Operand.tmp 92) (Go.Operand.tmp 93) 26, type := 4, pos := "law.go:35", after := #[{ on := 21, ground := Go.Ground.data }, { on := 22, ground := Go.Ground.data }, { on := 20, ground := Go.Ground.guard }], guard := some (20, true) }) (v := ?_) rfl (by kernel_rfl) (by kernel_rfl) (by kernel_rfl) (fun _ _ _ h => h) (Or.inl ⟨by rfl, ?_⟩) hHeld ?_; rotate_left 1
    · (intro w9 hSw; (try dsimp only at hSw); go_simp) <;> with_reducible rfl
    try simp only [Act.put, List.setIfInBounds_toArray, List.set_cons_zero, List.set_cons_succ]
    refine wpAnyH_take (i := 24) (oi := { dst := some 95, op := Go.Op.pick (Go.Operand.tmp 91) (Go.Operand.tmp 94) (Go.Operand.const (Go.Value.bool false)), type := 4, pos := "law.go:35", after := #[{ on := 20, ground := Go.Ground.data }, { on := 23, ground := Go.Ground.data }], guard := none }) (v := ?_) rfl (by kernel_rfl) (by kernel_rfl) (by kernel_rfl) (fun _ _ _ h => h) (Or.inl ⟨by rfl, ?_⟩) hHeld ?_; rotate_left 1
    · (intro w9 hSw; (try dsimp only at hSw); go_simp) <;> with_reducible rfl
    try simp only [Act.put, List.setIfInBounds_toArray, List.set_cons_zero, List.set_cons_succ]
    refine wpAnyH_take (i := 25) (oi := { dst := some 96, op := Go.Op.move (Go.Operand.tmp 95), type := 4, pos := "law.go:35", after := #[{ on := 24, ground := Go.Ground.data }, { on := 20, ground := Go.Ground.chain }], guard := none }) (v := ?_) rfl (by kernel_rfl) (by kernel_rfl) (by kernel_rfl) (fun _ _ _ h => h) (Or.inl ⟨by rfl, ?_⟩) hHeld ?_; rotate_left 1
    · (intro w9 hSw; (try dsimp only at hSw); go_simp) <;> with_reducible rfl
    try simp only [Act.put, List.setIfInBounds_toArray, List.set_cons_zero, List.set_cons_succ]
    refine wpAnyH_take (i := 26) (oi := { dst := some 97, op := Go.Op.move (Go.Operand.tmp 16), type := 26, pos := "law.go:35", after := #[{ on := 25, ground := Go.Ground.guard }], guard := some (25, true) }) (v := ?_) rfl (by kernel_rfl) (by kernel_rfl) (by kernel_rfl) (fun _ _ _ h => h) (Or.inl ⟨by rfl, ?_⟩) hHeld ?_; rotate_left 1
    · (intro w9 hSw; (try dsimp only at hSw); go_simp) <;> with_reducible rfl
    try simp only [Act.put, List.setIfInBounds_toArray, List.set_cons_zero, List.set_cons_succ]
    refine wpAnyH_take (i := 27) (oi := { dst := some 98, op := Go.Op.move (Go.Operand.tmp 5), type := 26, pos := "law.go:35", after := #[{ on := 25, ground := Go.Ground.guard }], guard := some (25, true) }) (v := ?_) rfl (by kernel_rfl) (by kernel_rfl) (by kernel_rfl) (fun _ _ _ h => h) (Or.inl ⟨by rfl, ?_⟩) hHeld ?_; rotate_left 1
    · (intro w9 hSw; (try dsimp only at hSw); go_simp) <;> with_reducible rfl
    try simp only [Act.put, List.setIfInBounds_toArray, List.set_cons_zero, List.set_cons_succ]
    refine wpAnyH_take (i := 28) (oi := { dst := some 99, op := Go.Op.binOp Go.BinOp.eql 26 (Go.Operand.tmp 97) (Go.Operand.tmp 98) 26, type := 4, pos := "law.go:35", after := #[{ on := 26, ground := Go.Ground.data }, { on := 27, ground := Go.Ground.data }, { on := 25, ground := Go.Ground.guard }], guard := some (25, true) }) (v := ?_) rfl (by kernel_rfl) (by kernel_rfl) (by kernel_rfl) (fun _ _ _ h => h) (Or.inl ⟨by rfl, ?_⟩) hHeld ?_; rotate_left 1
    · (intro w9 hSw; (try dsimp only at hSw); go_simp) <;> with_reducible rfl
    try simp only [Act.put, List.setIfInBounds_toArray, List.set_cons_zero, List.set_cons_succ]
    refine wpAnyH_take (i := 29) (oi := { dst := some 100, op := Go.Op.move (Go.Operand.tmp 99), type := 4, pos := "law.go:35", after := #[{ on := 28, ground := Go.Ground.data }, { on := 25, ground := Go.Ground.chain }, { on := 25, ground := Go.Ground.guard }], guard := some (25, true) }) (v := ?_) rfl (by kernel_rfl) (by kernel_rfl) (by kernel_rfl) (fun _ _ _ h => h) (Or.inl ⟨by rfl, ?_⟩) hHeld ?_; rotate_left 1
    · (intro w9 hSw; (try dsimp only at hSw); go_simp) <;> with_reducible rfl
    try simp only [Act.put, List.setIfInBounds_toArray, List.set_cons_zero, List.set_cons_succ]
    refine wpAnyH_take (i := 30) (oi := { dst := some 101, op := Go.Op.move (Go.Operand.tmp 5), type := 26, pos := "law.go:35", after := #[{ on := 29, ground := Go.Ground.guard }], guard := some (29, false) }) (v := undef) rfl (by kernel_rfl) (by kernel_rfl) (by kernel_rfl) (fun _ _ _ h => h) (Or.inr ⟨by rfl, rfl⟩) hHeld ?_
    try simp only [Act.put, List.setIfInBounds_toArray, List.set_cons_zero, List.set_cons_succ]
    refine wpAnyH_take (i := 31) (oi := { dst := some 102, op := Go.Op.binOp Go.BinOp.eql 26 (Go.Operand.tmp 101) (Go.Operand.const (Go.Value.int Go.IntKind.i64 0)) 26, type := 4, pos := "law.go:35", after := #[{ on := 30, ground := Go.Ground.data }, { on := 29, ground := Go.Ground.guard }], guard := some (29, false) }) (v := undef) rfl (by kernel_rfl) (by kernel_rfl) (by kernel_rfl) (fun _ _ _ h => h) (Or.inr ⟨by rfl, rfl⟩) hHeld ?_
    try simp only [Act.put, List.setIfInBounds_toArray, List.set_cons_zero, List.set_cons_succ]
    refine wpAnyH_take (i := 32) (oi := { dst := some 103, op := Go.Op.move (Go.Operand.tmp 102), type := 4, pos := "law.go:35", after := #[{ on := 31, ground := Go.Ground.data }, { on := 29, ground := Go.Ground.chain }, { on := 29, ground := Go.Ground.guard }], guard := some (29, false) }) (v := undef) rfl (by kernel_rfl) (by kernel_rfl) (by kernel_rfl) (fun _ _ _ h => h) (Or.inr ⟨by rfl, rfl⟩) hHeld ?_
    try simp only [Act.put, List.setIfInBounds_toArray, List.set_cons_zero, List.set_cons_succ]
    refine wpAnyH_take (i := 33) (oi := { dst := some 104, op := Go.Op.move (Go.Operand.tmp 16), type := 26, pos := "law.go:35", after := #[{ on := 32, ground := Go.Ground.guard }], guard := some (32, true) }) (v := undef) rfl (by kernel_rfl) (by kernel_rfl) (by kernel_rfl) (fun _ _ _ h => h) (Or.inr ⟨by rfl, rfl⟩) hHeld ?_
    try simp only [Act.put, List.setIfInBounds_toArray, List.set_cons_zero, List.set_cons_succ]
    refine wpAnyH_take (i := 34) (oi := { dst := some 105, op := Go.Op.binOp Go.BinOp.eql 26 (Go.Operand.tmp 104) (Go.Operand.const (Go.Value.int Go.IntKind.i64 3)) 26, type := 4, pos := "law.go:35", after := #[{ on := 33, ground := Go.Ground.data }, { on := 32, ground := Go.Ground.guard }], guard := some (32, true) }) (v := undef) rfl (by kernel_rfl) (by kernel_rfl) (by kernel_rfl) (fun _ _ _ h => h) (Or.inr ⟨by rfl, rfl⟩) hHeld ?_
    try simp only [Act.put, List.setIfInBounds_toArray, List.set_cons_zero, List.set_cons_succ]
    refine wpAnyH_take (i := 35) (oi := { dst := some 106, op := Go.Op.pick (Go.Operand.tmp 103) (Go.Operand.tmp 105) (Go.Operand.const (Go.Value.bool false)), type := 4, pos := "law.go:35", after := #[{ on := 32, ground := Go.Ground.data }, { on := 34, ground := Go.Ground.data }, { on := 29, ground := Go.Ground.guard }], guard := some (29, false) }) (v := undef) rfl (by kernel_rfl) (by kernel_rfl) (by kernel_rfl) (fun _ _ _ h => h) (Or.inr ⟨by rfl, rfl⟩) hHeld ?_
    try simp only [Act.put, List.setIfInBounds_toArray, List.set_cons_zero, List.set_cons_succ]
    refine wpAnyH_take (i := 36) (oi := { dst := some 107, op := Go.Op.pick (Go.Operand.tmp 100) (Go.Operand.const (Go.Value.bool true)) (Go.Operand.tmp 106), type := 4, pos := "law.go:35", after := #[{ on := 29, ground := Go.Ground.data }, { on := 35, ground := Go.Ground.data }, { on := 25, ground := Go.Ground.guard }], guard := some (25, true) }) (v := ?_) rfl (by kernel_rfl) (by kernel_rfl) (by kernel_rfl) (fun _ _ _ h => h) (Or.inl ⟨by rfl, ?_⟩) hHeld ?_; rotate_left 1
    · (intro w9 hSw; (try dsimp only at hSw); go_simp) <;> with_reducible rfl
    try simp only [Act.put, List.setIfInBounds_toArray, List.set_cons_zero, List.set_cons_succ]
    refine wpAnyH_take (i := 37) (oi := { dst := some 108, op := Go.Op.pick (Go.Operand.tmp 96) (Go.Operand.tmp 107) (Go.Operand.const (Go.Value.bool false)), type := 4, pos := "law.go:35", after := #[{ on := 25, ground := Go.Ground.data }, { on := 36, ground := Go.Ground.data }], guard := none }) (v := ?_) rfl (by kernel_rfl) (by kernel_rfl) (by kernel_rfl) (fun _ _ _ h => h) (Or.inl ⟨by rfl, ?_⟩) hHeld ?_; rotate_left 1
    · (intro w9 hSw; (try dsimp only at hSw); go_simp) <;> with_reducible rfl
    try simp only [Act.put, List.setIfInBounds_toArray, List.set_cons_zero, List.set_cons_succ]
    refine wpAnyH_take (i := 38) (oi := { dst := some 109, op := Go.Op.move (Go.Operand.tmp 108), type := 4, pos := "law.go:35", after := #[{ on := 37, ground := Go.Ground.data }, { on := 32, ground := Go.Ground.chain }], guard := none }) (v := ?_) rfl (by kernel_rfl) (by kernel_rfl) (by kernel_rfl) (fun _ _ _ h => h) (Or.inl ⟨by rfl, ?_⟩) hHeld ?_; rotate_left 1
    · (intro w9 hSw; (try dsimp only at hSw); go_simp) <;> with_reducible rfl
    try simp only [Act.put, List.setIfInBounds_toArray, List.set_cons_zero, List.set_cons_succ]
    refine wpAnyH_take (i := 39) (oi := { dst := some 110, op := Go.Op.move (Go.Operand.tmp 18), type := 26, pos := "law.go:35", after := #[{ on := 38, ground := Go.Ground.guard }], guard := some (38, true) }) (v := ?_) rfl (by kernel_rfl) (by kernel_rfl) (by kernel_rfl) (fun _ _ _ h => h) (Or.inl ⟨by rfl, ?_⟩) hHeld ?_; rotate_left 1
    · (intro w9 hSw; (try dsimp only at hSw); go_simp) <;> with_reducible rfl
    try simp only [Act.put, List.setIfInBounds_toArray, List.set_cons_zero, List.set_cons_succ]
    refine wpAnyH_take (i := 40) (oi := { dst := some 111, op := Go.Op.move (Go.Operand.tmp 5), type := 26, pos := "law.go:35", after := #[{ on := 38, ground := Go.Ground.guard }], guard := some (38, true) }) (v := ?_) rfl (by kernel_rfl) (by kernel_rfl) (by kernel_rfl) (fun _ _ _ h => h) (Or.inl ⟨by rfl, ?_⟩) hHeld ?_; rotate_left 1
    · (intro w9 hSw; (try dsimp only at hSw); go_simp) <;> with_reducible rfl
    try simp only [Act.put, List.setIfInBounds_toArray, List.set_cons_zero, List.set_cons_succ]
    refine wpAnyH_take (i := 41) (oi := { dst := some 112, op := Go.Op.binOp Go.BinOp.eql 26 (Go.Operand.tmp 110) (Go.Operand.tmp 111) 26, type := 4, pos := "law.go:35", after := #[{ on := 39, ground := Go.Ground.data }, { on := 40, ground := Go.Ground.data }, { on := 38, ground := Go.Ground.guard }], guard := some (38, true) }) (v := ?_) rfl (by kernel_rfl) (by kernel_rfl) (by kernel_rfl) (fun _ _ _ h => h) (Or.inl ⟨by rfl, ?_⟩) hHeld ?_; rotate_left 1
    · (intro w9 hSw; (try dsimp only at hSw); go_simp) <;> with_reducible rfl
    try simp only [Act.put, List.setIfInBounds_toArray, List.set_cons_zero, List.set_cons_succ]
    refine wpAnyH_take (i := 42) (oi := { dst := some 113, op := Go.Op.pick (Go.Operand.tmp 109) (Go.Operand.tmp 112) (Go.Operand.const (Go.Value.bool false)), type := 4, pos := "law.go:35", after := #[{ on := 38, ground := Go.Ground.data }, { on := 41, ground := Go.Ground.data }], guard := none }) (v := ?_) rfl (by kernel_rfl) (by kernel_rfl) (by kernel_rfl) (fun _ _ _ h => h) (Or.inl ⟨by rfl, ?_⟩) hHeld ?_; rotate_left 1
    · (intro w9 hSw; (try dsimp only at hSw); go_simp) <;> with_reducible rfl
    try simp only [Act.put, List.setIfInBounds_toArray, List.set_cons_zero, List.set_cons_succ]
    refine wpAnyH_take (i := 43) (oi := { dst := some 114, op := Go.Op.move (Go.Operand.tmp 113), type := 4, pos := "law.go:35", after := #[{ on := 42, ground := Go.Ground.data }, { on := 38, ground := Go.Ground.chain }], guard := none }) (v := ?_) rfl (by kernel_rfl) (by kernel_rfl) (by kernel_rfl) (fun _ _ _ h => h) (Or.inl ⟨by rfl, ?_⟩) hHeld ?_; rotate_left 1
    · (intro w9 hSw; (try dsimp only at hSw); go_simp) <;> with_reducible rfl
    try simp only [Act.put, List.setIfInBounds_toArray, List.set_cons_zero, List.set_cons_succ]
    refine wpAnyH_take (i := 44) (oi := { dst := some 115, op := Go.Op.move (Go.Operand.tmp 20), type := 26, pos := "law.go:35", after := #[{ on := 43, ground := Go.Ground.guard }], guard := some (43, true) }) (v := ?_) rfl (by kernel_rfl) (by kernel_rfl) (by kernel_rfl) (fun _ _ _ h => h) (Or.inl ⟨by rfl, ?_⟩) hHeld ?_; rotate_left 1
    · (intro w9 hSw; (try dsimp only at hSw); go_simp) <;> with_reducible rfl
    try simp only [Act.put, List.setIfInBounds_toArray, List.set_cons_zero, List.set_cons_succ]
    refine wpAnyH_take (i := 45) (oi := { dst := some 116, op := Go.Op.load 24 (Go.Operand.tmp 2), type := 24, pos := "law.go:35", after := #[{ on := 43, ground := Go.Ground.guard }], guard := some (43, true) }) (v := ?_) rfl (by kernel_rfl) (by kernel_rfl) (by kernel_rfl) (fun _ _ _ h => h) (Or.inl ⟨by rfl, ?_⟩) hHeld ?_; rotate_left 1
    · (intro w9 hSw; (try dsimp only at hSw); go_simp) <;> with_reducible rfl
    try simp only [Act.put, List.setIfInBounds_toArray, List.set_cons_zero, List.set_cons_succ]
    refine wpAnyH_ready (rs := [46]) (by kernel_rfl) (by simp) ?_
    refine AllReadyH.cons (o := { dst := some 117, op := Go.Op.call { callee := Go.Callee.value (Go.Operand.func 24), args := #[Go.Operand.tmp 116], argTypes := #[24] }, type := 26, pos := "law.go:35", after := #[{ on := 45, ground := Go.Ground.data }, { on := 43, ground := Go.Ground.chain }, { on := 43, ground := Go.Ground.guard }], guard := some (43, true) }) rfl (fun K hK => ?_) AllReadyH.nil
    go_simp
    refine (H9.out _).mono ?_
    rintro e wn ⟨rfl, hbr⟩
    have hHeld := ch_step hbr hHeld
    clear hbr
    try go_wp2_with fail
    refine hK.out _ _ hHeld (fun _ => ?_)
    clear hK K
    try simp only [Act.put, List.setIfInBounds_toArray, List.set_cons_zero, List.set_cons_succ]
    refine wpAnyH_take (i := 47) (oi := { dst := some 118, op := Go.Op.binOp Go.BinOp.eql 26 (Go.Operand.tmp 115) (Go.Operand.tmp 117) 26, type := 4, pos := "law.go:35", after := #[{ on := 44, ground := Go.Ground.data }, { on := 46, ground := Go.Ground.data }, { on := 43, ground := Go.Ground.guard }], guard := some (43, true) }) (v := ?_) rfl (by kernel_rfl) (by kernel_rfl) (by kernel_rfl) (fun _ _ _ h => h) (Or.inl ⟨by rfl, ?_⟩) hHeld ?_; rotate_left 1
    · (intro w9 hSw; (try dsimp only at hSw); go_simp) <;> with_reducible rfl
    try simp only [Act.put, List.setIfInBounds_toArray, List.set_cons_zero, List.set_cons_succ]
    refine wpAnyH_take (i := 48) (oi := { dst := some 119, op := Go.Op.pick (Go.Operand.tmp 114) (Go.Operand.tmp 118) (Go.Operand.const (Go.Value.bool false)), type := 4, pos := "law.go:35", after := #[{ on := 43, ground := Go.Ground.data }, { on := 47, ground := Go.Ground.data }], guard := none }) (v := ?_) rfl (by kernel_rfl) (by kernel_rfl) (by kernel_rfl) (fun _ _ _ h => h) (Or.inl ⟨by rfl, ?_⟩) hHeld ?_; rotate_left 1
    · (intro w9 hSw; (try dsimp only at hSw); go_simp) <;> with_reducible rfl
    try simp only [Act.put, List.setIfInBounds_toArray, List.set_cons_zero, List.set_cons_succ]
    refine wpAnyH_take (i := 49) (oi := { dst := some 120, op := Go.Op.move (Go.Operand.tmp 119), type := 4, pos := "law.go:35", after := #[{ on := 48, ground := Go.Ground.data }, { on := 46, ground := Go.Ground.chain }], guard := none }) (v := ?_) rfl (by kernel_rfl) (by kernel_rfl) (by kernel_rfl) (fun _ _ _ h => h) (Or.inl ⟨by rfl, ?_⟩) hHeld ?_; rotate_left 1
    · (intro w9 hSw; (try dsimp only at hSw); go_simp) <;> with_reducible rfl
    try simp only [Act.put, List.setIfInBounds_toArray, List.set_cons_zero, List.set_cons_succ]
    refine wpAnyH_ready (rs := [50]) (by kernel_rfl) (by simp) ?_
    refine AllReadyH.cons (o := { dst := some 121, op := Go.Op.call { callee := Go.Callee.value (Go.Operand.func 12), args := #[], argTypes := #[] }, type := 4, pos := "law.go:35", after := #[{ on := 49, ground := Go.Ground.chain }, { on := 49, ground := Go.Ground.guard }], guard := some (49, true) }) rfl (fun K hK => ?_) AllReadyH.nil
    go_simp
    refine (HLV.out _).mono ?_
    rintro e wn ⟨rfl, hbr⟩
    have hHeld := ch_step hbr hHeld
    clear hbr
    try go_wp2_with fail
    refine hK.out _ _ hHeld (fun _ => ?_)
    clear hK K
    try simp only [Act.put, List.setIfInBounds_toArray, List.set_cons_zero, List.set_cons_succ]
    refine wpAnyH_take (i := 51) (oi := { dst := some 122, op := Go.Op.pick (Go.Operand.tmp 120) (Go.Operand.tmp 121) (Go.Operand.const (Go.Value.bool false)), type := 4, pos := "law.go:35", after := #[{ on := 49, ground := Go.Ground.data }, { on := 50, ground := Go.Ground.data }], guard := none }) (v := ?_) rfl (by kernel_rfl) (by kernel_rfl) (by kernel_rfl) (fun _ _ _ h => h) (Or.inl ⟨by rfl, ?_⟩) hHeld ?_; rotate_left 1
    · (intro w9 hSw; (try dsimp only at hSw); go_simp) <;> with_reducible rfl
    try simp only [Act.put, List.setIfInBounds_toArray, List.set_cons_zero, List.set_cons_succ]
    refine wpAnyH_take (i := 52) (oi := { dst := some 4, op := Go.Op.assign (Go.Operand.tmp 122), type := 4, pos := "law.go:35", after := #[{ on := 51, ground := Go.Ground.data }, { on := 50, ground := Go.Ground.chain }, { on := 0, ground := Go.Ground.phase }, { on := 1, ground := Go.Ground.phase }, { on := 2, ground := Go.Ground.phase }, { on := 3, ground := Go.Ground.phase }, { on := 4, ground := Go.Ground.phase }, { on := 5, ground := Go.Ground.phase }, { on := 6, ground := Go.Ground.phase }, { on := 7, ground := Go.Ground.phase }, { on := 8, ground := Go.Ground.phase }, { on := 9, ground := Go.Ground.phase }, { on := 10, ground := Go.Ground.phase }, { on := 11, ground := Go.Ground.phase }, { on := 12, ground := Go.Ground.phase }, { on := 13, ground := Go.Ground.phase }, { on := 14, ground := Go.Ground.phase }, { on := 15, ground := Go.Ground.phase }, { on := 16, ground := Go.Ground.phase }, { on := 17, ground := Go.Ground.phase }, { on := 18, ground := Go.Ground.phase }, { on := 19, ground := Go.Ground.phase }, { on := 20, ground := Go.Ground.phase }, { on := 21, ground := Go.Ground.phase }, { on := 22, ground := Go.Ground.phase }, { on := 23, ground := Go.Ground.phase }, { on := 24, ground := Go.Ground.phase }, { on := 25, ground := Go.Ground.phase }, { on := 26, ground := Go.Ground.phase }, { on := 27, ground := Go.Ground.phase }, { on := 28, ground := Go.Ground.phase }, { on := 29, ground := Go.Ground.phase }, { on := 30, ground := Go.Ground.phase }, { on := 31, ground := Go.Ground.phase }, { on := 32, ground := Go.Ground.phase }, { on := 33, ground := Go.Ground.phase }, { on := 34, ground := Go.Ground.phase }, { on := 35, ground := Go.Ground.phase }, { on := 36, ground := Go.Ground.phase }, { on := 37, ground := Go.Ground.phase }, { on := 38, ground := Go.Ground.phase }, { on := 39, ground := Go.Ground.phase }, { on := 40, ground := Go.Ground.phase }, { on := 41, ground := Go.Ground.phase }, { on := 42, ground := Go.Ground.phase }, { on := 43, ground := Go.Ground.phase }, { on := 44, ground := Go.Ground.phase }, { on := 45, ground := Go.Ground.phase }, { on := 46, ground := Go.Ground.phase }, { on := 47, ground := Go.Ground.phase }, { on := 48, ground := Go.Ground.phase }, { on := 49, ground := Go.Ground.phase }, { on := 50, ground := Go.Ground.phase }, { on := 51, ground := Go.Ground.phase }], guard := none }) (v := ?_) rfl (by kernel_rfl) (by kernel_rfl) (by kernel_rfl) (fun _ _ _ h => h) (Or.inl ⟨by rfl, ?_⟩) hHeld ?_; rotate_left 1
    · (intro w9 hSw; (try dsimp only at hSw); go_simp) <;> with_reducible rfl
    try simp only [Act.put, List.setIfInBounds_toArray, List.set_cons_zero, List.set_cons_succ]
    refine wpAnyH_done (by kernel_rfl) ?_ _
    go_wp2
    go_meet
    exact ⟨rfl, hHeld⟩
  case rest =>
    obtain ⟨rfl, hSc⟩ := hcut
    obtain ⟨m0_0, m0_1, hbc⟩ := hSc
    clear f0_0 f0_1
    have HB := Lib.hid hbc
    have f0_0 := m0_0; have f0_1 := m0_1; have HL0 := Lib.hid (World.block_lt_of_cell? _ _ f0_0)
    clear m0_0 m0_1 hbc HSC10
    go_wp2
    go_ret
    exact ⟨rfl, HB.out⟩

set_option maxHeartbeats 4000000 in
set_option maxRecDepth 100000 in
theorem checks_z (aB bB : Bool) (aS bS : ByteArray) (HS : Hid (∀ w, Calls Tryd.prog 10 #[.agg #[.bool aB, .string aS], .agg #[.bool bB, .string bS]] w fun e w' => e = .returned (.bool true) ∧ Below w.heap.size w w')) (sB dB pB qB rB gB : Bool) (sS dS pS qS rS gS tS : ByteArray) (c EA : Int) (HE : Hid (∀ w, Calls Tryd.prog 11 #[.agg #[.bool aB, .string aS], .agg #[.bool bB, .string bS]] w fun e w' => e = .returned (.int .i64 0) ∧ Below w.heap.size w w')) (H1 : Hid (∀ w, Calls Tryd.prog 30 #[.agg #[.bool aB, .string aS], .agg #[.bool bB, .string bS]] w fun e w' => e = .returned (.tuple #[.int .i64 c, .int .i64 0]) ∧ Below w.heap.size w w')) (H2 : Hid (∀ w, Calls Tryd.prog 27 #[.agg #[.bool aB, .string aS], .agg #[.bool bB, .string bS]] w fun e w' => e = .returned (.tuple #[.agg #[.bool sB, .string sS], .int .i64 0]) ∧ Below w.heap.size w w')) (H3 : Hid (∀ w, Calls Tryd.prog 29 #[.agg #[.bool aB, .string aS], .agg #[.bool bB, .string bS]] w fun e w' => e = .returned (.tuple #[.agg #[.bool dB, .string dS], .int .i64 0]) ∧ Below w.heap.size w w')) (H4 : Hid (∀ w, Calls Tryd.prog 28 #[.agg #[.bool aB, .string aS], .agg #[.bool bB, .string bS]] w fun e w' => e = .returned (.tuple #[.agg #[.bool pB, .string pS], .int .i64 0]) ∧ Below w.heap.size w w')) (H5 : Hid (∀ w, Calls Tryd.prog 13 #[.agg #[.bool aB, .string aS], .agg #[.bool bB, .string bS]] w fun e w' => e = .returned (.tuple #[.agg #[.bool qB, .string qS], .agg #[.bool rB, .string rS], .int .i64 3]) ∧ Below w.heap.size w w')) (H6 : Hid (∀ w, Calls Tryd.prog 18 #[.agg #[.bool aB, .string aS], .agg #[.bool bB, .string bS]] w fun e w' => e = .returned (.tuple #[.agg #[.bool gB, .string gS], .int .i64 0]) ∧ Below w.heap.size w w')) (H7 : Hid (∀ w, Calls Tryd.prog 25 #[.agg #[.bool aB, .string aS]] w fun e w' => e = .returned (.tuple #[.string tS, .int .i64 EA]) ∧ Below w.heap.size w w')) (H8 : Hid (∀ w, Calls Tryd.prog 31 #[.agg #[.bool aB, .string aS]] w fun e w' => e = .returned (.int .i64 EA) ∧ Below w.heap.size w w')) (H9 : Hid (∀ w, Calls Tryd.prog 24 #[.agg #[.bool aB, .string aS]] w fun e w' => e = .returned (.int .i64 EA) ∧ Below w.heap.size w w')) (w : World) :
    Calls Tryd.prog 9 #[.agg #[.bool aB, .string aS], .agg #[.bool bB, .string bS]] w fun e w' => e = .returned (.bool true) ∧ Below w.heap.size w w' := by
  obtain ⟨W0, hW0⟩ : ∃ W0, W0 = (w.alloc (.cells #[.bool aB, .string aS] 24)).alloc (.cells #[.bool bB, .string bS] 24) := ⟨_, rfl⟩
  have hB0 : Below w.heap.size w W0 := by rw [hW0]; exact ((Below.refl _ _).alloc (by simp; try omega) _).alloc (by simp; try omega) _
  have f0_0 : W0.cell? ⟨w.heap.size, 0, none⟩ = some (.bool aB) := by rw [hW0]; simp [go_sem]
  have f0_1 : W0.cell? ⟨w.heap.size, 1, none⟩ = some (.string aS) := by rw [hW0]; simp [go_sem]
  have f1_0 : W0.cell? ⟨w.heap.size + 1, 0, none⟩ = some (.bool bB) := by rw [hW0]; simp [go_sem]
  have f1_1 : W0.cell? ⟨w.heap.size + 1, 1, none⟩ = some (.string bS) := by rw [hW0]; simp [go_sem]
  have hZ0 : W0.heap.size = w.heap.size + 2 := by rw [hW0]; simp
  have HL0 := Lib.hid (show w.heap.size < W0.heap.size by rw [hZ0]; omega)
  have HL1 := Lib.hid (show w.heap.size + 1 < W0.heap.size by rw [hZ0]; omega)
  have HW0 := Lib.hid hW0
  have HB := Lib.hid hB0
  clear hB0 hZ0 hW0
  have HLV := Lib.hid live_c
  go_enter Tryd.func9, Tryd.ntmps9
  go_wp2_with fail
  rw [← HW0.out]
  refine (HS.out _).mono ?_
  rintro e w1 ⟨rfl, hb1⟩
  have hB1 : Below W0.heap.size W0 (w1) := hb1
  have n0_0 := (hB1.cell (p := ⟨w.heap.size, 0, none⟩) HL0.out).trans f0_0
  have n0_1 := (hB1.cell (p := ⟨w.heap.size, 1, none⟩) HL0.out).trans f0_1
  have n1_0 := (hB1.cell (p := ⟨w.heap.size + 1, 0, none⟩) HL1.out).trans f1_0
  have n1_1 := (hB1.cell (p := ⟨w.heap.size + 1, 1, none⟩) HL1.out).trans f1_1
  clear f0_0 f0_1 f1_0 f1_1
  have HX1 := Lib.hid hB1
  have HY1 := Lib.hid hb1.size
  clear hB1 hb1
  go_wp2_with fail
  have HL0 := Lib.hid (Nat.lt_of_lt_of_le HL0.out HX1.out.size)
  have HL1 := Lib.hid (Nat.lt_of_lt_of_le HL1.out HX1.out.size)
  have HB := Lib.hid (HB.out.trans (HX1.out.mono HB.out.size))
  clear HX1
  have f0_0 := n0_0
  have f0_1 := n0_1
  have f1_0 := n1_0
  have f1_1 := n1_1
  clear n0_0 n0_1 n1_0 n1_1
  refine (HE.out _).mono ?_
  rintro e w2 ⟨rfl, hb2⟩
  have hB2 : Below w1.heap.size w1 (w2) := hb2
  have n0_0 := (hB2.cell (p := ⟨w.heap.size, 0, none⟩) HL0.out).trans f0_0
  have n0_1 := (hB2.cell (p := ⟨w.heap.size, 1, none⟩) HL0.out).trans f0_1
  have n1_0 := (hB2.cell (p := ⟨w.heap.size + 1, 0, none⟩) HL1.out).trans f1_0
  have n1_1 := (hB2.cell (p := ⟨w.heap.size + 1, 1, none⟩) HL1.out).trans f1_1
  clear f0_0 f0_1 f1_0 f1_1
  have HX2 := Lib.hid hB2
  have HY2 := Lib.hid hb2.size
  clear hB2 hb2
  go_wp2_with fail
  have HL0 := Lib.hid (Nat.lt_of_lt_of_le HL0.out HX2.out.size)
  have HL1 := Lib.hid (Nat.lt_of_lt_of_le HL1.out HX2.out.size)
  have HB := Lib.hid (HB.out.trans (HX2.out.mono HB.out.size))
  clear HX2
  have f0_0 := n0_0
  have f0_1 := n0_1
  have f1_0 := n1_0
  have f1_1 := n1_1
  clear n0_0 n0_1 n1_0 n1_1
  refine (H1.out _).mono ?_
  rintro e w3 ⟨rfl, hb3⟩
  have hB3 : Below w2.heap.size w2 (w3) := hb3
  have n0_0 := (hB3.cell (p := ⟨w.heap.size, 0, none⟩) HL0.out).trans f0_0
  have n0_1 := (hB3.cell (p := ⟨w.heap.size, 1, none⟩) HL0.out).trans f0_1
  have n1_0 := (hB3.cell (p := ⟨w.heap.size + 1, 0, none⟩) HL1.out).trans f1_0
  have n1_1 := (hB3.cell (p := ⟨w.heap.size + 1, 1, none⟩) HL1.out).trans f1_1
  clear f0_0 f0_1 f1_0 f1_1
  have HX3 := Lib.hid hB3
  have HY3 := Lib.hid hb3.size
  clear hB3 hb3
  go_wp2_with fail
  have HL0 := Lib.hid (Nat.lt_of_lt_of_le HL0.out HX3.out.size)
  have HL1 := Lib.hid (Nat.lt_of_lt_of_le HL1.out HX3.out.size)
  have HB := Lib.hid (HB.out.trans (HX3.out.mono HB.out.size))
  clear HX3
  have f0_0 := n0_0
  have f0_1 := n0_1
  have f1_0 := n1_0
  have f1_1 := n1_1
  clear n0_0 n0_1 n1_0 n1_1
  refine (H2.out _).mono ?_
  rintro e w4 ⟨rfl, hb4⟩
  have hB4 : Below w3.heap.size w3 (w4.alloc (.cells #[.bool sB, .string sS] 24)) := ((hb4).alloc (by have := hb4.size; simp; try omega) _)
  have n0_0 := (hB4.cell (p := ⟨w.heap.size, 0, none⟩) HL0.out).trans f0_0
  have n0_1 := (hB4.cell (p := ⟨w.heap.size, 1, none⟩) HL0.out).trans f0_1
  have n1_0 := (hB4.cell (p := ⟨w.heap.size + 1, 0, none⟩) HL1.out).trans f1_0
  have n1_1 := (hB4.cell (p := ⟨w.heap.size + 1, 1, none⟩) HL1.out).trans f1_1
  have n2_0 : (w4.alloc (.cells #[.bool sB, .string sS] 24)).cell? ⟨w4.heap.size, 0, none⟩ = some (.bool sB) := by simp [go_sem]
  have n2_1 : (w4.alloc (.cells #[.bool sB, .string sS] 24)).cell? ⟨w4.heap.size, 1, none⟩ = some (.string sS) := by simp [go_sem]
  clear f0_0 f0_1 f1_0 f1_1
  have HX4 := Lib.hid hB4
  have HY4 := Lib.hid hb4.size
  clear hB4 hb4
  go_wp2_with fail
  obtain ⟨W4, hW4⟩ : ∃ W4, W4 = w4.alloc (.cells #[.bool sB, .string sS] 24) := ⟨_, rfl⟩
  have hZ4 : W4.heap.size = w4.heap.size + 1 := by rw [hW4]; simp
  rw [← hW4] at HX4 ⊢
  rw [← hW4] at n0_0 n0_1
  rw [← hW4] at n1_0 n1_1
  rw [← hW4] at n2_0 n2_1
  obtain ⟨g4, hg4⟩ : ∃ g4, w4.heap.size = g4 := ⟨_, rfl⟩
  rw [hg4] at n2_0 n2_1
  rw [hg4] at hZ4 HY4 ⊢
  clear hW4 hg4
  have HL0 := Lib.hid (Nat.lt_of_lt_of_le HL0.out HX4.out.size)
  have HL1 := Lib.hid (Nat.lt_of_lt_of_le HL1.out HX4.out.size)
  have HL2 := Lib.hid (show g4 < W4.heap.size by rw [hZ4]; omega)
  clear hZ4 HY4
  have HB := Lib.hid (HB.out.trans (HX4.out.mono HB.out.size))
  clear HX4
  have f0_0 := n0_0
  have f0_1 := n0_1
  have f1_0 := n1_0
  have f1_1 := n1_1
  have f2_0 := n2_0
  have f2_1 := n2_1
  clear n0_0 n0_1 n1_0 n1_1 n2_0 n2_1
  refine (H3.out _).mono ?_
  rintro e w5 ⟨rfl, hb5⟩
  have hB5 : Below W4.heap.size W4 (w5.alloc (.cells #[.bool dB, .string dS] 24)) := ((hb5).alloc (by have := hb5.size; simp; try omega) _)
  have n0_0 := (hB5.cell (p := ⟨w.heap.size, 0, none⟩) HL0.out).trans f0_0
  have n0_1 := (hB5.cell (p := ⟨w.heap.size, 1, none⟩) HL0.out).trans f0_1
  have n1_0 := (hB5.cell (p := ⟨w.heap.size + 1, 0, none⟩) HL1.out).trans f1_0
  have n1_1 := (hB5.cell (p := ⟨w.heap.size + 1, 1, none⟩) HL1.out).trans f1_1
  have n2_0 := (hB5.cell (p := ⟨g4, 0, none⟩) HL2.out).trans f2_0
  have n2_1 := (hB5.cell (p := ⟨g4, 1, none⟩) HL2.out).trans f2_1
  have n3_0 : (w5.alloc (.cells #[.bool dB, .string dS] 24)).cell? ⟨w5.heap.size, 0, none⟩ = some (.bool dB) := by simp [go_sem]
  have n3_1 : (w5.alloc (.cells #[.bool dB, .string dS] 24)).cell? ⟨w5.heap.size, 1, none⟩ = some (.string dS) := by simp [go_sem]
  clear f0_0 f0_1 f1_0 f1_1 f2_0 f2_1
  have HX5 := Lib.hid hB5
  have HY5 := Lib.hid hb5.size
  clear hB5 hb5
  go_wp2_with fail
  obtain ⟨W5, hW5⟩ : ∃ W5, W5 = w5.alloc (.cells #[.bool dB, .string dS] 24) := ⟨_, rfl⟩
  have hZ5 : W5.heap.size = w5.heap.size + 1 := by rw [hW5]; simp
  rw [← hW5] at HX5 ⊢
  rw [← hW5] at n0_0 n0_1
  rw [← hW5] at n1_0 n1_1
  rw [← hW5] at n2_0 n2_1
  rw [← hW5] at n3_0 n3_1
  obtain ⟨g5, hg5⟩ : ∃ g5, w5.heap.size = g5 := ⟨_, rfl⟩
  rw [hg5] at n3_0 n3_1
  rw [hg5] at hZ5 HY5 ⊢
  clear hW5 hg5
  have HL0 := Lib.hid (Nat.lt_of_lt_of_le HL0.out HX5.out.size)
  have HL1 := Lib.hid (Nat.lt_of_lt_of_le HL1.out HX5.out.size)
  have HL2 := Lib.hid (Nat.lt_of_lt_of_le HL2.out HX5.out.size)
  have HL3 := Lib.hid (show g5 < W5.heap.size by rw [hZ5]; omega)
  clear hZ5 HY5
  have HB := Lib.hid (HB.out.trans (HX5.out.mono HB.out.size))
  clear HX5
  have f0_0 := n0_0
  have f0_1 := n0_1
  have f1_0 := n1_0
  have f1_1 := n1_1
  have f2_0 := n2_0
  have f2_1 := n2_1
  have f3_0 := n3_0
  have f3_1 := n3_1
  clear n0_0 n0_1 n1_0 n1_1 n2_0 n2_1 n3_0 n3_1
  refine (H4.out _).mono ?_
  rintro e w6 ⟨rfl, hb6⟩
  have hB6 : Below W5.heap.size W5 (w6.alloc (.cells #[.bool pB, .string pS] 24)) := ((hb6).alloc (by have := hb6.size; simp; try omega) _)
  have n0_0 := (hB6.cell (p := ⟨w.heap.size, 0, none⟩) HL0.out).trans f0_0
  have n0_1 := (hB6.cell (p := ⟨w.heap.size, 1, none⟩) HL0.out).trans f0_1
  have n1_0 := (hB6.cell (p := ⟨w.heap.size + 1, 0, none⟩) HL1.out).trans f1_0
  have n1_1 := (hB6.cell (p := ⟨w.heap.size + 1, 1, none⟩) HL1.out).trans f1_1
  have n2_0 := (hB6.cell (p := ⟨g4, 0, none⟩) HL2.out).trans f2_0
  have n2_1 := (hB6.cell (p := ⟨g4, 1, none⟩) HL2.out).trans f2_1
  have n3_0 := (hB6.cell (p := ⟨g5, 0, none⟩) HL3.out).trans f3_0
  have n3_1 := (hB6.cell (p := ⟨g5, 1, none⟩) HL3.out).trans f3_1
  have n4_0 : (w6.alloc (.cells #[.bool pB, .string pS] 24)).cell? ⟨w6.heap.size, 0, none⟩ = some (.bool pB) := by simp [go_sem]
  have n4_1 : (w6.alloc (.cells #[.bool pB, .string pS] 24)).cell? ⟨w6.heap.size, 1, none⟩ = some (.string pS) := by simp [go_sem]
  clear f0_0 f0_1 f1_0 f1_1 f2_0 f2_1 f3_0 f3_1
  have HX6 := Lib.hid hB6
  have HY6 := Lib.hid hb6.size
  clear hB6 hb6
  go_wp2_with fail
  obtain ⟨W6, hW6⟩ : ∃ W6, W6 = w6.alloc (.cells #[.bool pB, .string pS] 24) := ⟨_, rfl⟩
  have hZ6 : W6.heap.size = w6.heap.size + 1 := by rw [hW6]; simp
  rw [← hW6] at HX6 ⊢
  rw [← hW6] at n0_0 n0_1
  rw [← hW6] at n1_0 n1_1
  rw [← hW6] at n2_0 n2_1
  rw [← hW6] at n3_0 n3_1
  rw [← hW6] at n4_0 n4_1
  obtain ⟨g6, hg6⟩ : ∃ g6, w6.heap.size = g6 := ⟨_, rfl⟩
  rw [hg6] at n4_0 n4_1
  rw [hg6] at hZ6 HY6 ⊢
  clear hW6 hg6
  have HL0 := Lib.hid (Nat.lt_of_lt_of_le HL0.out HX6.out.size)
  have HL1 := Lib.hid (Nat.lt_of_lt_of_le HL1.out HX6.out.size)
  have HL2 := Lib.hid (Nat.lt_of_lt_of_le HL2.out HX6.out.size)
  have HL3 := Lib.hid (Nat.lt_of_lt_of_le HL3.out HX6.out.size)
  have HL4 := Lib.hid (show g6 < W6.heap.size by rw [hZ6]; omega)
  clear hZ6 HY6
  have HB := Lib.hid (HB.out.trans (HX6.out.mono HB.out.size))
  clear HX6
  have f0_0 := n0_0
  have f0_1 := n0_1
  have f1_0 := n1_0
  have f1_1 := n1_1
  have f2_0 := n2_0
  have f2_1 := n2_1
  have f3_0 := n3_0
  have f3_1 := n3_1
  have f4_0 := n4_0
  have f4_1 := n4_1
  clear n0_0 n0_1 n1_0 n1_1 n2_0 n2_1 n3_0 n3_1 n4_0 n4_1
  refine (H5.out _).mono ?_
  rintro e w7 ⟨rfl, hb7⟩
  have hB7 : Below W6.heap.size W6 ((w7.alloc (.cells #[.bool qB, .string qS] 24)).alloc (.cells #[.bool rB, .string rS] 24)) := ((((hb7).alloc (by have := hb7.size; simp; try omega) _)).alloc (by have := hb7.size; simp; try omega) _)
  have n0_0 := (hB7.cell (p := ⟨w.heap.size, 0, none⟩) HL0.out).trans f0_0
  have n0_1 := (hB7.cell (p := ⟨w.heap.size, 1, none⟩) HL0.out).trans f0_1
  have n1_0 := (hB7.cell (p := ⟨w.heap.size + 1, 0, none⟩) HL1.out).trans f1_0
  have n1_1 := (hB7.cell (p := ⟨w.heap.size + 1, 1, none⟩) HL1.out).trans f1_1
  have n2_0 := (hB7.cell (p := ⟨g4, 0, none⟩) HL2.out).trans f2_0
  have n2_1 := (hB7.cell (p := ⟨g4, 1, none⟩) HL2.out).trans f2_1
  have n3_0 := (hB7.cell (p := ⟨g5, 0, none⟩) HL3.out).trans f3_0
  have n3_1 := (hB7.cell (p := ⟨g5, 1, none⟩) HL3.out).trans f3_1
  have n4_0 := (hB7.cell (p := ⟨g6, 0, none⟩) HL4.out).trans f4_0
  have n4_1 := (hB7.cell (p := ⟨g6, 1, none⟩) HL4.out).trans f4_1
  have n5_0 : ((w7.alloc (.cells #[.bool qB, .string qS] 24)).alloc (.cells #[.bool rB, .string rS] 24)).cell? ⟨w7.heap.size, 0, none⟩ = some (.bool qB) := by simp [go_sem]
  have n5_1 : ((w7.alloc (.cells #[.bool qB, .string qS] 24)).alloc (.cells #[.bool rB, .string rS] 24)).cell? ⟨w7.heap.size, 1, none⟩ = some (.string qS) := by simp [go_sem]
  have n6_0 : ((w7.alloc (.cells #[.bool qB, .string qS] 24)).alloc (.cells #[.bool rB, .string rS] 24)).cell? ⟨w7.heap.size + 1, 0, none⟩ = some (.bool rB) := by simp [go_sem]
  have n6_1 : ((w7.alloc (.cells #[.bool qB, .string qS] 24)).alloc (.cells #[.bool rB, .string rS] 24)).cell? ⟨w7.heap.size + 1, 1, none⟩ = some (.string rS) := by simp [go_sem]
  clear f0_0 f0_1 f1_0 f1_1 f2_0 f2_1 f3_0 f3_1 f4_0 f4_1
  have HX7 := Lib.hid hB7
  have HY7 := Lib.hid hb7.size
  clear hB7 hb7
  go_wp2_with fail
  obtain ⟨W7, hW7⟩ : ∃ W7, W7 = (w7.alloc (.cells #[.bool qB, .string qS] 24)).alloc (.cells #[.bool rB, .string rS] 24) := ⟨_, rfl⟩
  have hZ7 : W7.heap.size = w7.heap.size + 2 := by rw [hW7]; simp
  rw [← hW7] at HX7 ⊢
  rw [← hW7] at n0_0 n0_1
  rw [← hW7] at n1_0 n1_1
  rw [← hW7] at n2_0 n2_1
  rw [← hW7] at n3_0 n3_1
  rw [← hW7] at n4_0 n4_1
  rw [← hW7] at n5_0 n5_1
  rw [← hW7] at n6_0 n6_1
  obtain ⟨g7, hg7⟩ : ∃ g7, w7.heap.size = g7 := ⟨_, rfl⟩
  rw [hg7] at n5_0 n5_1
  rw [hg7] at n6_0 n6_1
  rw [hg7] at hZ7 HY7 ⊢
  clear hW7 hg7
  have HL0 := Lib.hid (Nat.lt_of_lt_of_le HL0.out HX7.out.size)
  have HL1 := Lib.hid (Nat.lt_of_lt_of_le HL1.out HX7.out.size)
  have HL2 := Lib.hid (Nat.lt_of_lt_of_le HL2.out HX7.out.size)
  have HL3 := Lib.hid (Nat.lt_of_lt_of_le HL3.out HX7.out.size)
  have HL4 := Lib.hid (Nat.lt_of_lt_of_le HL4.out HX7.out.size)
  have HL5 := Lib.hid (show g7 < W7.heap.size by rw [hZ7]; omega)
  have HL6 := Lib.hid (show g7 + 1 < W7.heap.size by rw [hZ7]; omega)
  clear hZ7 HY7
  have HB := Lib.hid (HB.out.trans (HX7.out.mono HB.out.size))
  clear HX7
  have f0_0 := n0_0
  have f0_1 := n0_1
  have f1_0 := n1_0
  have f1_1 := n1_1
  have f2_0 := n2_0
  have f2_1 := n2_1
  have f3_0 := n3_0
  have f3_1 := n3_1
  have f4_0 := n4_0
  have f4_1 := n4_1
  have f5_0 := n5_0
  have f5_1 := n5_1
  have f6_0 := n6_0
  have f6_1 := n6_1
  clear n0_0 n0_1 n1_0 n1_1 n2_0 n2_1 n3_0 n3_1 n4_0 n4_1 n5_0 n5_1 n6_0 n6_1
  refine (H6.out _).mono ?_
  rintro e w8 ⟨rfl, hb8⟩
  have hB8 : Below W7.heap.size W7 (w8.alloc (.cells #[.bool gB, .string gS] 24)) := ((hb8).alloc (by have := hb8.size; simp; try omega) _)
  have n0_0 := (hB8.cell (p := ⟨w.heap.size, 0, none⟩) HL0.out).trans f0_0
  have n0_1 := (hB8.cell (p := ⟨w.heap.size, 1, none⟩) HL0.out).trans f0_1
  have n1_0 := (hB8.cell (p := ⟨w.heap.size + 1, 0, none⟩) HL1.out).trans f1_0
  have n1_1 := (hB8.cell (p := ⟨w.heap.size + 1, 1, none⟩) HL1.out).trans f1_1
  have n2_0 := (hB8.cell (p := ⟨g4, 0, none⟩) HL2.out).trans f2_0
  have n2_1 := (hB8.cell (p := ⟨g4, 1, none⟩) HL2.out).trans f2_1
  have n3_0 := (hB8.cell (p := ⟨g5, 0, none⟩) HL3.out).trans f3_0
  have n3_1 := (hB8.cell (p := ⟨g5, 1, none⟩) HL3.out).trans f3_1
  have n4_0 := (hB8.cell (p := ⟨g6, 0, none⟩) HL4.out).trans f4_0
  have n4_1 := (hB8.cell (p := ⟨g6, 1, none⟩) HL4.out).trans f4_1
  have n5_0 := (hB8.cell (p := ⟨g7, 0, none⟩) HL5.out).trans f5_0
  have n5_1 := (hB8.cell (p := ⟨g7, 1, none⟩) HL5.out).trans f5_1
  have n6_0 := (hB8.cell (p := ⟨g7 + 1, 0, none⟩) HL6.out).trans f6_0
  have n6_1 := (hB8.cell (p := ⟨g7 + 1, 1, none⟩) HL6.out).trans f6_1
  have n7_0 : (w8.alloc (.cells #[.bool gB, .string gS] 24)).cell? ⟨w8.heap.size, 0, none⟩ = some (.bool gB) := by simp [go_sem]
  have n7_1 : (w8.alloc (.cells #[.bool gB, .string gS] 24)).cell? ⟨w8.heap.size, 1, none⟩ = some (.string gS) := by simp [go_sem]
  clear f0_0 f0_1 f1_0 f1_1 f2_0 f2_1 f3_0 f3_1 f4_0 f4_1 f5_0 f5_1 f6_0 f6_1
  have HX8 := Lib.hid hB8
  have HY8 := Lib.hid hb8.size
  clear hB8 hb8
  go_wp2_with fail
  obtain ⟨W8, hW8⟩ : ∃ W8, W8 = w8.alloc (.cells #[.bool gB, .string gS] 24) := ⟨_, rfl⟩
  have hZ8 : W8.heap.size = w8.heap.size + 1 := by rw [hW8]; simp
  rw [← hW8] at HX8 ⊢
  rw [← hW8] at n0_0 n0_1
  rw [← hW8] at n1_0 n1_1
  rw [← hW8] at n2_0 n2_1
  rw [← hW8] at n3_0 n3_1
  rw [← hW8] at n4_0 n4_1
  rw [← hW8] at n5_0 n5_1
  rw [← hW8] at n6_0 n6_1
  rw [← hW8] at n7_0 n7_1
  obtain ⟨g8, hg8⟩ : ∃ g8, w8.heap.size = g8 := ⟨_, rfl⟩
  rw [hg8] at n7_0 n7_1
  rw [hg8] at hZ8 HY8 ⊢
  clear hW8 hg8
  have HL0 := Lib.hid (Nat.lt_of_lt_of_le HL0.out HX8.out.size)
  have HL1 := Lib.hid (Nat.lt_of_lt_of_le HL1.out HX8.out.size)
  have HL2 := Lib.hid (Nat.lt_of_lt_of_le HL2.out HX8.out.size)
  have HL3 := Lib.hid (Nat.lt_of_lt_of_le HL3.out HX8.out.size)
  have HL4 := Lib.hid (Nat.lt_of_lt_of_le HL4.out HX8.out.size)
  have HL5 := Lib.hid (Nat.lt_of_lt_of_le HL5.out HX8.out.size)
  have HL6 := Lib.hid (Nat.lt_of_lt_of_le HL6.out HX8.out.size)
  have HL7 := Lib.hid (show g8 < W8.heap.size by rw [hZ8]; omega)
  clear hZ8 HY8
  have HB := Lib.hid (HB.out.trans (HX8.out.mono HB.out.size))
  clear HX8
  have f0_0 := n0_0
  have f0_1 := n0_1
  have f1_0 := n1_0
  have f1_1 := n1_1
  have f2_0 := n2_0
  have f2_1 := n2_1
  have f3_0 := n3_0
  have f3_1 := n3_1
  have f4_0 := n4_0
  have f4_1 := n4_1
  have f5_0 := n5_0
  have f5_1 := n5_1
  have f6_0 := n6_0
  have f6_1 := n6_1
  have f7_0 := n7_0
  have f7_1 := n7_1
  clear n0_0 n0_1 n1_0 n1_1 n2_0 n2_1 n3_0 n3_1 n4_0 n4_1 n5_0 n5_1 n6_0 n6_1 n7_0 n7_1
  refine (H7.out _).mono ?_
  rintro e w9 ⟨rfl, hb9⟩
  have hB9 : Below W8.heap.size W8 (w9) := hb9
  have n0_0 := (hB9.cell (p := ⟨w.heap.size, 0, none⟩) HL0.out).trans f0_0
  have n0_1 := (hB9.cell (p := ⟨w.heap.size, 1, none⟩) HL0.out).trans f0_1
  have n1_0 := (hB9.cell (p := ⟨w.heap.size + 1, 0, none⟩) HL1.out).trans f1_0
  have n1_1 := (hB9.cell (p := ⟨w.heap.size + 1, 1, none⟩) HL1.out).trans f1_1
  have n2_0 := (hB9.cell (p := ⟨g4, 0, none⟩) HL2.out).trans f2_0
  have n2_1 := (hB9.cell (p := ⟨g4, 1, none⟩) HL2.out).trans f2_1
  have n3_0 := (hB9.cell (p := ⟨g5, 0, none⟩) HL3.out).trans f3_0
  have n3_1 := (hB9.cell (p := ⟨g5, 1, none⟩) HL3.out).trans f3_1
  have n4_0 := (hB9.cell (p := ⟨g6, 0, none⟩) HL4.out).trans f4_0
  have n4_1 := (hB9.cell (p := ⟨g6, 1, none⟩) HL4.out).trans f4_1
  have n5_0 := (hB9.cell (p := ⟨g7, 0, none⟩) HL5.out).trans f5_0
  have n5_1 := (hB9.cell (p := ⟨g7, 1, none⟩) HL5.out).trans f5_1
  have n6_0 := (hB9.cell (p := ⟨g7 + 1, 0, none⟩) HL6.out).trans f6_0
  have n6_1 := (hB9.cell (p := ⟨g7 + 1, 1, none⟩) HL6.out).trans f6_1
  have n7_0 := (hB9.cell (p := ⟨g8, 0, none⟩) HL7.out).trans f7_0
  have n7_1 := (hB9.cell (p := ⟨g8, 1, none⟩) HL7.out).trans f7_1
  clear f0_0 f0_1 f1_0 f1_1 f2_0 f2_1 f3_0 f3_1 f4_0 f4_1 f5_0 f5_1 f6_0 f6_1 f7_0 f7_1
  have HX9 := Lib.hid hB9
  have HY9 := Lib.hid hb9.size
  clear hB9 hb9
  go_upto_region 11 with fail
  have HL0 := Lib.hid (Nat.lt_of_lt_of_le HL0.out HX9.out.size)
  have HL1 := Lib.hid (Nat.lt_of_lt_of_le HL1.out HX9.out.size)
  have HL2 := Lib.hid (Nat.lt_of_lt_of_le HL2.out HX9.out.size)
  have HL3 := Lib.hid (Nat.lt_of_lt_of_le HL3.out HX9.out.size)
  have HL4 := Lib.hid (Nat.lt_of_lt_of_le HL4.out HX9.out.size)
  have HL5 := Lib.hid (Nat.lt_of_lt_of_le HL5.out HX9.out.size)
  have HL6 := Lib.hid (Nat.lt_of_lt_of_le HL6.out HX9.out.size)
  have HL7 := Lib.hid (Nat.lt_of_lt_of_le HL7.out HX9.out.size)
  have HB := Lib.hid (HB.out.trans (HX9.out.mono HB.out.size))
  clear HX9
  have f0_0 := n0_0
  have f0_1 := n0_1
  have f1_0 := n1_0
  have f1_1 := n1_1
  have f2_0 := n2_0
  have f2_1 := n2_1
  have f3_0 := n3_0
  have f3_1 := n3_1
  have f4_0 := n4_0
  have f4_1 := n4_1
  have f5_0 := n5_0
  have f5_1 := n5_1
  have f6_0 := n6_0
  have f6_1 := n6_1
  have f7_0 := n7_0
  have f7_1 := n7_1
  clear n0_0 n0_1 n1_0 n1_1 n2_0 n2_1 n3_0 n3_1 n4_0 n4_1 n5_0 n5_1 n6_0 n6_1 n7_0 n7_1
  clear f1_0 f1_1 HL1 f2_0 f2_1 HL2 f3_0 f3_1 HL3 f4_0 f4_1 HL4 f5_0 f5_1 HL5 f6_0 f6_1 HL6 f7_0 f7_1 HL7
  have HSC10 := Lib.hid (show w9.cell? ⟨w.heap.size, 0, none⟩ = some (.bool aB) ∧ w9.cell? ⟨w.heap.size, 1, none⟩ = some (.string aS) ∧ Below w.heap.size w w9 from ⟨f0_0, f0_1, HB.out⟩)
  clear HL0
  go_cut [4] (fun a9 wx => a9 = .bool true ∧ (wx.cell? ⟨w.heap.size, 0, none⟩ = some (.bool aB) ∧ wx.cell? ⟨w.heap.size, 1, none⟩ = some (.string aS) ∧ Below w.heap.size w wx))
  case first =>
    have hSC := HSC10.out
    go_region_held3 (fun w' => w'.cell? ⟨w.heap.size, 0, none⟩ = some (.bool aB) ∧ w'.cell? ⟨w.heap.size, 1, none⟩ = some (.string aS) ∧ Below w.heap.size w w') (first | assumption | exact ch_drew (by assumption)) (first | (go_at_call 31; refine (H8.out _).mono ?_; rintro e wn0 ⟨rfl, hbr⟩; have hS0 := ch_step hbr (by assumption); clear hbr) | (go_at_call 24; refine (H9.out _).mono ?_; rintro e wn1 ⟨rfl, hbr⟩; have hS1 := ch_step hbr (by assumption); clear hbr) | (go_at_call 12; refine (HLV.out _).mono ?_; rintro e wn2 ⟨rfl, hbr⟩; have hS2 := ch_step hbr (by assumption); clear hbr))
    all_goals go_wp2
    all_goals go_meet
    all_goals exact ⟨rfl, by first | assumption | exact ch_drew (by assumption)⟩
  case rest =>
    obtain ⟨rfl, hSc⟩ := hcut
    obtain ⟨m0_0, m0_1, hbc⟩ := hSc
    clear f0_0 f0_1
    have HB := Lib.hid hbc
    have f0_0 := m0_0; have f0_1 := m0_1; have HL0 := Lib.hid (World.block_lt_of_cell? _ _ f0_0)
    clear m0_0 m0_1 hbc HSC10
    go_wp2
    go_ret
    exact ⟨rfl, HB.out⟩

/-- What Div and Gcd tell. -/
theorem div_f (a b : Bool × ByteArray) (h1 : a.2.size ≤ 15000) (h2 : b.2.size ≤ 15000) : ∃ (q r : Bool × ByteArray) (J : Int), Hid (∀ w, Calls Tryd.prog 13 #[.agg #[.bool a.1, .string a.2], .agg #[.bool b.1, .string b.2]] w fun e w' => e = .returned (.tuple #[.agg #[.bool q.1, .string q.2], .agg #[.bool r.1, .string r.2], .int .i64 J]) ∧ Below w.heap.size w w') ∧
    (J = bad2 a.1 a.2 b.1 b.2 ∨ (bad2 a.1 a.2 b.1 b.2 = 0 ∧ J = 3)) := by
  by_cases hb : bad2 a.1 a.2 b.1 b.2 = 0
  · by_cases hz : nv b.2 = 0
    · exact ⟨(false, ⟨#[]⟩), (false, ⟨#[]⟩), 3, Lib.hid fun w => (divw_c a.1 a.2 b.1 b.2 h1 h2 w).mono fun e w' h => ⟨h.2.1 hb hz, h.2.2.2⟩, .inr ⟨hb, rfl⟩⟩
    · exact ⟨pv _, pv _, 0, Lib.hid fun w => (divw_c a.1 a.2 b.1 b.2 h1 h2 w).mono fun e w' h => ⟨h.2.2.1 hb hz, h.2.2.2⟩, .inl hb.symm⟩
  · exact ⟨(false, ⟨#[]⟩), (false, ⟨#[]⟩), _, Lib.hid fun w => (divw_c a.1 a.2 b.1 b.2 h1 h2 w).mono fun e w' h => ⟨h.1 hb, h.2.2.2⟩, .inl rfl⟩
theorem gcd_f (a b : Bool × ByteArray) (h1 : a.2.size ≤ 15000) (h2 : b.2.size ≤ 15000) : ∃ g : Bool × ByteArray, Hid (∀ w, Calls Tryd.prog 18 #[.agg #[.bool a.1, .string a.2], .agg #[.bool b.1, .string b.2]] w fun e w' => e = .returned (.tuple #[.agg #[.bool g.1, .string g.2], .int .i64 (bad2 a.1 a.2 b.1 b.2)]) ∧ Below w.heap.size w w') := by
  by_cases hb : bad2 a.1 a.2 b.1 b.2 = 0
  · exact ⟨(false, encN _), Lib.hid fun w => (gcdw_c a.1 a.2 b.1 b.2 h1 h2 w).mono fun e w' h => ⟨by rw [hb]; exact h.2.1 hb, h.2.2⟩⟩
  · exact ⟨(false, ⟨#[]⟩), Lib.hid fun w => (gcdw_c a.1 a.2 b.1 b.2 h1 h2 w).mono fun e w' h => ⟨h.1 hb, h.2.2⟩⟩
theorem print_f (a : Bool × ByteArray) (h1 : a.2.size ≤ 15000) : ∃ t : ByteArray, Hid (∀ w, Calls Tryd.prog 25 #[.agg #[.bool a.1, .string a.2]] w fun e w' => e = .returned (.tuple #[.string t, .int .i64 (chk a.1 a.2)]) ∧ Below w.heap.size w w') := by
  by_cases hb : chk a.1 a.2 = 0
  · refine ⟨⟨(textL a.1 (nv a.2).toNat).toArray⟩, Lib.hid fun w => (print_c a.1 a.2 h1 w).mono fun e w' h => ⟨?_, h.2⟩⟩
    rw [h.1]
    unfold printV
    rw [if_neg (fun hc => hc hb), hb]
  · refine ⟨⟨#[]⟩, Lib.hid fun w => (print_c a.1 a.2 h1 w).mono fun e w' h => ⟨?_, h.2⟩⟩
    rw [h.1]
    unfold printV
    rw [if_pos hb]

theorem chk_small (a : Bool × ByteArray) (h : a.2.size ≤ 400) : chk a.1 a.2 = 0 ∨ chk a.1 a.2 = 1 := by
  unfold chk
  rw [if_neg (by omega)]
  split
  · exact .inr rfl
  · split
    · exact .inr rfl
    · exact .inl rfl
theorem bad_small (a b : Bool × ByteArray) (ha : a.2.size ≤ 400) (hb : b.2.size ≤ 400) : bad2 a.1 a.2 b.1 b.2 = 0 ∨ bad2 a.1 a.2 b.1 b.2 = 1 := by
  unfold bad2
  split
  · exact chk_small a ha
  · exact chk_small b hb

theorem checks_c (a b : Bool × ByteArray) (w : World) :
    Calls Tryd.prog 9 #[.agg #[.bool a.1, .string a.2], .agg #[.bool b.1, .string b.2]] w fun e w' => e = .returned (.bool true) ∧ Below w.heap.size w w' := by
  cases hs : (decide (a.2.size ≤ 400) && decide (b.2.size ≤ 400)) with
  | false => exact checks_big _ _ _ _ (small_f a b false hs) w
  | true =>
    have HS := small_f a b true hs
    simp only [Bool.and_eq_true, decide_eq_true_eq] at hs
    obtain ⟨ha, hb⟩ := hs
    obtain ⟨q, r, J, H5, hJ⟩ := div_f a b (by omega) (by omega)
    obtain ⟨g, H6⟩ := gcd_f a b (by omega) (by omega)
    obtain ⟨tS, H7⟩ := print_f a (by omega)
    have HE := Lib.hid (both_r a.1 a.2 b.1 b.2)
    have H1 := cmp_f a b
    have H2 := add_f a b (by omega) (by omega)
    have H3 := sub_f a b (by omega) (by omega)
    have H4 := mul_f a b (by omega) (by omega)
    have H8 := Lib.hid (check_c a.1 a.2)
    have H9 := Lib.hid (check_r a.1 a.2)
    rw [cmpF_err] at H1
    rw [binF_err] at H2 H3 H4
    by_cases he : J = bad2 a.1 a.2 b.1 b.2
    · rw [he] at H5
      rcases bad_small a b ha hb with h0 | h0
      · rw [h0] at HE H1 H2 H3 H4 H5 H6
        exact checks_e0 _ _ _ _ HS _ _ _ _ _ _ _ _ _ _ _ _ _ _ _ HE H1 H2 H3 H4 H5 H6 H7 H8 H9 w
      · rw [h0] at HE H1 H2 H3 H4 H5 H6
        exact checks_e1 _ _ _ _ HS _ _ _ _ _ _ _ _ _ _ _ _ _ _ _ HE H1 H2 H3 H4 H5 H6 H7 H8 H9 w
    · rcases hJ with hJ | ⟨h0, h3⟩
      · exact absurd hJ he
      · rw [h3] at H5
        rw [h0] at HE H1 H2 H3 H4 H6
        exact checks_z _ _ _ _ HS _ _ _ _ _ _ _ _ _ _ _ _ _ _ _ HE H1 H2 H3 H4 H5 H6 H7 H8 H9 w
#print axioms checks_c
end Go.Proofs.YtimpimnaknkgpaaDoor
