import Derived.Test.YtimpimnaknkgpaaDoorL1
namespace Go.Proofs.YtimpimnaknkgpaaDoor
open Go.RowKit Num
set_option linter.unusedVariables false
set_option linter.unusedSimpArgs false

set_option maxHeartbeats 2000000 in
set_option maxRecDepth 100000 in
theorem ring_big (aB bB cB : Bool) (aS bS cS : ByteArray) (HS : Hid (∀ w, Calls Tryd.prog 10 #[.agg #[.bool aB, .string aS], .agg #[.bool bB, .string bS]] w fun e w' => e = .returned (.bool false) ∧ Below w.heap.size w w')) (w : World) :
    Calls Tryd.prog 7 #[.agg #[.bool aB, .string aS], .agg #[.bool bB, .string bS], .agg #[.bool cB, .string cS]] w fun e w' => e = .returned (.bool true) ∧ Below w.heap.size w w' := by
  obtain ⟨W0, hW0⟩ : ∃ W0, W0 = ((w.alloc (.cells #[.bool aB, .string aS] 24)).alloc (.cells #[.bool bB, .string bS] 24)).alloc (.cells #[.bool cB, .string cS] 24) := ⟨_, rfl⟩
  have hB0 : Below w.heap.size w W0 := by rw [hW0]; exact (((Below.refl _ _).alloc (by simp; try omega) _).alloc (by simp; try omega) _).alloc (by simp; try omega) _
  have f0_0 : W0.cell? ⟨w.heap.size, 0, none⟩ = some (.bool aB) := by rw [hW0]; simp [go_sem]
  have f0_1 : W0.cell? ⟨w.heap.size, 1, none⟩ = some (.string aS) := by rw [hW0]; simp [go_sem]
  have f1_0 : W0.cell? ⟨w.heap.size + 1, 0, none⟩ = some (.bool bB) := by rw [hW0]; simp [go_sem]
  have f1_1 : W0.cell? ⟨w.heap.size + 1, 1, none⟩ = some (.string bS) := by rw [hW0]; simp [go_sem]
  have f2_0 : W0.cell? ⟨w.heap.size + 2, 0, none⟩ = some (.bool cB) := by rw [hW0]; simp [go_sem]
  have f2_1 : W0.cell? ⟨w.heap.size + 2, 1, none⟩ = some (.string cS) := by rw [hW0]; simp [go_sem]
  have hZ0 : W0.heap.size = w.heap.size + 3 := by rw [hW0]; simp
  have HL0 := Lib.hid (show w.heap.size < W0.heap.size by rw [hZ0]; omega)
  have HL1 := Lib.hid (show w.heap.size + 1 < W0.heap.size by rw [hZ0]; omega)
  have HL2 := Lib.hid (show w.heap.size + 2 < W0.heap.size by rw [hZ0]; omega)
  have HW0 := Lib.hid hW0
  have HB := Lib.hid hB0
  clear hB0 hZ0 hW0
  have HLV := Lib.hid live_c
  go_enter Tryd.func7, Tryd.ntmps7
  go_wp2_with fail
  rw [← HW0.out]
  refine (HS.out _).mono ?_
  rintro e w1 ⟨rfl, hb1⟩
  have hB1 : Below W0.heap.size W0 (w1) := hb1
  have n0_0 := (hB1.cell (p := ⟨w.heap.size, 0, none⟩) HL0.out).trans f0_0
  have n0_1 := (hB1.cell (p := ⟨w.heap.size, 1, none⟩) HL0.out).trans f0_1
  have n1_0 := (hB1.cell (p := ⟨w.heap.size + 1, 0, none⟩) HL1.out).trans f1_0
  have n1_1 := (hB1.cell (p := ⟨w.heap.size + 1, 1, none⟩) HL1.out).trans f1_1
  have n2_0 := (hB1.cell (p := ⟨w.heap.size + 2, 0, none⟩) HL2.out).trans f2_0
  have n2_1 := (hB1.cell (p := ⟨w.heap.size + 2, 1, none⟩) HL2.out).trans f2_1
  clear f0_0 f0_1 f1_0 f1_1 f2_0 f2_1
  have HX1 := Lib.hid hB1
  have HY1 := Lib.hid hb1.size
  clear hB1 hb1
  go_wp2_with fail
  have HL0 := Lib.hid (Nat.lt_of_lt_of_le HL0.out HX1.out.size)
  have HL1 := Lib.hid (Nat.lt_of_lt_of_le HL1.out HX1.out.size)
  have HL2 := Lib.hid (Nat.lt_of_lt_of_le HL2.out HX1.out.size)
  have HB := Lib.hid (HB.out.trans (HX1.out.mono HB.out.size))
  clear HX1
  have f0_0 := n0_0
  have f0_1 := n0_1
  have f1_0 := n1_0
  have f1_1 := n1_1
  have f2_0 := n2_0
  have f2_1 := n2_1
  clear n0_0 n0_1 n1_0 n1_1 n2_0 n2_1
  refine (HLV.out _).mono ?_
  rintro e w2 ⟨rfl, hb2⟩
  have hB2 : Below w1.heap.size w1 (w2) := hb2
  have n0_0 := (hB2.cell (p := ⟨w.heap.size, 0, none⟩) HL0.out).trans f0_0
  have n0_1 := (hB2.cell (p := ⟨w.heap.size, 1, none⟩) HL0.out).trans f0_1
  have n1_0 := (hB2.cell (p := ⟨w.heap.size + 1, 0, none⟩) HL1.out).trans f1_0
  have n1_1 := (hB2.cell (p := ⟨w.heap.size + 1, 1, none⟩) HL1.out).trans f1_1
  have n2_0 := (hB2.cell (p := ⟨w.heap.size + 2, 0, none⟩) HL2.out).trans f2_0
  have n2_1 := (hB2.cell (p := ⟨w.heap.size + 2, 1, none⟩) HL2.out).trans f2_1
  clear f0_0 f0_1 f1_0 f1_1 f2_0 f2_1
  have HX2 := Lib.hid hB2
  have HY2 := Lib.hid hb2.size
  clear hB2 hb2
  have HL0 := Lib.hid (Nat.lt_of_lt_of_le HL0.out HX2.out.size)
  have HL1 := Lib.hid (Nat.lt_of_lt_of_le HL1.out HX2.out.size)
  have HL2 := Lib.hid (Nat.lt_of_lt_of_le HL2.out HX2.out.size)
  have HB := Lib.hid (HB.out.trans (HX2.out.mono HB.out.size))
  clear HX2
  have f0_0 := n0_0
  have f0_1 := n0_1
  have f1_0 := n1_0
  have f1_1 := n1_1
  have f2_0 := n2_0
  have f2_1 := n2_1
  clear n0_0 n0_1 n1_0 n1_1 n2_0 n2_1
  go_wp2
  go_ret
  exact ⟨rfl, HB.out⟩

set_option maxHeartbeats 2000000 in
set_option maxRecDepth 100000 in
theorem ring_big2 (aB bB cB : Bool) (aS bS cS : ByteArray) (HS : Hid (∀ w, Calls Tryd.prog 10 #[.agg #[.bool aB, .string aS], .agg #[.bool bB, .string bS]] w fun e w' => e = .returned (.bool true) ∧ Below w.heap.size w w')) (hc : decide ((400 : Int) < (cS.size : Int)) = true) (w : World) :
    Calls Tryd.prog 7 #[.agg #[.bool aB, .string aS], .agg #[.bool bB, .string bS], .agg #[.bool cB, .string cS]] w fun e w' => e = .returned (.bool true) ∧ Below w.heap.size w w' := by
  obtain ⟨W0, hW0⟩ : ∃ W0, W0 = ((w.alloc (.cells #[.bool aB, .string aS] 24)).alloc (.cells #[.bool bB, .string bS] 24)).alloc (.cells #[.bool cB, .string cS] 24) := ⟨_, rfl⟩
  have hB0 : Below w.heap.size w W0 := by rw [hW0]; exact (((Below.refl _ _).alloc (by simp; try omega) _).alloc (by simp; try omega) _).alloc (by simp; try omega) _
  have f0_0 : W0.cell? ⟨w.heap.size, 0, none⟩ = some (.bool aB) := by rw [hW0]; simp [go_sem]
  have f0_1 : W0.cell? ⟨w.heap.size, 1, none⟩ = some (.string aS) := by rw [hW0]; simp [go_sem]
  have f1_0 : W0.cell? ⟨w.heap.size + 1, 0, none⟩ = some (.bool bB) := by rw [hW0]; simp [go_sem]
  have f1_1 : W0.cell? ⟨w.heap.size + 1, 1, none⟩ = some (.string bS) := by rw [hW0]; simp [go_sem]
  have f2_0 : W0.cell? ⟨w.heap.size + 2, 0, none⟩ = some (.bool cB) := by rw [hW0]; simp [go_sem]
  have f2_1 : W0.cell? ⟨w.heap.size + 2, 1, none⟩ = some (.string cS) := by rw [hW0]; simp [go_sem]
  have hZ0 : W0.heap.size = w.heap.size + 3 := by rw [hW0]; simp
  have HL0 := Lib.hid (show w.heap.size < W0.heap.size by rw [hZ0]; omega)
  have HL1 := Lib.hid (show w.heap.size + 1 < W0.heap.size by rw [hZ0]; omega)
  have HL2 := Lib.hid (show w.heap.size + 2 < W0.heap.size by rw [hZ0]; omega)
  have HW0 := Lib.hid hW0
  have HB := Lib.hid hB0
  clear hB0 hZ0 hW0
  have HLV := Lib.hid live_c
  go_enter Tryd.func7, Tryd.ntmps7
  go_wp2_with fail
  rw [← HW0.out]
  refine (HS.out _).mono ?_
  rintro e w1 ⟨rfl, hb1⟩
  have hB1 : Below W0.heap.size W0 (w1) := hb1
  have n0_0 := (hB1.cell (p := ⟨w.heap.size, 0, none⟩) HL0.out).trans f0_0
  have n0_1 := (hB1.cell (p := ⟨w.heap.size, 1, none⟩) HL0.out).trans f0_1
  have n1_0 := (hB1.cell (p := ⟨w.heap.size + 1, 0, none⟩) HL1.out).trans f1_0
  have n1_1 := (hB1.cell (p := ⟨w.heap.size + 1, 1, none⟩) HL1.out).trans f1_1
  have n2_0 := (hB1.cell (p := ⟨w.heap.size + 2, 0, none⟩) HL2.out).trans f2_0
  have n2_1 := (hB1.cell (p := ⟨w.heap.size + 2, 1, none⟩) HL2.out).trans f2_1
  clear f0_0 f0_1 f1_0 f1_1 f2_0 f2_1
  have HX1 := Lib.hid hB1
  have HY1 := Lib.hid hb1.size
  clear hB1 hb1
  go_wp2_with fail
  have HL0 := Lib.hid (Nat.lt_of_lt_of_le HL0.out HX1.out.size)
  have HL1 := Lib.hid (Nat.lt_of_lt_of_le HL1.out HX1.out.size)
  have HL2 := Lib.hid (Nat.lt_of_lt_of_le HL2.out HX1.out.size)
  have HB := Lib.hid (HB.out.trans (HX1.out.mono HB.out.size))
  clear HX1
  have f0_0 := n0_0
  have f0_1 := n0_1
  have f1_0 := n1_0
  have f1_1 := n1_1
  have f2_0 := n2_0
  have f2_1 := n2_1
  clear n0_0 n0_1 n1_0 n1_1 n2_0 n2_1
  refine (HLV.out _).mono ?_
  rintro e w2 ⟨rfl, hb2⟩
  have hB2 : Below w1.heap.size w1 (w2) := hb2
  have n0_0 := (hB2.cell (p := ⟨w.heap.size, 0, none⟩) HL0.out).trans f0_0
  have n0_1 := (hB2.cell (p := ⟨w.heap.size, 1, none⟩) HL0.out).trans f0_1
  have n1_0 := (hB2.cell (p := ⟨w.heap.size + 1, 0, none⟩) HL1.out).trans f1_0
  have n1_1 := (hB2.cell (p := ⟨w.heap.size + 1, 1, none⟩) HL1.out).trans f1_1
  have n2_0 := (hB2.cell (p := ⟨w.heap.size + 2, 0, none⟩) HL2.out).trans f2_0
  have n2_1 := (hB2.cell (p := ⟨w.heap.size + 2, 1, none⟩) HL2.out).trans f2_1
  clear f0_0 f0_1 f1_0 f1_1 f2_0 f2_1
  have HX2 := Lib.hid hB2
  have HY2 := Lib.hid hb2.size
  clear hB2 hb2
  have HL0 := Lib.hid (Nat.lt_of_lt_of_le HL0.out HX2.out.size)
  have HL1 := Lib.hid (Nat.lt_of_lt_of_le HL1.out HX2.out.size)
  have HL2 := Lib.hid (Nat.lt_of_lt_of_le HL2.out HX2.out.size)
  have HB := Lib.hid (HB.out.trans (HX2.out.mono HB.out.size))
  clear HX2
  have f0_0 := n0_0
  have f0_1 := n0_1
  have f1_0 := n1_0
  have f1_1 := n1_1
  have f2_0 := n2_0
  have f2_1 := n2_1
  clear n0_0 n0_1 n1_0 n1_1 n2_0 n2_1
  go_wp2
  go_ret
  exact ⟨rfl, HB.out⟩

set_option maxHeartbeats 2000000 in
set_option maxRecDepth 100000 in
theorem ring_err (aB bB cB : Bool) (aS bS cS : ByteArray) (HS : Hid (∀ w, Calls Tryd.prog 10 #[.agg #[.bool aB, .string aS], .agg #[.bool bB, .string bS]] w fun e w' => e = .returned (.bool true) ∧ Below w.heap.size w w')) (hc : decide ((400 : Int) < (cS.size : Int)) = false) (sB pB qB rB tB dB : Bool) (sS pS qS rS tS dS : ByteArray) (es ep eq er et ed : Int) (H1 : Hid (∀ w, Calls Tryd.prog 27 #[.agg #[.bool aB, .string aS], .agg #[.bool bB, .string bS]] w fun e w' => e = .returned (.tuple #[.agg #[.bool sB, .string sS], .int .i64 es]) ∧ Below w.heap.size w w')) (H2 : Hid (∀ w, Calls Tryd.prog 28 #[.agg #[.bool sB, .string sS], .agg #[.bool cB, .string cS]] w fun e w' => e = .returned (.tuple #[.agg #[.bool pB, .string pS], .int .i64 ep]) ∧ Below w.heap.size w w')) (H3 : Hid (∀ w, Calls Tryd.prog 28 #[.agg #[.bool aB, .string aS], .agg #[.bool cB, .string cS]] w fun e w' => e = .returned (.tuple #[.agg #[.bool qB, .string qS], .int .i64 eq]) ∧ Below w.heap.size w w')) (H4 : Hid (∀ w, Calls Tryd.prog 28 #[.agg #[.bool bB, .string bS], .agg #[.bool cB, .string cS]] w fun e w' => e = .returned (.tuple #[.agg #[.bool rB, .string rS], .int .i64 er]) ∧ Below w.heap.size w w')) (H5 : Hid (∀ w, Calls Tryd.prog 27 #[.agg #[.bool qB, .string qS], .agg #[.bool rB, .string rS]] w fun e w' => e = .returned (.tuple #[.agg #[.bool tB, .string tS], .int .i64 et]) ∧ Below w.heap.size w w')) (H6 : Hid (∀ w, Calls Tryd.prog 29 #[.agg #[.bool sB, .string sS], .agg #[.bool bB, .string bS]] w fun e w' => e = .returned (.tuple #[.agg #[.bool dB, .string dS], .int .i64 ed]) ∧ Below w.heap.size w w')) (hne : ¬ (es = 0 ∧ ep = 0 ∧ eq = 0 ∧ er = 0 ∧ et = 0 ∧ ed = 0)) (w : World) :
    Calls Tryd.prog 7 #[.agg #[.bool aB, .string aS], .agg #[.bool bB, .string bS], .agg #[.bool cB, .string cS]] w fun e w' => e = .returned (.bool true) ∧ Below w.heap.size w w' := by
  obtain ⟨W0, hW0⟩ : ∃ W0, W0 = ((w.alloc (.cells #[.bool aB, .string aS] 24)).alloc (.cells #[.bool bB, .string bS] 24)).alloc (.cells #[.bool cB, .string cS] 24) := ⟨_, rfl⟩
  have hB0 : Below w.heap.size w W0 := by rw [hW0]; exact (((Below.refl _ _).alloc (by simp; try omega) _).alloc (by simp; try omega) _).alloc (by simp; try omega) _
  have f0_0 : W0.cell? ⟨w.heap.size, 0, none⟩ = some (.bool aB) := by rw [hW0]; simp [go_sem]
  have f0_1 : W0.cell? ⟨w.heap.size, 1, none⟩ = some (.string aS) := by rw [hW0]; simp [go_sem]
  have f1_0 : W0.cell? ⟨w.heap.size + 1, 0, none⟩ = some (.bool bB) := by rw [hW0]; simp [go_sem]
  have f1_1 : W0.cell? ⟨w.heap.size + 1, 1, none⟩ = some (.string bS) := by rw [hW0]; simp [go_sem]
  have f2_0 : W0.cell? ⟨w.heap.size + 2, 0, none⟩ = some (.bool cB) := by rw [hW0]; simp [go_sem]
  have f2_1 : W0.cell? ⟨w.heap.size + 2, 1, none⟩ = some (.string cS) := by rw [hW0]; simp [go_sem]
  have hZ0 : W0.heap.size = w.heap.size + 3 := by rw [hW0]; simp
  have HL0 := Lib.hid (show w.heap.size < W0.heap.size by rw [hZ0]; omega)
  have HL1 := Lib.hid (show w.heap.size + 1 < W0.heap.size by rw [hZ0]; omega)
  have HL2 := Lib.hid (show w.heap.size + 2 < W0.heap.size by rw [hZ0]; omega)
  have HW0 := Lib.hid hW0
  have HB := Lib.hid hB0
  clear hB0 hZ0 hW0
  have HLV := Lib.hid live_c
  have HNE := Lib.hid hne
  clear hne
  go_enter Tryd.func7, Tryd.ntmps7
  go_wp2_with fail
  rw [← HW0.out]
  refine (HS.out _).mono ?_
  rintro e w1 ⟨rfl, hb1⟩
  have hB1 : Below W0.heap.size W0 (w1) := hb1
  have n0_0 := (hB1.cell (p := ⟨w.heap.size, 0, none⟩) HL0.out).trans f0_0
  have n0_1 := (hB1.cell (p := ⟨w.heap.size, 1, none⟩) HL0.out).trans f0_1
  have n1_0 := (hB1.cell (p := ⟨w.heap.size + 1, 0, none⟩) HL1.out).trans f1_0
  have n1_1 := (hB1.cell (p := ⟨w.heap.size + 1, 1, none⟩) HL1.out).trans f1_1
  have n2_0 := (hB1.cell (p := ⟨w.heap.size + 2, 0, none⟩) HL2.out).trans f2_0
  have n2_1 := (hB1.cell (p := ⟨w.heap.size + 2, 1, none⟩) HL2.out).trans f2_1
  clear f0_0 f0_1 f1_0 f1_1 f2_0 f2_1
  have HX1 := Lib.hid hB1
  have HY1 := Lib.hid hb1.size
  clear hB1 hb1
  go_wp2_with fail
  have HL0 := Lib.hid (Nat.lt_of_lt_of_le HL0.out HX1.out.size)
  have HL1 := Lib.hid (Nat.lt_of_lt_of_le HL1.out HX1.out.size)
  have HL2 := Lib.hid (Nat.lt_of_lt_of_le HL2.out HX1.out.size)
  have HB := Lib.hid (HB.out.trans (HX1.out.mono HB.out.size))
  clear HX1
  have f0_0 := n0_0
  have f0_1 := n0_1
  have f1_0 := n1_0
  have f1_1 := n1_1
  have f2_0 := n2_0
  have f2_1 := n2_1
  clear n0_0 n0_1 n1_0 n1_1 n2_0 n2_1
  refine (H1.out _).mono ?_
  rintro e w2 ⟨rfl, hb2⟩
  have hB2 : Below w1.heap.size w1 (w2.alloc (.cells #[.bool sB, .string sS] 24)) := ((hb2).alloc (by have := hb2.size; simp; try omega) _)
  have n0_0 := (hB2.cell (p := ⟨w.heap.size, 0, none⟩) HL0.out).trans f0_0
  have n0_1 := (hB2.cell (p := ⟨w.heap.size, 1, none⟩) HL0.out).trans f0_1
  have n1_0 := (hB2.cell (p := ⟨w.heap.size + 1, 0, none⟩) HL1.out).trans f1_0
  have n1_1 := (hB2.cell (p := ⟨w.heap.size + 1, 1, none⟩) HL1.out).trans f1_1
  have n2_0 := (hB2.cell (p := ⟨w.heap.size + 2, 0, none⟩) HL2.out).trans f2_0
  have n2_1 := (hB2.cell (p := ⟨w.heap.size + 2, 1, none⟩) HL2.out).trans f2_1
  have n3_0 : (w2.alloc (.cells #[.bool sB, .string sS] 24)).cell? ⟨w2.heap.size, 0, none⟩ = some (.bool sB) := by simp [go_sem]
  have n3_1 : (w2.alloc (.cells #[.bool sB, .string sS] 24)).cell? ⟨w2.heap.size, 1, none⟩ = some (.string sS) := by simp [go_sem]
  clear f0_0 f0_1 f1_0 f1_1 f2_0 f2_1
  have HX2 := Lib.hid hB2
  have HY2 := Lib.hid hb2.size
  clear hB2 hb2
  go_wp2_with fail
  obtain ⟨W2, hW2⟩ : ∃ W2, W2 = w2.alloc (.cells #[.bool sB, .string sS] 24) := ⟨_, rfl⟩
  have hZ2 : W2.heap.size = w2.heap.size + 1 := by rw [hW2]; simp
  rw [← hW2] at HX2 ⊢
  rw [← hW2] at n0_0 n0_1
  rw [← hW2] at n1_0 n1_1
  rw [← hW2] at n2_0 n2_1
  rw [← hW2] at n3_0 n3_1
  obtain ⟨g2, hg2⟩ : ∃ g2, w2.heap.size = g2 := ⟨_, rfl⟩
  rw [hg2] at n3_0 n3_1
  rw [hg2] at hZ2 HY2 ⊢
  clear hW2 hg2
  have HL0 := Lib.hid (Nat.lt_of_lt_of_le HL0.out HX2.out.size)
  have HL1 := Lib.hid (Nat.lt_of_lt_of_le HL1.out HX2.out.size)
  have HL2 := Lib.hid (Nat.lt_of_lt_of_le HL2.out HX2.out.size)
  have HL3 := Lib.hid (show g2 < W2.heap.size by rw [hZ2]; omega)
  clear hZ2 HY2
  have HB := Lib.hid (HB.out.trans (HX2.out.mono HB.out.size))
  clear HX2
  have f0_0 := n0_0
  have f0_1 := n0_1
  have f1_0 := n1_0
  have f1_1 := n1_1
  have f2_0 := n2_0
  have f2_1 := n2_1
  have f3_0 := n3_0
  have f3_1 := n3_1
  clear n0_0 n0_1 n1_0 n1_1 n2_0 n2_1 n3_0 n3_1
  refine (H2.out _).mono ?_
  rintro e w3 ⟨rfl, hb3⟩
  have hB3 : Below W2.heap.size W2 (w3.alloc (.cells #[.bool pB, .string pS] 24)) := ((hb3).alloc (by have := hb3.size; simp; try omega) _)
  have n0_0 := (hB3.cell (p := ⟨w.heap.size, 0, none⟩) HL0.out).trans f0_0
  have n0_1 := (hB3.cell (p := ⟨w.heap.size, 1, none⟩) HL0.out).trans f0_1
  have n1_0 := (hB3.cell (p := ⟨w.heap.size + 1, 0, none⟩) HL1.out).trans f1_0
  have n1_1 := (hB3.cell (p := ⟨w.heap.size + 1, 1, none⟩) HL1.out).trans f1_1
  have n2_0 := (hB3.cell (p := ⟨w.heap.size + 2, 0, none⟩) HL2.out).trans f2_0
  have n2_1 := (hB3.cell (p := ⟨w.heap.size + 2, 1, none⟩) HL2.out).trans f2_1
  have n3_0 := (hB3.cell (p := ⟨g2, 0, none⟩) HL3.out).trans f3_0
  have n3_1 := (hB3.cell (p := ⟨g2, 1, none⟩) HL3.out).trans f3_1
  have n4_0 : (w3.alloc (.cells #[.bool pB, .string pS] 24)).cell? ⟨w3.heap.size, 0, none⟩ = some (.bool pB) := by simp [go_sem]
  have n4_1 : (w3.alloc (.cells #[.bool pB, .string pS] 24)).cell? ⟨w3.heap.size, 1, none⟩ = some (.string pS) := by simp [go_sem]
  clear f0_0 f0_1 f1_0 f1_1 f2_0 f2_1 f3_0 f3_1
  have HX3 := Lib.hid hB3
  have HY3 := Lib.hid hb3.size
  clear hB3 hb3
  go_wp2_with fail
  obtain ⟨W3, hW3⟩ : ∃ W3, W3 = w3.alloc (.cells #[.bool pB, .string pS] 24) := ⟨_, rfl⟩
  have hZ3 : W3.heap.size = w3.heap.size + 1 := by rw [hW3]; simp
  rw [← hW3] at HX3 ⊢
  rw [← hW3] at n0_0 n0_1
  rw [← hW3] at n1_0 n1_1
  rw [← hW3] at n2_0 n2_1
  rw [← hW3] at n3_0 n3_1
  rw [← hW3] at n4_0 n4_1
  obtain ⟨g3, hg3⟩ : ∃ g3, w3.heap.size = g3 := ⟨_, rfl⟩
  rw [hg3] at n4_0 n4_1
  rw [hg3] at hZ3 HY3 ⊢
  clear hW3 hg3
  have HL0 := Lib.hid (Nat.lt_of_lt_of_le HL0.out HX3.out.size)
  have HL1 := Lib.hid (Nat.lt_of_lt_of_le HL1.out HX3.out.size)
  have HL2 := Lib.hid (Nat.lt_of_lt_of_le HL2.out HX3.out.size)
  have HL3 := Lib.hid (Nat.lt_of_lt_of_le HL3.out HX3.out.size)
  have HL4 := Lib.hid (show g3 < W3.heap.size by rw [hZ3]; omega)
  clear hZ3 HY3
  have HB := Lib.hid (HB.out.trans (HX3.out.mono HB.out.size))
  clear HX3
  have f0_0 := n0_0
  have f0_1 := n0_1
  have f1_0 := n1_0
  have f1_1 := n1_1
  have f2_0 := n2_0
  have f2_1 := n2_1
  have f3_0 := n3_0
  have f3_1 := n3_1
  have f4_0 := n4_0
  have f4_1 := n4_1
  clear n0_0 n0_1 n1_0 n1_1 n2_0 n2_1 n3_0 n3_1 n4_0 n4_1
  refine (H3.out _).mono ?_
  rintro e w4 ⟨rfl, hb4⟩
  have hB4 : Below W3.heap.size W3 (w4.alloc (.cells #[.bool qB, .string qS] 24)) := ((hb4).alloc (by have := hb4.size; simp; try omega) _)
  have n0_0 := (hB4.cell (p := ⟨w.heap.size, 0, none⟩) HL0.out).trans f0_0
  have n0_1 := (hB4.cell (p := ⟨w.heap.size, 1, none⟩) HL0.out).trans f0_1
  have n1_0 := (hB4.cell (p := ⟨w.heap.size + 1, 0, none⟩) HL1.out).trans f1_0
  have n1_1 := (hB4.cell (p := ⟨w.heap.size + 1, 1, none⟩) HL1.out).trans f1_1
  have n2_0 := (hB4.cell (p := ⟨w.heap.size + 2, 0, none⟩) HL2.out).trans f2_0
  have n2_1 := (hB4.cell (p := ⟨w.heap.size + 2, 1, none⟩) HL2.out).trans f2_1
  have n3_0 := (hB4.cell (p := ⟨g2, 0, none⟩) HL3.out).trans f3_0
  have n3_1 := (hB4.cell (p := ⟨g2, 1, none⟩) HL3.out).trans f3_1
  have n4_0 := (hB4.cell (p := ⟨g3, 0, none⟩) HL4.out).trans f4_0
  have n4_1 := (hB4.cell (p := ⟨g3, 1, none⟩) HL4.out).trans f4_1
  have n5_0 : (w4.alloc (.cells #[.bool qB, .string qS] 24)).cell? ⟨w4.heap.size, 0, none⟩ = some (.bool qB) := by simp [go_sem]
  have n5_1 : (w4.alloc (.cells #[.bool qB, .string qS] 24)).cell? ⟨w4.heap.size, 1, none⟩ = some (.string qS) := by simp [go_sem]
  clear f0_0 f0_1 f1_0 f1_1 f2_0 f2_1 f3_0 f3_1 f4_0 f4_1
  have HX4 := Lib.hid hB4
  have HY4 := Lib.hid hb4.size
  clear hB4 hb4
  go_wp2_with fail
  obtain ⟨W4, hW4⟩ : ∃ W4, W4 = w4.alloc (.cells #[.bool qB, .string qS] 24) := ⟨_, rfl⟩
  have hZ4 : W4.heap.size = w4.heap.size + 1 := by rw [hW4]; simp
  rw [← hW4] at HX4 ⊢
  rw [← hW4] at n0_0 n0_1
  rw [← hW4] at n1_0 n1_1
  rw [← hW4] at n2_0 n2_1
  rw [← hW4] at n3_0 n3_1
  rw [← hW4] at n4_0 n4_1
  rw [← hW4] at n5_0 n5_1
  obtain ⟨g4, hg4⟩ : ∃ g4, w4.heap.size = g4 := ⟨_, rfl⟩
  rw [hg4] at n5_0 n5_1
  rw [hg4] at hZ4 HY4 ⊢
  clear hW4 hg4
  have HL0 := Lib.hid (Nat.lt_of_lt_of_le HL0.out HX4.out.size)
  have HL1 := Lib.hid (Nat.lt_of_lt_of_le HL1.out HX4.out.size)
  have HL2 := Lib.hid (Nat.lt_of_lt_of_le HL2.out HX4.out.size)
  have HL3 := Lib.hid (Nat.lt_of_lt_of_le HL3.out HX4.out.size)
  have HL4 := Lib.hid (Nat.lt_of_lt_of_le HL4.out HX4.out.size)
  have HL5 := Lib.hid (show g4 < W4.heap.size by rw [hZ4]; omega)
  clear hZ4 HY4
  have HB := Lib.hid (HB.out.trans (HX4.out.mono HB.out.size))
  clear HX4
  have f0_0 := n0_0
  have f0_1 := n0_1
  have f1_0 := n1_0
  have f1_1 := n1_1
  have f2_0 := n2_0
  have f2_1 := n2_1
  have f3_0 := n3_0
  have f3_1 := n3_1
  have f4_0 := n4_0
  have f4_1 := n4_1
  have f5_0 := n5_0
  have f5_1 := n5_1
  clear n0_0 n0_1 n1_0 n1_1 n2_0 n2_1 n3_0 n3_1 n4_0 n4_1 n5_0 n5_1
  refine (H4.out _).mono ?_
  rintro e w5 ⟨rfl, hb5⟩
  have hB5 : Below W4.heap.size W4 (w5.alloc (.cells #[.bool rB, .string rS] 24)) := ((hb5).alloc (by have := hb5.size; simp; try omega) _)
  have n0_0 := (hB5.cell (p := ⟨w.heap.size, 0, none⟩) HL0.out).trans f0_0
  have n0_1 := (hB5.cell (p := ⟨w.heap.size, 1, none⟩) HL0.out).trans f0_1
  have n1_0 := (hB5.cell (p := ⟨w.heap.size + 1, 0, none⟩) HL1.out).trans f1_0
  have n1_1 := (hB5.cell (p := ⟨w.heap.size + 1, 1, none⟩) HL1.out).trans f1_1
  have n2_0 := (hB5.cell (p := ⟨w.heap.size + 2, 0, none⟩) HL2.out).trans f2_0
  have n2_1 := (hB5.cell (p := ⟨w.heap.size + 2, 1, none⟩) HL2.out).trans f2_1
  have n3_0 := (hB5.cell (p := ⟨g2, 0, none⟩) HL3.out).trans f3_0
  have n3_1 := (hB5.cell (p := ⟨g2, 1, none⟩) HL3.out).trans f3_1
  have n4_0 := (hB5.cell (p := ⟨g3, 0, none⟩) HL4.out).trans f4_0
  have n4_1 := (hB5.cell (p := ⟨g3, 1, none⟩) HL4.out).trans f4_1
  have n5_0 := (hB5.cell (p := ⟨g4, 0, none⟩) HL5.out).trans f5_0
  have n5_1 := (hB5.cell (p := ⟨g4, 1, none⟩) HL5.out).trans f5_1
  have n6_0 : (w5.alloc (.cells #[.bool rB, .string rS] 24)).cell? ⟨w5.heap.size, 0, none⟩ = some (.bool rB) := by simp [go_sem]
  have n6_1 : (w5.alloc (.cells #[.bool rB, .string rS] 24)).cell? ⟨w5.heap.size, 1, none⟩ = some (.string rS) := by simp [go_sem]
  clear f0_0 f0_1 f1_0 f1_1 f2_0 f2_1 f3_0 f3_1 f4_0 f4_1 f5_0 f5_1
  have HX5 := Lib.hid hB5
  have HY5 := Lib.hid hb5.size
  clear hB5 hb5
  go_wp2_with fail
  obtain ⟨W5, hW5⟩ : ∃ W5, W5 = w5.alloc (.cells #[.bool rB, .string rS] 24) := ⟨_, rfl⟩
  have hZ5 : W5.heap.size = w5.heap.size + 1 := by rw [hW5]; simp
  rw [← hW5] at HX5 ⊢
  rw [← hW5] at n0_0 n0_1
  rw [← hW5] at n1_0 n1_1
  rw [← hW5] at n2_0 n2_1
  rw [← hW5] at n3_0 n3_1
  rw [← hW5] at n4_0 n4_1
  rw [← hW5] at n5_0 n5_1
  rw [← hW5] at n6_0 n6_1
  obtain ⟨g5, hg5⟩ : ∃ g5, w5.heap.size = g5 := ⟨_, rfl⟩
  rw [hg5] at n6_0 n6_1
  rw [hg5] at hZ5 HY5 ⊢
  clear hW5 hg5
  have HL0 := Lib.hid (Nat.lt_of_lt_of_le HL0.out HX5.out.size)
  have HL1 := Lib.hid (Nat.lt_of_lt_of_le HL1.out HX5.out.size)
  have HL2 := Lib.hid (Nat.lt_of_lt_of_le HL2.out HX5.out.size)
  have HL3 := Lib.hid (Nat.lt_of_lt_of_le HL3.out HX5.out.size)
  have HL4 := Lib.hid (Nat.lt_of_lt_of_le HL4.out HX5.out.size)
  have HL5 := Lib.hid (Nat.lt_of_lt_of_le HL5.out HX5.out.size)
  have HL6 := Lib.hid (show g5 < W5.heap.size by rw [hZ5]; omega)
  clear hZ5 HY5
  have HB := Lib.hid (HB.out.trans (HX5.out.mono HB.out.size))
  clear HX5
  have f0_0 := n0_0
  have f0_1 := n0_1
  have f1_0 := n1_0
  have f1_1 := n1_1
  have f2_0 := n2_0
  have f2_1 := n2_1
  have f3_0 := n3_0
  have f3_1 := n3_1
  have f4_0 := n4_0
  have f4_1 := n4_1
  have f5_0 := n5_0
  have f5_1 := n5_1
  have f6_0 := n6_0
  have f6_1 := n6_1
  clear n0_0 n0_1 n1_0 n1_1 n2_0 n2_1 n3_0 n3_1 n4_0 n4_1 n5_0 n5_1 n6_0 n6_1
  refine (H5.out _).mono ?_
  rintro e w6 ⟨rfl, hb6⟩
  have hB6 : Below W5.heap.size W5 (w6.alloc (.cells #[.bool tB, .string tS] 24)) := ((hb6).alloc (by have := hb6.size; simp; try omega) _)
  have n0_0 := (hB6.cell (p := ⟨w.heap.size, 0, none⟩) HL0.out).trans f0_0
  have n0_1 := (hB6.cell (p := ⟨w.heap.size, 1, none⟩) HL0.out).trans f0_1
  have n1_0 := (hB6.cell (p := ⟨w.heap.size + 1, 0, none⟩) HL1.out).trans f1_0
  have n1_1 := (hB6.cell (p := ⟨w.heap.size + 1, 1, none⟩) HL1.out).trans f1_1
  have n2_0 := (hB6.cell (p := ⟨w.heap.size + 2, 0, none⟩) HL2.out).trans f2_0
  have n2_1 := (hB6.cell (p := ⟨w.heap.size + 2, 1, none⟩) HL2.out).trans f2_1
  have n3_0 := (hB6.cell (p := ⟨g2, 0, none⟩) HL3.out).trans f3_0
  have n3_1 := (hB6.cell (p := ⟨g2, 1, none⟩) HL3.out).trans f3_1
  have n4_0 := (hB6.cell (p := ⟨g3, 0, none⟩) HL4.out).trans f4_0
  have n4_1 := (hB6.cell (p := ⟨g3, 1, none⟩) HL4.out).trans f4_1
  have n5_0 := (hB6.cell (p := ⟨g4, 0, none⟩) HL5.out).trans f5_0
  have n5_1 := (hB6.cell (p := ⟨g4, 1, none⟩) HL5.out).trans f5_1
  have n6_0 := (hB6.cell (p := ⟨g5, 0, none⟩) HL6.out).trans f6_0
  have n6_1 := (hB6.cell (p := ⟨g5, 1, none⟩) HL6.out).trans f6_1
  have n7_0 : (w6.alloc (.cells #[.bool tB, .string tS] 24)).cell? ⟨w6.heap.size, 0, none⟩ = some (.bool tB) := by simp [go_sem]
  have n7_1 : (w6.alloc (.cells #[.bool tB, .string tS] 24)).cell? ⟨w6.heap.size, 1, none⟩ = some (.string tS) := by simp [go_sem]
  clear f0_0 f0_1 f1_0 f1_1 f2_0 f2_1 f3_0 f3_1 f4_0 f4_1 f5_0 f5_1 f6_0 f6_1
  have HX6 := Lib.hid hB6
  have HY6 := Lib.hid hb6.size
  clear hB6 hb6
  go_wp2_with fail
  obtain ⟨W6, hW6⟩ : ∃ W6, W6 = w6.alloc (.cells #[.bool tB, .string tS] 24) := ⟨_, rfl⟩
  have hZ6 : W6.heap.size = w6.heap.size + 1 := by rw [hW6]; simp
  rw [← hW6] at HX6 ⊢
  rw [← hW6] at n0_0 n0_1
  rw [← hW6] at n1_0 n1_1
  rw [← hW6] at n2_0 n2_1
  rw [← hW6] at n3_0 n3_1
  rw [← hW6] at n4_0 n4_1
  rw [← hW6] at n5_0 n5_1
  rw [← hW6] at n6_0 n6_1
  rw [← hW6] at n7_0 n7_1
  obtain ⟨g6, hg6⟩ : ∃ g6, w6.heap.size = g6 := ⟨_, rfl⟩
  rw [hg6] at n7_0 n7_1
  rw [hg6] at hZ6 HY6 ⊢
  clear hW6 hg6
  have HL0 := Lib.hid (Nat.lt_of_lt_of_le HL0.out HX6.out.size)
  have HL1 := Lib.hid (Nat.lt_of_lt_of_le HL1.out HX6.out.size)
  have HL2 := Lib.hid (Nat.lt_of_lt_of_le HL2.out HX6.out.size)
  have HL3 := Lib.hid (Nat.lt_of_lt_of_le HL3.out HX6.out.size)
  have HL4 := Lib.hid (Nat.lt_of_lt_of_le HL4.out HX6.out.size)
  have HL5 := Lib.hid (Nat.lt_of_lt_of_le HL5.out HX6.out.size)
  have HL6 := Lib.hid (Nat.lt_of_lt_of_le HL6.out HX6.out.size)
  have HL7 := Lib.hid (show g6 < W6.heap.size by rw [hZ6]; omega)
  clear hZ6 HY6
  have HB := Lib.hid (HB.out.trans (HX6.out.mono HB.out.size))
  clear HX6
  have f0_0 := n0_0
  have f0_1 := n0_1
  have f1_0 := n1_0
  have f1_1 := n1_1
  have f2_0 := n2_0
  have f2_1 := n2_1
  have f3_0 := n3_0
  have f3_1 := n3_1
  have f4_0 := n4_0
  have f4_1 := n4_1
  have f5_0 := n5_0
  have f5_1 := n5_1
  have f6_0 := n6_0
  have f6_1 := n6_1
  have f7_0 := n7_0
  have f7_1 := n7_1
  clear n0_0 n0_1 n1_0 n1_1 n2_0 n2_1 n3_0 n3_1 n4_0 n4_1 n5_0 n5_1 n6_0 n6_1 n7_0 n7_1
  refine (H6.out _).mono ?_
  rintro e w7 ⟨rfl, hb7⟩
  have hB7 : Below W6.heap.size W6 (w7.alloc (.cells #[.bool dB, .string dS] 24)) := ((hb7).alloc (by have := hb7.size; simp; try omega) _)
  have n0_0 := (hB7.cell (p := ⟨w.heap.size, 0, none⟩) HL0.out).trans f0_0
  have n0_1 := (hB7.cell (p := ⟨w.heap.size, 1, none⟩) HL0.out).trans f0_1
  have n1_0 := (hB7.cell (p := ⟨w.heap.size + 1, 0, none⟩) HL1.out).trans f1_0
  have n1_1 := (hB7.cell (p := ⟨w.heap.size + 1, 1, none⟩) HL1.out).trans f1_1
  have n2_0 := (hB7.cell (p := ⟨w.heap.size + 2, 0, none⟩) HL2.out).trans f2_0
  have n2_1 := (hB7.cell (p := ⟨w.heap.size + 2, 1, none⟩) HL2.out).trans f2_1
  have n3_0 := (hB7.cell (p := ⟨g2, 0, none⟩) HL3.out).trans f3_0
  have n3_1 := (hB7.cell (p := ⟨g2, 1, none⟩) HL3.out).trans f3_1
  have n4_0 := (hB7.cell (p := ⟨g3, 0, none⟩) HL4.out).trans f4_0
  have n4_1 := (hB7.cell (p := ⟨g3, 1, none⟩) HL4.out).trans f4_1
  have n5_0 := (hB7.cell (p := ⟨g4, 0, none⟩) HL5.out).trans f5_0
  have n5_1 := (hB7.cell (p := ⟨g4, 1, none⟩) HL5.out).trans f5_1
  have n6_0 := (hB7.cell (p := ⟨g5, 0, none⟩) HL6.out).trans f6_0
  have n6_1 := (hB7.cell (p := ⟨g5, 1, none⟩) HL6.out).trans f6_1
  have n7_0 := (hB7.cell (p := ⟨g6, 0, none⟩) HL7.out).trans f7_0
  have n7_1 := (hB7.cell (p := ⟨g6, 1, none⟩) HL7.out).trans f7_1
  have n8_0 : (w7.alloc (.cells #[.bool dB, .string dS] 24)).cell? ⟨w7.heap.size, 0, none⟩ = some (.bool dB) := by simp [go_sem]
  have n8_1 : (w7.alloc (.cells #[.bool dB, .string dS] 24)).cell? ⟨w7.heap.size, 1, none⟩ = some (.string dS) := by simp [go_sem]
  clear f0_0 f0_1 f1_0 f1_1 f2_0 f2_1 f3_0 f3_1 f4_0 f4_1 f5_0 f5_1 f6_0 f6_1 f7_0 f7_1
  have HX7 := Lib.hid hB7
  have HY7 := Lib.hid hb7.size
  clear hB7 hb7
  go_upto_region 9 with fail
  obtain ⟨W7, hW7⟩ : ∃ W7, W7 = w7.alloc (.cells #[.bool dB, .string dS] 24) := ⟨_, rfl⟩
  have hZ7 : W7.heap.size = w7.heap.size + 1 := by rw [hW7]; simp
  rw [← hW7] at HX7 ⊢
  rw [← hW7] at n0_0 n0_1
  rw [← hW7] at n1_0 n1_1
  rw [← hW7] at n2_0 n2_1
  rw [← hW7] at n3_0 n3_1
  rw [← hW7] at n4_0 n4_1
  rw [← hW7] at n5_0 n5_1
  rw [← hW7] at n6_0 n6_1
  rw [← hW7] at n7_0 n7_1
  rw [← hW7] at n8_0 n8_1
  obtain ⟨g7, hg7⟩ : ∃ g7, w7.heap.size = g7 := ⟨_, rfl⟩
  rw [hg7] at n8_0 n8_1
  rw [hg7] at hZ7 HY7 ⊢
  clear hW7 hg7
  have HL0 := Lib.hid (Nat.lt_of_lt_of_le HL0.out HX7.out.size)
  have HL1 := Lib.hid (Nat.lt_of_lt_of_le HL1.out HX7.out.size)
  have HL2 := Lib.hid (Nat.lt_of_lt_of_le HL2.out HX7.out.size)
  have HL3 := Lib.hid (Nat.lt_of_lt_of_le HL3.out HX7.out.size)
  have HL4 := Lib.hid (Nat.lt_of_lt_of_le HL4.out HX7.out.size)
  have HL5 := Lib.hid (Nat.lt_of_lt_of_le HL5.out HX7.out.size)
  have HL6 := Lib.hid (Nat.lt_of_lt_of_le HL6.out HX7.out.size)
  have HL7 := Lib.hid (Nat.lt_of_lt_of_le HL7.out HX7.out.size)
  have HL8 := Lib.hid (show g7 < W7.heap.size by rw [hZ7]; omega)
  clear hZ7 HY7
  have HB := Lib.hid (HB.out.trans (HX7.out.mono HB.out.size))
  clear HX7
  have f0_0 := n0_0
  have f0_1 := n0_1
  have f1_0 := n1_0
  have f1_1 := n1_1
  have f2_0 := n2_0
  have f2_1 := n2_1
  have f3_0 := n3_0
  have f3_1 := n3_1
  have f4_0 := n4_0
  have f4_1 := n4_1
  have f5_0 := n5_0
  have f5_1 := n5_1
  have f6_0 := n6_0
  have f6_1 := n6_1
  have f7_0 := n7_0
  have f7_1 := n7_1
  have f8_0 := n8_0
  have f8_1 := n8_1
  clear n0_0 n0_1 n1_0 n1_1 n2_0 n2_1 n3_0 n3_1 n4_0 n4_1 n5_0 n5_1 n6_0 n6_1 n7_0 n7_1 n8_0 n8_1
  by_cases z0 : es = 0
  · subst z0
    by_cases z1 : ep = 0
    · subst z1
      by_cases z2 : eq = 0
      · subst z2
        by_cases z3 : er = 0
        · subst z3
          by_cases z4 : et = 0
          · subst z4
            by_cases z5 : ed = 0
            · subst z5
              exact absurd ⟨rfl, rfl, rfl, rfl, rfl, rfl⟩ HNE.out
            · have y1 : (ed == 0) = false := beq_eq_false_iff_ne.mpr z5
              have y2 : (ed != 0) = true := bne_iff_ne.mpr z5
              clear z5
              go_wp2_with fail
              refine (HLV.out _).mono ?_
              rintro e w8 ⟨rfl, hb8⟩
              have HB := Lib.hid (HB.out.trans (hb8.mono HB.out.size))
              clear hb8
              go_wp2
              go_ret
              exact ⟨rfl, HB.out⟩
          · have y1 : (et == 0) = false := beq_eq_false_iff_ne.mpr z4
            have y2 : (et != 0) = true := bne_iff_ne.mpr z4
            clear z4
            go_wp2_with fail
            refine (HLV.out _).mono ?_
            rintro e w8 ⟨rfl, hb8⟩
            have HB := Lib.hid (HB.out.trans (hb8.mono HB.out.size))
            clear hb8
            go_wp2
            go_ret
            exact ⟨rfl, HB.out⟩
        · have y1 : (er == 0) = false := beq_eq_false_iff_ne.mpr z3
          have y2 : (er != 0) = true := bne_iff_ne.mpr z3
          clear z3
          go_wp2_with fail
          refine (HLV.out _).mono ?_
          rintro e w8 ⟨rfl, hb8⟩
          have HB := Lib.hid (HB.out.trans (hb8.mono HB.out.size))
          clear hb8
          go_wp2
          go_ret
          exact ⟨rfl, HB.out⟩
      · have y1 : (eq == 0) = false := beq_eq_false_iff_ne.mpr z2
        have y2 : (eq != 0) = true := bne_iff_ne.mpr z2
        clear z2
        go_wp2_with fail
        refine (HLV.out _).mono ?_
        rintro e w8 ⟨rfl, hb8⟩
        have HB := Lib.hid (HB.out.trans (hb8.mono HB.out.size))
        clear hb8
        go_wp2
        go_ret
        exact ⟨rfl, HB.out⟩
    · have y1 : (ep == 0) = false := beq_eq_false_iff_ne.mpr z1
      have y2 : (ep != 0) = true := bne_iff_ne.mpr z1
      clear z1
      go_wp2_with fail
      refine (HLV.out _).mono ?_
      rintro e w8 ⟨rfl, hb8⟩
      have HB := Lib.hid (HB.out.trans (hb8.mono HB.out.size))
      clear hb8
      go_wp2
      go_ret
      exact ⟨rfl, HB.out⟩
  · have y1 : (es == 0) = false := beq_eq_false_iff_ne.mpr z0
    have y2 : (es != 0) = true := bne_iff_ne.mpr z0
    clear z0
    go_wp2_with fail
    refine (HLV.out _).mono ?_
    rintro e w8 ⟨rfl, hb8⟩
    have HB := Lib.hid (HB.out.trans (hb8.mono HB.out.size))
    clear hb8
    go_wp2
    go_ret
    exact ⟨rfl, HB.out⟩

set_option maxHeartbeats 2000000 in
set_option maxRecDepth 100000 in
theorem ring_ok (aB bB cB : Bool) (aS bS cS : ByteArray) (HS : Hid (∀ w, Calls Tryd.prog 10 #[.agg #[.bool aB, .string aS], .agg #[.bool bB, .string bS]] w fun e w' => e = .returned (.bool true) ∧ Below w.heap.size w w')) (hc : decide ((400 : Int) < (cS.size : Int)) = false) (sB pB qB rB : Bool) (sS pS qS rS : ByteArray) (H1 : Hid (∀ w, Calls Tryd.prog 27 #[.agg #[.bool aB, .string aS], .agg #[.bool bB, .string bS]] w fun e w' => e = .returned (.tuple #[.agg #[.bool sB, .string sS], .int .i64 0]) ∧ Below w.heap.size w w')) (H2 : Hid (∀ w, Calls Tryd.prog 28 #[.agg #[.bool sB, .string sS], .agg #[.bool cB, .string cS]] w fun e w' => e = .returned (.tuple #[.agg #[.bool pB, .string pS], .int .i64 0]) ∧ Below w.heap.size w w')) (H3 : Hid (∀ w, Calls Tryd.prog 28 #[.agg #[.bool aB, .string aS], .agg #[.bool cB, .string cS]] w fun e w' => e = .returned (.tuple #[.agg #[.bool qB, .string qS], .int .i64 0]) ∧ Below w.heap.size w w')) (H4 : Hid (∀ w, Calls Tryd.prog 28 #[.agg #[.bool bB, .string bS], .agg #[.bool cB, .string cS]] w fun e w' => e = .returned (.tuple #[.agg #[.bool rB, .string rS], .int .i64 0]) ∧ Below w.heap.size w w')) (H5 : Hid (∀ w, Calls Tryd.prog 27 #[.agg #[.bool qB, .string qS], .agg #[.bool rB, .string rS]] w fun e w' => e = .returned (.tuple #[.agg #[.bool pB, .string pS], .int .i64 0]) ∧ Below w.heap.size w w')) (H6 : Hid (∀ w, Calls Tryd.prog 29 #[.agg #[.bool sB, .string sS], .agg #[.bool bB, .string bS]] w fun e w' => e = .returned (.tuple #[.agg #[.bool aB, .string aS], .int .i64 0]) ∧ Below w.heap.size w w')) (w : World) :
    Calls Tryd.prog 7 #[.agg #[.bool aB, .string aS], .agg #[.bool bB, .string bS], .agg #[.bool cB, .string cS]] w fun e w' => e = .returned (.bool true) ∧ Below w.heap.size w w' := by
  obtain ⟨W0, hW0⟩ : ∃ W0, W0 = ((w.alloc (.cells #[.bool aB, .string aS] 24)).alloc (.cells #[.bool bB, .string bS] 24)).alloc (.cells #[.bool cB, .string cS] 24) := ⟨_, rfl⟩
  have hB0 : Below w.heap.size w W0 := by rw [hW0]; exact (((Below.refl _ _).alloc (by simp; try omega) _).alloc (by simp; try omega) _).alloc (by simp; try omega) _
  have f0_0 : W0.cell? ⟨w.heap.size, 0, none⟩ = some (.bool aB) := by rw [hW0]; simp [go_sem]
  have f0_1 : W0.cell? ⟨w.heap.size, 1, none⟩ = some (.string aS) := by rw [hW0]; simp [go_sem]
  have f1_0 : W0.cell? ⟨w.heap.size + 1, 0, none⟩ = some (.bool bB) := by rw [hW0]; simp [go_sem]
  have f1_1 : W0.cell? ⟨w.heap.size + 1, 1, none⟩ = some (.string bS) := by rw [hW0]; simp [go_sem]
  have f2_0 : W0.cell? ⟨w.heap.size + 2, 0, none⟩ = some (.bool cB) := by rw [hW0]; simp [go_sem]
  have f2_1 : W0.cell? ⟨w.heap.size + 2, 1, none⟩ = some (.string cS) := by rw [hW0]; simp [go_sem]
  have hZ0 : W0.heap.size = w.heap.size + 3 := by rw [hW0]; simp
  have HL0 := Lib.hid (show w.heap.size < W0.heap.size by rw [hZ0]; omega)
  have HL1 := Lib.hid (show w.heap.size + 1 < W0.heap.size by rw [hZ0]; omega)
  have HL2 := Lib.hid (show w.heap.size + 2 < W0.heap.size by rw [hZ0]; omega)
  have HW0 := Lib.hid hW0
  have HB := Lib.hid hB0
  clear hB0 hZ0 hW0
  have HLV := Lib.hid live_c
  go_enter Tryd.func7, Tryd.ntmps7
  go_wp2_with fail
  rw [← HW0.out]
  refine (HS.out _).mono ?_
  rintro e w1 ⟨rfl, hb1⟩
  have hB1 : Below W0.heap.size W0 (w1) := hb1
  have n0_0 := (hB1.cell (p := ⟨w.heap.size, 0, none⟩) HL0.out).trans f0_0
  have n0_1 := (hB1.cell (p := ⟨w.heap.size, 1, none⟩) HL0.out).trans f0_1
  have n1_0 := (hB1.cell (p := ⟨w.heap.size + 1, 0, none⟩) HL1.out).trans f1_0
  have n1_1 := (hB1.cell (p := ⟨w.heap.size + 1, 1, none⟩) HL1.out).trans f1_1
  have n2_0 := (hB1.cell (p := ⟨w.heap.size + 2, 0, none⟩) HL2.out).trans f2_0
  have n2_1 := (hB1.cell (p := ⟨w.heap.size + 2, 1, none⟩) HL2.out).trans f2_1
  clear f0_0 f0_1 f1_0 f1_1 f2_0 f2_1
  have HX1 := Lib.hid hB1
  have HY1 := Lib.hid hb1.size
  clear hB1 hb1
  go_wp2_with fail
  have HL0 := Lib.hid (Nat.lt_of_lt_of_le HL0.out HX1.out.size)
  have HL1 := Lib.hid (Nat.lt_of_lt_of_le HL1.out HX1.out.size)
  have HL2 := Lib.hid (Nat.lt_of_lt_of_le HL2.out HX1.out.size)
  have HB := Lib.hid (HB.out.trans (HX1.out.mono HB.out.size))
  clear HX1
  have f0_0 := n0_0
  have f0_1 := n0_1
  have f1_0 := n1_0
  have f1_1 := n1_1
  have f2_0 := n2_0
  have f2_1 := n2_1
  clear n0_0 n0_1 n1_0 n1_1 n2_0 n2_1
  refine (H1.out _).mono ?_
  rintro e w2 ⟨rfl, hb2⟩
  have hB2 : Below w1.heap.size w1 (w2.alloc (.cells #[.bool sB, .string sS] 24)) := ((hb2).alloc (by have := hb2.size; simp; try omega) _)
  have n0_0 := (hB2.cell (p := ⟨w.heap.size, 0, none⟩) HL0.out).trans f0_0
  have n0_1 := (hB2.cell (p := ⟨w.heap.size, 1, none⟩) HL0.out).trans f0_1
  have n1_0 := (hB2.cell (p := ⟨w.heap.size + 1, 0, none⟩) HL1.out).trans f1_0
  have n1_1 := (hB2.cell (p := ⟨w.heap.size + 1, 1, none⟩) HL1.out).trans f1_1
  have n2_0 := (hB2.cell (p := ⟨w.heap.size + 2, 0, none⟩) HL2.out).trans f2_0
  have n2_1 := (hB2.cell (p := ⟨w.heap.size + 2, 1, none⟩) HL2.out).trans f2_1
  have n3_0 : (w2.alloc (.cells #[.bool sB, .string sS] 24)).cell? ⟨w2.heap.size, 0, none⟩ = some (.bool sB) := by simp [go_sem]
  have n3_1 : (w2.alloc (.cells #[.bool sB, .string sS] 24)).cell? ⟨w2.heap.size, 1, none⟩ = some (.string sS) := by simp [go_sem]
  clear f0_0 f0_1 f1_0 f1_1 f2_0 f2_1
  have HX2 := Lib.hid hB2
  have HY2 := Lib.hid hb2.size
  clear hB2 hb2
  go_wp2_with fail
  obtain ⟨W2, hW2⟩ : ∃ W2, W2 = w2.alloc (.cells #[.bool sB, .string sS] 24) := ⟨_, rfl⟩
  have hZ2 : W2.heap.size = w2.heap.size + 1 := by rw [hW2]; simp
  rw [← hW2] at HX2 ⊢
  rw [← hW2] at n0_0 n0_1
  rw [← hW2] at n1_0 n1_1
  rw [← hW2] at n2_0 n2_1
  rw [← hW2] at n3_0 n3_1
  obtain ⟨g2, hg2⟩ : ∃ g2, w2.heap.size = g2 := ⟨_, rfl⟩
  rw [hg2] at n3_0 n3_1
  rw [hg2] at hZ2 HY2 ⊢
  clear hW2 hg2
  have HL0 := Lib.hid (Nat.lt_of_lt_of_le HL0.out HX2.out.size)
  have HL1 := Lib.hid (Nat.lt_of_lt_of_le HL1.out HX2.out.size)
  have HL2 := Lib.hid (Nat.lt_of_lt_of_le HL2.out HX2.out.size)
  have HL3 := Lib.hid (show g2 < W2.heap.size by rw [hZ2]; omega)
  clear hZ2 HY2
  have HB := Lib.hid (HB.out.trans (HX2.out.mono HB.out.size))
  clear HX2
  have f0_0 := n0_0
  have f0_1 := n0_1
  have f1_0 := n1_0
  have f1_1 := n1_1
  have f2_0 := n2_0
  have f2_1 := n2_1
  have f3_0 := n3_0
  have f3_1 := n3_1
  clear n0_0 n0_1 n1_0 n1_1 n2_0 n2_1 n3_0 n3_1
  refine (H2.out _).mono ?_
  rintro e w3 ⟨rfl, hb3⟩
  have hB3 : Below W2.heap.size W2 (w3.alloc (.cells #[.bool pB, .string pS] 24)) := ((hb3).alloc (by have := hb3.size; simp; try omega) _)
  have n0_0 := (hB3.cell (p := ⟨w.heap.size, 0, none⟩) HL0.out).trans f0_0
  have n0_1 := (hB3.cell (p := ⟨w.heap.size, 1, none⟩) HL0.out).trans f0_1
  have n1_0 := (hB3.cell (p := ⟨w.heap.size + 1, 0, none⟩) HL1.out).trans f1_0
  have n1_1 := (hB3.cell (p := ⟨w.heap.size + 1, 1, none⟩) HL1.out).trans f1_1
  have n2_0 := (hB3.cell (p := ⟨w.heap.size + 2, 0, none⟩) HL2.out).trans f2_0
  have n2_1 := (hB3.cell (p := ⟨w.heap.size + 2, 1, none⟩) HL2.out).trans f2_1
  have n3_0 := (hB3.cell (p := ⟨g2, 0, none⟩) HL3.out).trans f3_0
  have n3_1 := (hB3.cell (p := ⟨g2, 1, none⟩) HL3.out).trans f3_1
  have n4_0 : (w3.alloc (.cells #[.bool pB, .string pS] 24)).cell? ⟨w3.heap.size, 0, none⟩ = some (.bool pB) := by simp [go_sem]
  have n4_1 : (w3.alloc (.cells #[.bool pB, .string pS] 24)).cell? ⟨w3.heap.size, 1, none⟩ = some (.string pS) := by simp [go_sem]
  clear f0_0 f0_1 f1_0 f1_1 f2_0 f2_1 f3_0 f3_1
  have HX3 := Lib.hid hB3
  have HY3 := Lib.hid hb3.size
  clear hB3 hb3
  go_wp2_with fail
  obtain ⟨W3, hW3⟩ : ∃ W3, W3 = w3.alloc (.cells #[.bool pB, .string pS] 24) := ⟨_, rfl⟩
  have hZ3 : W3.heap.size = w3.heap.size + 1 := by rw [hW3]; simp
  rw [← hW3] at HX3 ⊢
  rw [← hW3] at n0_0 n0_1
  rw [← hW3] at n1_0 n1_1
  rw [← hW3] at n2_0 n2_1
  rw [← hW3] at n3_0 n3_1
  rw [← hW3] at n4_0 n4_1
  obtain ⟨g3, hg3⟩ : ∃ g3, w3.heap.size = g3 := ⟨_, rfl⟩
  rw [hg3] at n4_0 n4_1
  rw [hg3] at hZ3 HY3 ⊢
  clear hW3 hg3
  have HL0 := Lib.hid (Nat.lt_of_lt_of_le HL0.out HX3.out.size)
  have HL1 := Lib.hid (Nat.lt_of_lt_of_le HL1.out HX3.out.size)
  have HL2 := Lib.hid (Nat.lt_of_lt_of_le HL2.out HX3.out.size)
  have HL3 := Lib.hid (Nat.lt_of_lt_of_le HL3.out HX3.out.size)
  have HL4 := Lib.hid (show g3 < W3.heap.size by rw [hZ3]; omega)
  clear hZ3 HY3
  have HB := Lib.hid (HB.out.trans (HX3.out.mono HB.out.size))
  clear HX3
  have f0_0 := n0_0
  have f0_1 := n0_1
  have f1_0 := n1_0
  have f1_1 := n1_1
  have f2_0 := n2_0
  have f2_1 := n2_1
  have f3_0 := n3_0
  have f3_1 := n3_1
  have f4_0 := n4_0
  have f4_1 := n4_1
  clear n0_0 n0_1 n1_0 n1_1 n2_0 n2_1 n3_0 n3_1 n4_0 n4_1
  refine (H3.out _).mono ?_
  rintro e w4 ⟨rfl, hb4⟩
  have hB4 : Below W3.heap.size W3 (w4.alloc (.cells #[.bool qB, .string qS] 24)) := ((hb4).alloc (by have := hb4.size; simp; try omega) _)
  have n0_0 := (hB4.cell (p := ⟨w.heap.size, 0, none⟩) HL0.out).trans f0_0
  have n0_1 := (hB4.cell (p := ⟨w.heap.size, 1, none⟩) HL0.out).trans f0_1
  have n1_0 := (hB4.cell (p := ⟨w.heap.size + 1, 0, none⟩) HL1.out).trans f1_0
  have n1_1 := (hB4.cell (p := ⟨w.heap.size + 1, 1, none⟩) HL1.out).trans f1_1
  have n2_0 := (hB4.cell (p := ⟨w.heap.size + 2, 0, none⟩) HL2.out).trans f2_0
  have n2_1 := (hB4.cell (p := ⟨w.heap.size + 2, 1, none⟩) HL2.out).trans f2_1
  have n3_0 := (hB4.cell (p := ⟨g2, 0, none⟩) HL3.out).trans f3_0
  have n3_1 := (hB4.cell (p := ⟨g2, 1, none⟩) HL3.out).trans f3_1
  have n4_0 := (hB4.cell (p := ⟨g3, 0, none⟩) HL4.out).trans f4_0
  have n4_1 := (hB4.cell (p := ⟨g3, 1, none⟩) HL4.out).trans f4_1
  have n5_0 : (w4.alloc (.cells #[.bool qB, .string qS] 24)).cell? ⟨w4.heap.size, 0, none⟩ = some (.bool qB) := by simp [go_sem]
  have n5_1 : (w4.alloc (.cells #[.bool qB, .string qS] 24)).cell? ⟨w4.heap.size, 1, none⟩ = some (.string qS) := by simp [go_sem]
  clear f0_0 f0_1 f1_0 f1_1 f2_0 f2_1 f3_0 f3_1 f4_0 f4_1
  have HX4 := Lib.hid hB4
  have HY4 := Lib.hid hb4.size
  clear hB4 hb4
  go_wp2_with fail
  obtain ⟨W4, hW4⟩ : ∃ W4, W4 = w4.alloc (.cells #[.bool qB, .string qS] 24) := ⟨_, rfl⟩
  have hZ4 : W4.heap.size = w4.heap.size + 1 := by rw [hW4]; simp
  rw [← hW4] at HX4 ⊢
  rw [← hW4] at n0_0 n0_1
  rw [← hW4] at n1_0 n1_1
  rw [← hW4] at n2_0 n2_1
  rw [← hW4] at n3_0 n3_1
  rw [← hW4] at n4_0 n4_1
  rw [← hW4] at n5_0 n5_1
  obtain ⟨g4, hg4⟩ : ∃ g4, w4.heap.size = g4 := ⟨_, rfl⟩
  rw [hg4] at n5_0 n5_1
  rw [hg4] at hZ4 HY4 ⊢
  clear hW4 hg4
  have HL0 := Lib.hid (Nat.lt_of_lt_of_le HL0.out HX4.out.size)
  have HL1 := Lib.hid (Nat.lt_of_lt_of_le HL1.out HX4.out.size)
  have HL2 := Lib.hid (Nat.lt_of_lt_of_le HL2.out HX4.out.size)
  have HL3 := Lib.hid (Nat.lt_of_lt_of_le HL3.out HX4.out.size)
  have HL4 := Lib.hid (Nat.lt_of_lt_of_le HL4.out HX4.out.size)
  have HL5 := Lib.hid (show g4 < W4.heap.size by rw [hZ4]; omega)
  clear hZ4 HY4
  have HB := Lib.hid (HB.out.trans (HX4.out.mono HB.out.size))
  clear HX4
  have f0_0 := n0_0
  have f0_1 := n0_1
  have f1_0 := n1_0
  have f1_1 := n1_1
  have f2_0 := n2_0
  have f2_1 := n2_1
  have f3_0 := n3_0
  have f3_1 := n3_1
  have f4_0 := n4_0
  have f4_1 := n4_1
  have f5_0 := n5_0
  have f5_1 := n5_1
  clear n0_0 n0_1 n1_0 n1_1 n2_0 n2_1 n3_0 n3_1 n4_0 n4_1 n5_0 n5_1
  refine (H4.out _).mono ?_
  rintro e w5 ⟨rfl, hb5⟩
  have hB5 : Below W4.heap.size W4 (w5.alloc (.cells #[.bool rB, .string rS] 24)) := ((hb5).alloc (by have := hb5.size; simp; try omega) _)
  have n0_0 := (hB5.cell (p := ⟨w.heap.size, 0, none⟩) HL0.out).trans f0_0
  have n0_1 := (hB5.cell (p := ⟨w.heap.size, 1, none⟩) HL0.out).trans f0_1
  have n1_0 := (hB5.cell (p := ⟨w.heap.size + 1, 0, none⟩) HL1.out).trans f1_0
  have n1_1 := (hB5.cell (p := ⟨w.heap.size + 1, 1, none⟩) HL1.out).trans f1_1
  have n2_0 := (hB5.cell (p := ⟨w.heap.size + 2, 0, none⟩) HL2.out).trans f2_0
  have n2_1 := (hB5.cell (p := ⟨w.heap.size + 2, 1, none⟩) HL2.out).trans f2_1
  have n3_0 := (hB5.cell (p := ⟨g2, 0, none⟩) HL3.out).trans f3_0
  have n3_1 := (hB5.cell (p := ⟨g2, 1, none⟩) HL3.out).trans f3_1
  have n4_0 := (hB5.cell (p := ⟨g3, 0, none⟩) HL4.out).trans f4_0
  have n4_1 := (hB5.cell (p := ⟨g3, 1, none⟩) HL4.out).trans f4_1
  have n5_0 := (hB5.cell (p := ⟨g4, 0, none⟩) HL5.out).trans f5_0
  have n5_1 := (hB5.cell (p := ⟨g4, 1, none⟩) HL5.out).trans f5_1
  have n6_0 : (w5.alloc (.cells #[.bool rB, .string rS] 24)).cell? ⟨w5.heap.size, 0, none⟩ = some (.bool rB) := by simp [go_sem]
  have n6_1 : (w5.alloc (.cells #[.bool rB, .string rS] 24)).cell? ⟨w5.heap.size, 1, none⟩ = some (.string rS) := by simp [go_sem]
  clear f0_0 f0_1 f1_0 f1_1 f2_0 f2_1 f3_0 f3_1 f4_0 f4_1 f5_0 f5_1
  have HX5 := Lib.hid hB5
  have HY5 := Lib.hid hb5.size
  clear hB5 hb5
  go_wp2_with fail
  obtain ⟨W5, hW5⟩ : ∃ W5, W5 = w5.alloc (.cells #[.bool rB, .string rS] 24) := ⟨_, rfl⟩
  have hZ5 : W5.heap.size = w5.heap.size + 1 := by rw [hW5]; simp
  rw [← hW5] at HX5 ⊢
  rw [← hW5] at n0_0 n0_1
  rw [← hW5] at n1_0 n1_1
  rw [← hW5] at n2_0 n2_1
  rw [← hW5] at n3_0 n3_1
  rw [← hW5] at n4_0 n4_1
  rw [← hW5] at n5_0 n5_1
  rw [← hW5] at n6_0 n6_1
  obtain ⟨g5, hg5⟩ : ∃ g5, w5.heap.size = g5 := ⟨_, rfl⟩
  rw [hg5] at n6_0 n6_1
  rw [hg5] at hZ5 HY5 ⊢
  clear hW5 hg5
  have HL0 := Lib.hid (Nat.lt_of_lt_of_le HL0.out HX5.out.size)
  have HL1 := Lib.hid (Nat.lt_of_lt_of_le HL1.out HX5.out.size)
  have HL2 := Lib.hid (Nat.lt_of_lt_of_le HL2.out HX5.out.size)
  have HL3 := Lib.hid (Nat.lt_of_lt_of_le HL3.out HX5.out.size)
  have HL4 := Lib.hid (Nat.lt_of_lt_of_le HL4.out HX5.out.size)
  have HL5 := Lib.hid (Nat.lt_of_lt_of_le HL5.out HX5.out.size)
  have HL6 := Lib.hid (show g5 < W5.heap.size by rw [hZ5]; omega)
  clear hZ5 HY5
  have HB := Lib.hid (HB.out.trans (HX5.out.mono HB.out.size))
  clear HX5
  have f0_0 := n0_0
  have f0_1 := n0_1
  have f1_0 := n1_0
  have f1_1 := n1_1
  have f2_0 := n2_0
  have f2_1 := n2_1
  have f3_0 := n3_0
  have f3_1 := n3_1
  have f4_0 := n4_0
  have f4_1 := n4_1
  have f5_0 := n5_0
  have f5_1 := n5_1
  have f6_0 := n6_0
  have f6_1 := n6_1
  clear n0_0 n0_1 n1_0 n1_1 n2_0 n2_1 n3_0 n3_1 n4_0 n4_1 n5_0 n5_1 n6_0 n6_1
  refine (H5.out _).mono ?_
  rintro e w6 ⟨rfl, hb6⟩
  have hB6 : Below W5.heap.size W5 (w6.alloc (.cells #[.bool pB, .string pS] 24)) := ((hb6).alloc (by have := hb6.size; simp; try omega) _)
  have n0_0 := (hB6.cell (p := ⟨w.heap.size, 0, none⟩) HL0.out).trans f0_0
  have n0_1 := (hB6.cell (p := ⟨w.heap.size, 1, none⟩) HL0.out).trans f0_1
  have n1_0 := (hB6.cell (p := ⟨w.heap.size + 1, 0, none⟩) HL1.out).trans f1_0
  have n1_1 := (hB6.cell (p := ⟨w.heap.size + 1, 1, none⟩) HL1.out).trans f1_1
  have n2_0 := (hB6.cell (p := ⟨w.heap.size + 2, 0, none⟩) HL2.out).trans f2_0
  have n2_1 := (hB6.cell (p := ⟨w.heap.size + 2, 1, none⟩) HL2.out).trans f2_1
  have n3_0 := (hB6.cell (p := ⟨g2, 0, none⟩) HL3.out).trans f3_0
  have n3_1 := (hB6.cell (p := ⟨g2, 1, none⟩) HL3.out).trans f3_1
  have n4_0 := (hB6.cell (p := ⟨g3, 0, none⟩) HL4.out).trans f4_0
  have n4_1 := (hB6.cell (p := ⟨g3, 1, none⟩) HL4.out).trans f4_1
  have n5_0 := (hB6.cell (p := ⟨g4, 0, none⟩) HL5.out).trans f5_0
  have n5_1 := (hB6.cell (p := ⟨g4, 1, none⟩) HL5.out).trans f5_1
  have n6_0 := (hB6.cell (p := ⟨g5, 0, none⟩) HL6.out).trans f6_0
  have n6_1 := (hB6.cell (p := ⟨g5, 1, none⟩) HL6.out).trans f6_1
  have n7_0 : (w6.alloc (.cells #[.bool pB, .string pS] 24)).cell? ⟨w6.heap.size, 0, none⟩ = some (.bool pB) := by simp [go_sem]
  have n7_1 : (w6.alloc (.cells #[.bool pB, .string pS] 24)).cell? ⟨w6.heap.size, 1, none⟩ = some (.string pS) := by simp [go_sem]
  clear f0_0 f0_1 f1_0 f1_1 f2_0 f2_1 f3_0 f3_1 f4_0 f4_1 f5_0 f5_1 f6_0 f6_1
  have HX6 := Lib.hid hB6
  have HY6 := Lib.hid hb6.size
  clear hB6 hb6
  go_wp2_with fail
  obtain ⟨W6, hW6⟩ : ∃ W6, W6 = w6.alloc (.cells #[.bool pB, .string pS] 24) := ⟨_, rfl⟩
  have hZ6 : W6.heap.size = w6.heap.size + 1 := by rw [hW6]; simp
  rw [← hW6] at HX6 ⊢
  rw [← hW6] at n0_0 n0_1
  rw [← hW6] at n1_0 n1_1
  rw [← hW6] at n2_0 n2_1
  rw [← hW6] at n3_0 n3_1
  rw [← hW6] at n4_0 n4_1
  rw [← hW6] at n5_0 n5_1
  rw [← hW6] at n6_0 n6_1
  rw [← hW6] at n7_0 n7_1
  obtain ⟨g6, hg6⟩ : ∃ g6, w6.heap.size = g6 := ⟨_, rfl⟩
  rw [hg6] at n7_0 n7_1
  rw [hg6] at hZ6 HY6 ⊢
  clear hW6 hg6
  have HL0 := Lib.hid (Nat.lt_of_lt_of_le HL0.out HX6.out.size)
  have HL1 := Lib.hid (Nat.lt_of_lt_of_le HL1.out HX6.out.size)
  have HL2 := Lib.hid (Nat.lt_of_lt_of_le HL2.out HX6.out.size)
  have HL3 := Lib.hid (Nat.lt_of_lt_of_le HL3.out HX6.out.size)
  have HL4 := Lib.hid (Nat.lt_of_lt_of_le HL4.out HX6.out.size)
  have HL5 := Lib.hid (Nat.lt_of_lt_of_le HL5.out HX6.out.size)
  have HL6 := Lib.hid (Nat.lt_of_lt_of_le HL6.out HX6.out.size)
  have HL7 := Lib.hid (show g6 < W6.heap.size by rw [hZ6]; omega)
  clear hZ6 HY6
  have HB := Lib.hid (HB.out.trans (HX6.out.mono HB.out.size))
  clear HX6
  have f0_0 := n0_0
  have f0_1 := n0_1
  have f1_0 := n1_0
  have f1_1 := n1_1
  have f2_0 := n2_0
  have f2_1 := n2_1
  have f3_0 := n3_0
  have f3_1 := n3_1
  have f4_0 := n4_0
  have f4_1 := n4_1
  have f5_0 := n5_0
  have f5_1 := n5_1
  have f6_0 := n6_0
  have f6_1 := n6_1
  have f7_0 := n7_0
  have f7_1 := n7_1
  clear n0_0 n0_1 n1_0 n1_1 n2_0 n2_1 n3_0 n3_1 n4_0 n4_1 n5_0 n5_1 n6_0 n6_1 n7_0 n7_1
  refine (H6.out _).mono ?_
  rintro e w7 ⟨rfl, hb7⟩
  have hB7 : Below W6.heap.size W6 (w7.alloc (.cells #[.bool aB, .string aS] 24)) := ((hb7).alloc (by have := hb7.size; simp; try omega) _)
  have n0_0 := (hB7.cell (p := ⟨w.heap.size, 0, none⟩) HL0.out).trans f0_0
  have n0_1 := (hB7.cell (p := ⟨w.heap.size, 1, none⟩) HL0.out).trans f0_1
  have n1_0 := (hB7.cell (p := ⟨w.heap.size + 1, 0, none⟩) HL1.out).trans f1_0
  have n1_1 := (hB7.cell (p := ⟨w.heap.size + 1, 1, none⟩) HL1.out).trans f1_1
  have n2_0 := (hB7.cell (p := ⟨w.heap.size + 2, 0, none⟩) HL2.out).trans f2_0
  have n2_1 := (hB7.cell (p := ⟨w.heap.size + 2, 1, none⟩) HL2.out).trans f2_1
  have n3_0 := (hB7.cell (p := ⟨g2, 0, none⟩) HL3.out).trans f3_0
  have n3_1 := (hB7.cell (p := ⟨g2, 1, none⟩) HL3.out).trans f3_1
  have n4_0 := (hB7.cell (p := ⟨g3, 0, none⟩) HL4.out).trans f4_0
  have n4_1 := (hB7.cell (p := ⟨g3, 1, none⟩) HL4.out).trans f4_1
  have n5_0 := (hB7.cell (p := ⟨g4, 0, none⟩) HL5.out).trans f5_0
  have n5_1 := (hB7.cell (p := ⟨g4, 1, none⟩) HL5.out).trans f5_1
  have n6_0 := (hB7.cell (p := ⟨g5, 0, none⟩) HL6.out).trans f6_0
  have n6_1 := (hB7.cell (p := ⟨g5, 1, none⟩) HL6.out).trans f6_1
  have n7_0 := (hB7.cell (p := ⟨g6, 0, none⟩) HL7.out).trans f7_0
  have n7_1 := (hB7.cell (p := ⟨g6, 1, none⟩) HL7.out).trans f7_1
  have n8_0 : (w7.alloc (.cells #[.bool aB, .string aS] 24)).cell? ⟨w7.heap.size, 0, none⟩ = some (.bool aB) := by simp [go_sem]
  have n8_1 : (w7.alloc (.cells #[.bool aB, .string aS] 24)).cell? ⟨w7.heap.size, 1, none⟩ = some (.string aS) := by simp [go_sem]
  clear f0_0 f0_1 f1_0 f1_1 f2_0 f2_1 f3_0 f3_1 f4_0 f4_1 f5_0 f5_1 f6_0 f6_1 f7_0 f7_1
  have HX7 := Lib.hid hB7
  have HY7 := Lib.hid hb7.size
  clear hB7 hb7
  go_wp2_with fail
  obtain ⟨W7, hW7⟩ : ∃ W7, W7 = w7.alloc (.cells #[.bool aB, .string aS] 24) := ⟨_, rfl⟩
  have hZ7 : W7.heap.size = w7.heap.size + 1 := by rw [hW7]; simp
  rw [← hW7] at HX7 ⊢
  rw [← hW7] at n0_0 n0_1
  rw [← hW7] at n1_0 n1_1
  rw [← hW7] at n2_0 n2_1
  rw [← hW7] at n3_0 n3_1
  rw [← hW7] at n4_0 n4_1
  rw [← hW7] at n5_0 n5_1
  rw [← hW7] at n6_0 n6_1
  rw [← hW7] at n7_0 n7_1
  rw [← hW7] at n8_0 n8_1
  obtain ⟨g7, hg7⟩ : ∃ g7, w7.heap.size = g7 := ⟨_, rfl⟩
  rw [hg7] at n8_0 n8_1
  rw [hg7] at hZ7 HY7 ⊢
  clear hW7 hg7
  have HL0 := Lib.hid (Nat.lt_of_lt_of_le HL0.out HX7.out.size)
  have HL1 := Lib.hid (Nat.lt_of_lt_of_le HL1.out HX7.out.size)
  have HL2 := Lib.hid (Nat.lt_of_lt_of_le HL2.out HX7.out.size)
  have HL3 := Lib.hid (Nat.lt_of_lt_of_le HL3.out HX7.out.size)
  have HL4 := Lib.hid (Nat.lt_of_lt_of_le HL4.out HX7.out.size)
  have HL5 := Lib.hid (Nat.lt_of_lt_of_le HL5.out HX7.out.size)
  have HL6 := Lib.hid (Nat.lt_of_lt_of_le HL6.out HX7.out.size)
  have HL7 := Lib.hid (Nat.lt_of_lt_of_le HL7.out HX7.out.size)
  have HL8 := Lib.hid (show g7 < W7.heap.size by rw [hZ7]; omega)
  clear hZ7 HY7
  have HB := Lib.hid (HB.out.trans (HX7.out.mono HB.out.size))
  clear HX7
  have f0_0 := n0_0
  have f0_1 := n0_1
  have f1_0 := n1_0
  have f1_1 := n1_1
  have f2_0 := n2_0
  have f2_1 := n2_1
  have f3_0 := n3_0
  have f3_1 := n3_1
  have f4_0 := n4_0
  have f4_1 := n4_1
  have f5_0 := n5_0
  have f5_1 := n5_1
  have f6_0 := n6_0
  have f6_1 := n6_1
  have f7_0 := n7_0
  have f7_1 := n7_1
  have f8_0 := n8_0
  have f8_1 := n8_1
  clear n0_0 n0_1 n1_0 n1_1 n2_0 n2_1 n3_0 n3_1 n4_0 n4_1 n5_0 n5_1 n6_0 n6_1 n7_0 n7_1 n8_0 n8_1
  refine (HLV.out _).mono ?_
  rintro e w8 ⟨rfl, hb8⟩
  have hB8 : Below W7.heap.size W7 (w8) := hb8
  have n0_0 := (hB8.cell (p := ⟨w.heap.size, 0, none⟩) HL0.out).trans f0_0
  have n0_1 := (hB8.cell (p := ⟨w.heap.size, 1, none⟩) HL0.out).trans f0_1
  have n1_0 := (hB8.cell (p := ⟨w.heap.size + 1, 0, none⟩) HL1.out).trans f1_0
  have n1_1 := (hB8.cell (p := ⟨w.heap.size + 1, 1, none⟩) HL1.out).trans f1_1
  have n2_0 := (hB8.cell (p := ⟨w.heap.size + 2, 0, none⟩) HL2.out).trans f2_0
  have n2_1 := (hB8.cell (p := ⟨w.heap.size + 2, 1, none⟩) HL2.out).trans f2_1
  have n3_0 := (hB8.cell (p := ⟨g2, 0, none⟩) HL3.out).trans f3_0
  have n3_1 := (hB8.cell (p := ⟨g2, 1, none⟩) HL3.out).trans f3_1
  have n4_0 := (hB8.cell (p := ⟨g3, 0, none⟩) HL4.out).trans f4_0
  have n4_1 := (hB8.cell (p := ⟨g3, 1, none⟩) HL4.out).trans f4_1
  have n5_0 := (hB8.cell (p := ⟨g4, 0, none⟩) HL5.out).trans f5_0
  have n5_1 := (hB8.cell (p := ⟨g4, 1, none⟩) HL5.out).trans f5_1
  have n6_0 := (hB8.cell (p := ⟨g5, 0, none⟩) HL6.out).trans f6_0
  have n6_1 := (hB8.cell (p := ⟨g5, 1, none⟩) HL6.out).trans f6_1
  have n7_0 := (hB8.cell (p := ⟨g6, 0, none⟩) HL7.out).trans f7_0
  have n7_1 := (hB8.cell (p := ⟨g6, 1, none⟩) HL7.out).trans f7_1
  have n8_0 := (hB8.cell (p := ⟨g7, 0, none⟩) HL8.out).trans f8_0
  have n8_1 := (hB8.cell (p := ⟨g7, 1, none⟩) HL8.out).trans f8_1
  clear f0_0 f0_1 f1_0 f1_1 f2_0 f2_1 f3_0 f3_1 f4_0 f4_1 f5_0 f5_1 f6_0 f6_1 f7_0 f7_1 f8_0 f8_1
  have HX8 := Lib.hid hB8
  have HY8 := Lib.hid hb8.size
  clear hB8 hb8
  have HL0 := Lib.hid (Nat.lt_of_lt_of_le HL0.out HX8.out.size)
  have HL1 := Lib.hid (Nat.lt_of_lt_of_le HL1.out HX8.out.size)
  have HL2 := Lib.hid (Nat.lt_of_lt_of_le HL2.out HX8.out.size)
  have HL3 := Lib.hid (Nat.lt_of_lt_of_le HL3.out HX8.out.size)
  have HL4 := Lib.hid (Nat.lt_of_lt_of_le HL4.out HX8.out.size)
  have HL5 := Lib.hid (Nat.lt_of_lt_of_le HL5.out HX8.out.size)
  have HL6 := Lib.hid (Nat.lt_of_lt_of_le HL6.out HX8.out.size)
  have HL7 := Lib.hid (Nat.lt_of_lt_of_le HL7.out HX8.out.size)
  have HL8 := Lib.hid (Nat.lt_of_lt_of_le HL8.out HX8.out.size)
  have HB := Lib.hid (HB.out.trans (HX8.out.mono HB.out.size))
  clear HX8
  have f0_0 := n0_0
  have f0_1 := n0_1
  have f1_0 := n1_0
  have f1_1 := n1_1
  have f2_0 := n2_0
  have f2_1 := n2_1
  have f3_0 := n3_0
  have f3_1 := n3_1
  have f4_0 := n4_0
  have f4_1 := n4_1
  have f5_0 := n5_0
  have f5_1 := n5_1
  have f6_0 := n6_0
  have f6_1 := n6_1
  have f7_0 := n7_0
  have f7_1 := n7_1
  have f8_0 := n8_0
  have f8_1 := n8_1
  clear n0_0 n0_1 n1_0 n1_1 n2_0 n2_1 n3_0 n3_1 n4_0 n4_1 n5_0 n5_1 n6_0 n6_1 n7_0 n7_1 n8_0 n8_1
  go_wp2
  go_ret
  exact ⟨rfl, HB.out⟩

end Go.Proofs.YtimpimnaknkgpaaDoor
