import Derived.Test.YtimpimnaknkgpaaDoorL3
namespace Go.Proofs.YtimpimnaknkgpaaDoor
open Go.RowKit Num
set_option linter.unusedVariables false
set_option linter.unusedSimpArgs false

/-- What Cmp tells. -/
def cmpF (a b : Bool × ByteArray) : Int × Int := if bad2 a.1 a.2 b.1 b.2 = 0 then (cmpI (ival a.1 a.2) (ival b.1 b.2), 0) else (0, bad2 a.1 a.2 b.1 b.2)

set_option maxHeartbeats 2000000 in
set_option maxRecDepth 100000 in
theorem orders_big (aB bB cB : Bool) (aS bS cS : ByteArray) (HS : Hid (∀ w, Calls Tryd.prog 10 #[.agg #[.bool aB, .string aS], .agg #[.bool bB, .string bS]] w fun e w' => e = .returned (.bool false) ∧ Below w.heap.size w w'))  (w : World) :
    Calls Tryd.prog 8 #[.agg #[.bool aB, .string aS], .agg #[.bool bB, .string bS], .agg #[.bool cB, .string cS]] w fun e w' => e = .returned (.bool true) ∧ Below w.heap.size w w' := by
  obtain ⟨W0, hW0⟩ : ∃ W0, W0 = ((w.alloc (.cells #[.bool aB, .string aS] 24)).alloc (.cells #[.bool bB, .string bS] 24)).alloc (.cells #[.bool cB, .string cS] 24) := ⟨_, rfl⟩
  have hB0 : Below w.heap.size w W0 := by rw [hW0]; exact (((Below.refl _ _).alloc (by simp; try omega) _).alloc (by simp; try omega) _).alloc (by simp; try omega) _
  have f0_0 : W0.cell? ⟨w.heap.size, 0, none⟩ = some (.bool aB) := by rw [hW0]; simp [go_sem]
  have f0_1 : W0.cell? ⟨w.heap.size, 1, none⟩ = some (.string aS) := by rw [hW0]; simp [go_sem]
  have f1_0 : W0.cell? ⟨w.heap.size + 1, 0, none⟩ = some (.bool bB) := by rw [hW0]; simp [go_sem]
  have f1_1 : W0.cell? ⟨w.heap.size + 1, 1, none⟩ = some (.string bS) := by rw [hW0]; simp [go_sem]
  have f2_0 : W0.cell? ⟨w.heap.size + 2, 0, none⟩ = some (.bool cB) := by rw [hW0]; simp [go_sem]
  have f2_1 : W0.cell? ⟨w.heap.size + 2, 1, none⟩ = some (.string cS) := by rw [hW0]; simp [go_sem]
  have hZ0 : W0.heap.size = w.heap.size + 3 := by rw [hW0]; simp
  have HL0 := Lib.hid (show w.heap.size < W0.heap.size by rw [hZ0]; omega)
  have HL1 := Lib.hid (show w.heap.size + 1 < W0.heap.size by rw [hZ0]; omega)
  have HL2 := Lib.hid (show w.heap.size + 2 < W0.heap.size by rw [hZ0]; omega)
  have HW0 := Lib.hid hW0
  have HB := Lib.hid hB0
  clear hB0 hZ0 hW0
  have HLV := Lib.hid live_c
  go_enter Tryd.func8, Tryd.ntmps8
  go_wp2_with fail
  rw [← HW0.out]
  refine (HS.out _).mono ?_
  rintro e w1 ⟨rfl, hb1⟩
  have hB1 : Below W0.heap.size W0 (w1) := hb1
  have n0_0 := (hB1.cell (p := ⟨w.heap.size, 0, none⟩) HL0.out).trans f0_0
  have n0_1 := (hB1.cell (p := ⟨w.heap.size, 1, none⟩) HL0.out).trans f0_1
  have n1_0 := (hB1.cell (p := ⟨w.heap.size + 1, 0, none⟩) HL1.out).trans f1_0
  have n1_1 := (hB1.cell (p := ⟨w.heap.size + 1, 1, none⟩) HL1.out).trans f1_1
  have n2_0 := (hB1.cell (p := ⟨w.heap.size + 2, 0, none⟩) HL2.out).trans f2_0
  have n2_1 := (hB1.cell (p := ⟨w.heap.size + 2, 1, none⟩) HL2.out).trans f2_1
  clear f0_0 f0_1 f1_0 f1_1 f2_0 f2_1
  have HX1 := Lib.hid hB1
  have HY1 := Lib.hid hb1.size
  clear hB1 hb1
  go_wp2_with fail
  have HL0 := Lib.hid (Nat.lt_of_lt_of_le HL0.out HX1.out.size)
  have HL1 := Lib.hid (Nat.lt_of_lt_of_le HL1.out HX1.out.size)
  have HL2 := Lib.hid (Nat.lt_of_lt_of_le HL2.out HX1.out.size)
  have HB := Lib.hid (HB.out.trans (HX1.out.mono HB.out.size))
  clear HX1
  have f0_0 := n0_0
  have f0_1 := n0_1
  have f1_0 := n1_0
  have f1_1 := n1_1
  have f2_0 := n2_0
  have f2_1 := n2_1
  clear n0_0 n0_1 n1_0 n1_1 n2_0 n2_1
  refine (HLV.out _).mono ?_
  rintro e w2 ⟨rfl, hb2⟩
  have hB2 : Below w1.heap.size w1 (w2) := hb2
  have n0_0 := (hB2.cell (p := ⟨w.heap.size, 0, none⟩) HL0.out).trans f0_0
  have n0_1 := (hB2.cell (p := ⟨w.heap.size, 1, none⟩) HL0.out).trans f0_1
  have n1_0 := (hB2.cell (p := ⟨w.heap.size + 1, 0, none⟩) HL1.out).trans f1_0
  have n1_1 := (hB2.cell (p := ⟨w.heap.size + 1, 1, none⟩) HL1.out).trans f1_1
  have n2_0 := (hB2.cell (p := ⟨w.heap.size + 2, 0, none⟩) HL2.out).trans f2_0
  have n2_1 := (hB2.cell (p := ⟨w.heap.size + 2, 1, none⟩) HL2.out).trans f2_1
  clear f0_0 f0_1 f1_0 f1_1 f2_0 f2_1
  have HX2 := Lib.hid hB2
  have HY2 := Lib.hid hb2.size
  clear hB2 hb2
  have HL0 := Lib.hid (Nat.lt_of_lt_of_le HL0.out HX2.out.size)
  have HL1 := Lib.hid (Nat.lt_of_lt_of_le HL1.out HX2.out.size)
  have HL2 := Lib.hid (Nat.lt_of_lt_of_le HL2.out HX2.out.size)
  have HB := Lib.hid (HB.out.trans (HX2.out.mono HB.out.size))
  clear HX2
  have f0_0 := n0_0
  have f0_1 := n0_1
  have f1_0 := n1_0
  have f1_1 := n1_1
  have f2_0 := n2_0
  have f2_1 := n2_1
  clear n0_0 n0_1 n1_0 n1_1 n2_0 n2_1
  go_wp2
  go_ret
  exact ⟨rfl, HB.out⟩

set_option maxHeartbeats 2000000 in
set_option maxRecDepth 100000 in
theorem orders_big2 (aB bB cB : Bool) (aS bS cS : ByteArray) (HS : Hid (∀ w, Calls Tryd.prog 10 #[.agg #[.bool aB, .string aS], .agg #[.bool bB, .string bS]] w fun e w' => e = .returned (.bool true) ∧ Below w.heap.size w w')) (hc : decide ((400 : Int) < (cS.size : Int)) = true) (w : World) :
    Calls Tryd.prog 8 #[.agg #[.bool aB, .string aS], .agg #[.bool bB, .string bS], .agg #[.bool cB, .string cS]] w fun e w' => e = .returned (.bool true) ∧ Below w.heap.size w w' := by
  obtain ⟨W0, hW0⟩ : ∃ W0, W0 = ((w.alloc (.cells #[.bool aB, .string aS] 24)).alloc (.cells #[.bool bB, .string bS] 24)).alloc (.cells #[.bool cB, .string cS] 24) := ⟨_, rfl⟩
  have hB0 : Below w.heap.size w W0 := by rw [hW0]; exact (((Below.refl _ _).alloc (by simp; try omega) _).alloc (by simp; try omega) _).alloc (by simp; try omega) _
  have f0_0 : W0.cell? ⟨w.heap.size, 0, none⟩ = some (.bool aB) := by rw [hW0]; simp [go_sem]
  have f0_1 : W0.cell? ⟨w.heap.size, 1, none⟩ = some (.string aS) := by rw [hW0]; simp [go_sem]
  have f1_0 : W0.cell? ⟨w.heap.size + 1, 0, none⟩ = some (.bool bB) := by rw [hW0]; simp [go_sem]
  have f1_1 : W0.cell? ⟨w.heap.size + 1, 1, none⟩ = some (.string bS) := by rw [hW0]; simp [go_sem]
  have f2_0 : W0.cell? ⟨w.heap.size + 2, 0, none⟩ = some (.bool cB) := by rw [hW0]; simp [go_sem]
  have f2_1 : W0.cell? ⟨w.heap.size + 2, 1, none⟩ = some (.string cS) := by rw [hW0]; simp [go_sem]
  have hZ0 : W0.heap.size = w.heap.size + 3 := by rw [hW0]; simp
  have HL0 := Lib.hid (show w.heap.size < W0.heap.size by rw [hZ0]; omega)
  have HL1 := Lib.hid (show w.heap.size + 1 < W0.heap.size by rw [hZ0]; omega)
  have HL2 := Lib.hid (show w.heap.size + 2 < W0.heap.size by rw [hZ0]; omega)
  have HW0 := Lib.hid hW0
  have HB := Lib.hid hB0
  clear hB0 hZ0 hW0
  have HLV := Lib.hid live_c
  go_enter Tryd.func8, Tryd.ntmps8
  go_wp2_with fail
  rw [← HW0.out]
  refine (HS.out _).mono ?_
  rintro e w1 ⟨rfl, hb1⟩
  have hB1 : Below W0.heap.size W0 (w1) := hb1
  have n0_0 := (hB1.cell (p := ⟨w.heap.size, 0, none⟩) HL0.out).trans f0_0
  have n0_1 := (hB1.cell (p := ⟨w.heap.size, 1, none⟩) HL0.out).trans f0_1
  have n1_0 := (hB1.cell (p := ⟨w.heap.size + 1, 0, none⟩) HL1.out).trans f1_0
  have n1_1 := (hB1.cell (p := ⟨w.heap.size + 1, 1, none⟩) HL1.out).trans f1_1
  have n2_0 := (hB1.cell (p := ⟨w.heap.size + 2, 0, none⟩) HL2.out).trans f2_0
  have n2_1 := (hB1.cell (p := ⟨w.heap.size + 2, 1, none⟩) HL2.out).trans f2_1
  clear f0_0 f0_1 f1_0 f1_1 f2_0 f2_1
  have HX1 := Lib.hid hB1
  have HY1 := Lib.hid hb1.size
  clear hB1 hb1
  go_wp2_with fail
  have HL0 := Lib.hid (Nat.lt_of_lt_of_le HL0.out HX1.out.size)
  have HL1 := Lib.hid (Nat.lt_of_lt_of_le HL1.out HX1.out.size)
  have HL2 := Lib.hid (Nat.lt_of_lt_of_le HL2.out HX1.out.size)
  have HB := Lib.hid (HB.out.trans (HX1.out.mono HB.out.size))
  clear HX1
  have f0_0 := n0_0
  have f0_1 := n0_1
  have f1_0 := n1_0
  have f1_1 := n1_1
  have f2_0 := n2_0
  have f2_1 := n2_1
  clear n0_0 n0_1 n1_0 n1_1 n2_0 n2_1
  refine (HLV.out _).mono ?_
  rintro e w2 ⟨rfl, hb2⟩
  have hB2 : Below w1.heap.size w1 (w2) := hb2
  have n0_0 := (hB2.cell (p := ⟨w.heap.size, 0, none⟩) HL0.out).trans f0_0
  have n0_1 := (hB2.cell (p := ⟨w.heap.size, 1, none⟩) HL0.out).trans f0_1
  have n1_0 := (hB2.cell (p := ⟨w.heap.size + 1, 0, none⟩) HL1.out).trans f1_0
  have n1_1 := (hB2.cell (p := ⟨w.heap.size + 1, 1, none⟩) HL1.out).trans f1_1
  have n2_0 := (hB2.cell (p := ⟨w.heap.size + 2, 0, none⟩) HL2.out).trans f2_0
  have n2_1 := (hB2.cell (p := ⟨w.heap.size + 2, 1, none⟩) HL2.out).trans f2_1
  clear f0_0 f0_1 f1_0 f1_1 f2_0 f2_1
  have HX2 := Lib.hid hB2
  have HY2 := Lib.hid hb2.size
  clear hB2 hb2
  have HL0 := Lib.hid (Nat.lt_of_lt_of_le HL0.out HX2.out.size)
  have HL1 := Lib.hid (Nat.lt_of_lt_of_le HL1.out HX2.out.size)
  have HL2 := Lib.hid (Nat.lt_of_lt_of_le HL2.out HX2.out.size)
  have HB := Lib.hid (HB.out.trans (HX2.out.mono HB.out.size))
  clear HX2
  have f0_0 := n0_0
  have f0_1 := n0_1
  have f1_0 := n1_0
  have f1_1 := n1_1
  have f2_0 := n2_0
  have f2_1 := n2_1
  clear n0_0 n0_1 n1_0 n1_1 n2_0 n2_1
  go_wp2
  go_ret
  exact ⟨rfl, HB.out⟩

set_option maxHeartbeats 2000000 in
set_option maxRecDepth 100000 in
theorem orders_err (aB bB cB : Bool) (aS bS cS : ByteArray) (HS : Hid (∀ w, Calls Tryd.prog 10 #[.agg #[.bool aB, .string aS], .agg #[.bool bB, .string bS]] w fun e w' => e = .returned (.bool true) ∧ Below w.heap.size w w')) (hc : decide ((400 : Int) < (cS.size : Int)) = false) (dB sB tB : Bool) (dS sS tS : ByteArray) (X Y ex ey ed es et : Int) (H1 : Hid (∀ w, Calls Tryd.prog 30 #[.agg #[.bool aB, .string aS], .agg #[.bool bB, .string bS]] w fun e w' => e = .returned (.tuple #[.int .i64 X, .int .i64 ex]) ∧ Below w.heap.size w w')) (H2 : Hid (∀ w, Calls Tryd.prog 30 #[.agg #[.bool bB, .string bS], .agg #[.bool aB, .string aS]] w fun e w' => e = .returned (.tuple #[.int .i64 Y, .int .i64 ey]) ∧ Below w.heap.size w w')) (H3 : Hid (∀ w, Calls Tryd.prog 29 #[.agg #[.bool aB, .string aS], .agg #[.bool bB, .string bS]] w fun e w' => e = .returned (.tuple #[.agg #[.bool dB, .string dS], .int .i64 ed]) ∧ Below w.heap.size w w')) (H4 : Hid (∀ w, Calls Tryd.prog 27 #[.agg #[.bool aB, .string aS], .agg #[.bool cB, .string cS]] w fun e w' => e = .returned (.tuple #[.agg #[.bool sB, .string sS], .int .i64 es]) ∧ Below w.heap.size w w')) (H5 : Hid (∀ w, Calls Tryd.prog 27 #[.agg #[.bool bB, .string bS], .agg #[.bool cB, .string cS]] w fun e w' => e = .returned (.tuple #[.agg #[.bool tB, .string tS], .int .i64 et]) ∧ Below w.heap.size w w')) (hne : ¬ (ex = 0 ∧ ey = 0 ∧ ed = 0 ∧ es = 0 ∧ et = 0)) (w : World) :
    Calls Tryd.prog 8 #[.agg #[.bool aB, .string aS], .agg #[.bool bB, .string bS], .agg #[.bool cB, .string cS]] w fun e w' => e = .returned (.bool true) ∧ Below w.heap.size w w' := by
  obtain ⟨W0, hW0⟩ : ∃ W0, W0 = ((w.alloc (.cells #[.bool aB, .string aS] 24)).alloc (.cells #[.bool bB, .string bS] 24)).alloc (.cells #[.bool cB, .string cS] 24) := ⟨_, rfl⟩
  have hB0 : Below w.heap.size w W0 := by rw [hW0]; exact (((Below.refl _ _).alloc (by simp; try omega) _).alloc (by simp; try omega) _).alloc (by simp; try omega) _
  have f0_0 : W0.cell? ⟨w.heap.size, 0, none⟩ = some (.bool aB) := by rw [hW0]; simp [go_sem]
  have f0_1 : W0.cell? ⟨w.heap.size, 1, none⟩ = some (.string aS) := by rw [hW0]; simp [go_sem]
  have f1_0 : W0.cell? ⟨w.heap.size + 1, 0, none⟩ = some (.bool bB) := by rw [hW0]; simp [go_sem]
  have f1_1 : W0.cell? ⟨w.heap.size + 1, 1, none⟩ = some (.string bS) := by rw [hW0]; simp [go_sem]
  have f2_0 : W0.cell? ⟨w.heap.size + 2, 0, none⟩ = some (.bool cB) := by rw [hW0]; simp [go_sem]
  have f2_1 : W0.cell? ⟨w.heap.size + 2, 1, none⟩ = some (.string cS) := by rw [hW0]; simp [go_sem]
  have hZ0 : W0.heap.size = w.heap.size + 3 := by rw [hW0]; simp
  have HL0 := Lib.hid (show w.heap.size < W0.heap.size by rw [hZ0]; omega)
  have HL1 := Lib.hid (show w.heap.size + 1 < W0.heap.size by rw [hZ0]; omega)
  have HL2 := Lib.hid (show w.heap.size + 2 < W0.heap.size by rw [hZ0]; omega)
  have HW0 := Lib.hid hW0
  have HB := Lib.hid hB0
  clear hB0 hZ0 hW0
  have HLV := Lib.hid live_c
  have HNE := Lib.hid hne
  clear hne
  go_enter Tryd.func8, Tryd.ntmps8
  go_wp2_with fail
  rw [← HW0.out]
  refine (HS.out _).mono ?_
  rintro e w1 ⟨rfl, hb1⟩
  have hB1 : Below W0.heap.size W0 (w1) := hb1
  have n0_0 := (hB1.cell (p := ⟨w.heap.size, 0, none⟩) HL0.out).trans f0_0
  have n0_1 := (hB1.cell (p := ⟨w.heap.size, 1, none⟩) HL0.out).trans f0_1
  have n1_0 := (hB1.cell (p := ⟨w.heap.size + 1, 0, none⟩) HL1.out).trans f1_0
  have n1_1 := (hB1.cell (p := ⟨w.heap.size + 1, 1, none⟩) HL1.out).trans f1_1
  have n2_0 := (hB1.cell (p := ⟨w.heap.size + 2, 0, none⟩) HL2.out).trans f2_0
  have n2_1 := (hB1.cell (p := ⟨w.heap.size + 2, 1, none⟩) HL2.out).trans f2_1
  clear f0_0 f0_1 f1_0 f1_1 f2_0 f2_1
  have HX1 := Lib.hid hB1
  have HY1 := Lib.hid hb1.size
  clear hB1 hb1
  go_wp2_with fail
  have HL0 := Lib.hid (Nat.lt_of_lt_of_le HL0.out HX1.out.size)
  have HL1 := Lib.hid (Nat.lt_of_lt_of_le HL1.out HX1.out.size)
  have HL2 := Lib.hid (Nat.lt_of_lt_of_le HL2.out HX1.out.size)
  have HB := Lib.hid (HB.out.trans (HX1.out.mono HB.out.size))
  clear HX1
  have f0_0 := n0_0
  have f0_1 := n0_1
  have f1_0 := n1_0
  have f1_1 := n1_1
  have f2_0 := n2_0
  have f2_1 := n2_1
  clear n0_0 n0_1 n1_0 n1_1 n2_0 n2_1
  refine (H1.out _).mono ?_
  rintro e w2 ⟨rfl, hb2⟩
  have hB2 : Below w1.heap.size w1 (w2) := hb2
  have n0_0 := (hB2.cell (p := ⟨w.heap.size, 0, none⟩) HL0.out).trans f0_0
  have n0_1 := (hB2.cell (p := ⟨w.heap.size, 1, none⟩) HL0.out).trans f0_1
  have n1_0 := (hB2.cell (p := ⟨w.heap.size + 1, 0, none⟩) HL1.out).trans f1_0
  have n1_1 := (hB2.cell (p := ⟨w.heap.size + 1, 1, none⟩) HL1.out).trans f1_1
  have n2_0 := (hB2.cell (p := ⟨w.heap.size + 2, 0, none⟩) HL2.out).trans f2_0
  have n2_1 := (hB2.cell (p := ⟨w.heap.size + 2, 1, none⟩) HL2.out).trans f2_1
  clear f0_0 f0_1 f1_0 f1_1 f2_0 f2_1
  have HX2 := Lib.hid hB2
  have HY2 := Lib.hid hb2.size
  clear hB2 hb2
  go_wp2_with fail
  have HL0 := Lib.hid (Nat.lt_of_lt_of_le HL0.out HX2.out.size)
  have HL1 := Lib.hid (Nat.lt_of_lt_of_le HL1.out HX2.out.size)
  have HL2 := Lib.hid (Nat.lt_of_lt_of_le HL2.out HX2.out.size)
  have HB := Lib.hid (HB.out.trans (HX2.out.mono HB.out.size))
  clear HX2
  have f0_0 := n0_0
  have f0_1 := n0_1
  have f1_0 := n1_0
  have f1_1 := n1_1
  have f2_0 := n2_0
  have f2_1 := n2_1
  clear n0_0 n0_1 n1_0 n1_1 n2_0 n2_1
  refine (H2.out _).mono ?_
  rintro e w3 ⟨rfl, hb3⟩
  have hB3 : Below w2.heap.size w2 (w3) := hb3
  have n0_0 := (hB3.cell (p := ⟨w.heap.size, 0, none⟩) HL0.out).trans f0_0
  have n0_1 := (hB3.cell (p := ⟨w.heap.size, 1, none⟩) HL0.out).trans f0_1
  have n1_0 := (hB3.cell (p := ⟨w.heap.size + 1, 0, none⟩) HL1.out).trans f1_0
  have n1_1 := (hB3.cell (p := ⟨w.heap.size + 1, 1, none⟩) HL1.out).trans f1_1
  have n2_0 := (hB3.cell (p := ⟨w.heap.size + 2, 0, none⟩) HL2.out).trans f2_0
  have n2_1 := (hB3.cell (p := ⟨w.heap.size + 2, 1, none⟩) HL2.out).trans f2_1
  clear f0_0 f0_1 f1_0 f1_1 f2_0 f2_1
  have HX3 := Lib.hid hB3
  have HY3 := Lib.hid hb3.size
  clear hB3 hb3
  go_wp2_with fail
  have HL0 := Lib.hid (Nat.lt_of_lt_of_le HL0.out HX3.out.size)
  have HL1 := Lib.hid (Nat.lt_of_lt_of_le HL1.out HX3.out.size)
  have HL2 := Lib.hid (Nat.lt_of_lt_of_le HL2.out HX3.out.size)
  have HB := Lib.hid (HB.out.trans (HX3.out.mono HB.out.size))
  clear HX3
  have f0_0 := n0_0
  have f0_1 := n0_1
  have f1_0 := n1_0
  have f1_1 := n1_1
  have f2_0 := n2_0
  have f2_1 := n2_1
  clear n0_0 n0_1 n1_0 n1_1 n2_0 n2_1
  refine (H3.out _).mono ?_
  rintro e w4 ⟨rfl, hb4⟩
  have hB4 : Below w3.heap.size w3 (w4.alloc (.cells #[.bool dB, .string dS] 24)) := ((hb4).alloc (by have := hb4.size; simp; try omega) _)
  have n0_0 := (hB4.cell (p := ⟨w.heap.size, 0, none⟩) HL0.out).trans f0_0
  have n0_1 := (hB4.cell (p := ⟨w.heap.size, 1, none⟩) HL0.out).trans f0_1
  have n1_0 := (hB4.cell (p := ⟨w.heap.size + 1, 0, none⟩) HL1.out).trans f1_0
  have n1_1 := (hB4.cell (p := ⟨w.heap.size + 1, 1, none⟩) HL1.out).trans f1_1
  have n2_0 := (hB4.cell (p := ⟨w.heap.size + 2, 0, none⟩) HL2.out).trans f2_0
  have n2_1 := (hB4.cell (p := ⟨w.heap.size + 2, 1, none⟩) HL2.out).trans f2_1
  have n3_0 : (w4.alloc (.cells #[.bool dB, .string dS] 24)).cell? ⟨w4.heap.size, 0, none⟩ = some (.bool dB) := by simp [go_sem]
  have n3_1 : (w4.alloc (.cells #[.bool dB, .string dS] 24)).cell? ⟨w4.heap.size, 1, none⟩ = some (.string dS) := by simp [go_sem]
  clear f0_0 f0_1 f1_0 f1_1 f2_0 f2_1
  have HX4 := Lib.hid hB4
  have HY4 := Lib.hid hb4.size
  clear hB4 hb4
  go_wp2_with fail
  obtain ⟨W4, hW4⟩ : ∃ W4, W4 = w4.alloc (.cells #[.bool dB, .string dS] 24) := ⟨_, rfl⟩
  have hZ4 : W4.heap.size = w4.heap.size + 1 := by rw [hW4]; simp
  rw [← hW4] at HX4 ⊢
  rw [← hW4] at n0_0 n0_1
  rw [← hW4] at n1_0 n1_1
  rw [← hW4] at n2_0 n2_1
  rw [← hW4] at n3_0 n3_1
  obtain ⟨g4, hg4⟩ : ∃ g4, w4.heap.size = g4 := ⟨_, rfl⟩
  rw [hg4] at n3_0 n3_1
  rw [hg4] at hZ4 HY4 ⊢
  clear hW4 hg4
  have HL0 := Lib.hid (Nat.lt_of_lt_of_le HL0.out HX4.out.size)
  have HL1 := Lib.hid (Nat.lt_of_lt_of_le HL1.out HX4.out.size)
  have HL2 := Lib.hid (Nat.lt_of_lt_of_le HL2.out HX4.out.size)
  have HL3 := Lib.hid (show g4 < W4.heap.size by rw [hZ4]; omega)
  clear hZ4 HY4
  have HB := Lib.hid (HB.out.trans (HX4.out.mono HB.out.size))
  clear HX4
  have f0_0 := n0_0
  have f0_1 := n0_1
  have f1_0 := n1_0
  have f1_1 := n1_1
  have f2_0 := n2_0
  have f2_1 := n2_1
  have f3_0 := n3_0
  have f3_1 := n3_1
  clear n0_0 n0_1 n1_0 n1_1 n2_0 n2_1 n3_0 n3_1
  refine (H4.out _).mono ?_
  rintro e w5 ⟨rfl, hb5⟩
  have hB5 : Below W4.heap.size W4 (w5.alloc (.cells #[.bool sB, .string sS] 24)) := ((hb5).alloc (by have := hb5.size; simp; try omega) _)
  have n0_0 := (hB5.cell (p := ⟨w.heap.size, 0, none⟩) HL0.out).trans f0_0
  have n0_1 := (hB5.cell (p := ⟨w.heap.size, 1, none⟩) HL0.out).trans f0_1
  have n1_0 := (hB5.cell (p := ⟨w.heap.size + 1, 0, none⟩) HL1.out).trans f1_0
  have n1_1 := (hB5.cell (p := ⟨w.heap.size + 1, 1, none⟩) HL1.out).trans f1_1
  have n2_0 := (hB5.cell (p := ⟨w.heap.size + 2, 0, none⟩) HL2.out).trans f2_0
  have n2_1 := (hB5.cell (p := ⟨w.heap.size + 2, 1, none⟩) HL2.out).trans f2_1
  have n3_0 := (hB5.cell (p := ⟨g4, 0, none⟩) HL3.out).trans f3_0
  have n3_1 := (hB5.cell (p := ⟨g4, 1, none⟩) HL3.out).trans f3_1
  have n4_0 : (w5.alloc (.cells #[.bool sB, .string sS] 24)).cell? ⟨w5.heap.size, 0, none⟩ = some (.bool sB) := by simp [go_sem]
  have n4_1 : (w5.alloc (.cells #[.bool sB, .string sS] 24)).cell? ⟨w5.heap.size, 1, none⟩ = some (.string sS) := by simp [go_sem]
  clear f0_0 f0_1 f1_0 f1_1 f2_0 f2_1 f3_0 f3_1
  have HX5 := Lib.hid hB5
  have HY5 := Lib.hid hb5.size
  clear hB5 hb5
  go_wp2_with fail
  obtain ⟨W5, hW5⟩ : ∃ W5, W5 = w5.alloc (.cells #[.bool sB, .string sS] 24) := ⟨_, rfl⟩
  have hZ5 : W5.heap.size = w5.heap.size + 1 := by rw [hW5]; simp
  rw [← hW5] at HX5 ⊢
  rw [← hW5] at n0_0 n0_1
  rw [← hW5] at n1_0 n1_1
  rw [← hW5] at n2_0 n2_1
  rw [← hW5] at n3_0 n3_1
  rw [← hW5] at n4_0 n4_1
  obtain ⟨g5, hg5⟩ : ∃ g5, w5.heap.size = g5 := ⟨_, rfl⟩
  rw [hg5] at n4_0 n4_1
  rw [hg5] at hZ5 HY5 ⊢
  clear hW5 hg5
  have HL0 := Lib.hid (Nat.lt_of_lt_of_le HL0.out HX5.out.size)
  have HL1 := Lib.hid (Nat.lt_of_lt_of_le HL1.out HX5.out.size)
  have HL2 := Lib.hid (Nat.lt_of_lt_of_le HL2.out HX5.out.size)
  have HL3 := Lib.hid (Nat.lt_of_lt_of_le HL3.out HX5.out.size)
  have HL4 := Lib.hid (show g5 < W5.heap.size by rw [hZ5]; omega)
  clear hZ5 HY5
  have HB := Lib.hid (HB.out.trans (HX5.out.mono HB.out.size))
  clear HX5
  have f0_0 := n0_0
  have f0_1 := n0_1
  have f1_0 := n1_0
  have f1_1 := n1_1
  have f2_0 := n2_0
  have f2_1 := n2_1
  have f3_0 := n3_0
  have f3_1 := n3_1
  have f4_0 := n4_0
  have f4_1 := n4_1
  clear n0_0 n0_1 n1_0 n1_1 n2_0 n2_1 n3_0 n3_1 n4_0 n4_1
  refine (H5.out _).mono ?_
  rintro e w6 ⟨rfl, hb6⟩
  have hB6 : Below W5.heap.size W5 (w6.alloc (.cells #[.bool tB, .string tS] 24)) := ((hb6).alloc (by have := hb6.size; simp; try omega) _)
  have n0_0 := (hB6.cell (p := ⟨w.heap.size, 0, none⟩) HL0.out).trans f0_0
  have n0_1 := (hB6.cell (p := ⟨w.heap.size, 1, none⟩) HL0.out).trans f0_1
  have n1_0 := (hB6.cell (p := ⟨w.heap.size + 1, 0, none⟩) HL1.out).trans f1_0
  have n1_1 := (hB6.cell (p := ⟨w.heap.size + 1, 1, none⟩) HL1.out).trans f1_1
  have n2_0 := (hB6.cell (p := ⟨w.heap.size + 2, 0, none⟩) HL2.out).trans f2_0
  have n2_1 := (hB6.cell (p := ⟨w.heap.size + 2, 1, none⟩) HL2.out).trans f2_1
  have n3_0 := (hB6.cell (p := ⟨g4, 0, none⟩) HL3.out).trans f3_0
  have n3_1 := (hB6.cell (p := ⟨g4, 1, none⟩) HL3.out).trans f3_1
  have n4_0 := (hB6.cell (p := ⟨g5, 0, none⟩) HL4.out).trans f4_0
  have n4_1 := (hB6.cell (p := ⟨g5, 1, none⟩) HL4.out).trans f4_1
  have n5_0 : (w6.alloc (.cells #[.bool tB, .string tS] 24)).cell? ⟨w6.heap.size, 0, none⟩ = some (.bool tB) := by simp [go_sem]
  have n5_1 : (w6.alloc (.cells #[.bool tB, .string tS] 24)).cell? ⟨w6.heap.size, 1, none⟩ = some (.string tS) := by simp [go_sem]
  clear f0_0 f0_1 f1_0 f1_1 f2_0 f2_1 f3_0 f3_1 f4_0 f4_1
  have HX6 := Lib.hid hB6
  have HY6 := Lib.hid hb6.size
  clear hB6 hb6
  go_upto_region 8 with fail
  obtain ⟨W6, hW6⟩ : ∃ W6, W6 = w6.alloc (.cells #[.bool tB, .string tS] 24) := ⟨_, rfl⟩
  have hZ6 : W6.heap.size = w6.heap.size + 1 := by rw [hW6]; simp
  rw [← hW6] at HX6 ⊢
  rw [← hW6] at n0_0 n0_1
  rw [← hW6] at n1_0 n1_1
  rw [← hW6] at n2_0 n2_1
  rw [← hW6] at n3_0 n3_1
  rw [← hW6] at n4_0 n4_1
  rw [← hW6] at n5_0 n5_1
  obtain ⟨g6, hg6⟩ : ∃ g6, w6.heap.size = g6 := ⟨_, rfl⟩
  rw [hg6] at n5_0 n5_1
  rw [hg6] at hZ6 HY6 ⊢
  clear hW6 hg6
  have HL0 := Lib.hid (Nat.lt_of_lt_of_le HL0.out HX6.out.size)
  have HL1 := Lib.hid (Nat.lt_of_lt_of_le HL1.out HX6.out.size)
  have HL2 := Lib.hid (Nat.lt_of_lt_of_le HL2.out HX6.out.size)
  have HL3 := Lib.hid (Nat.lt_of_lt_of_le HL3.out HX6.out.size)
  have HL4 := Lib.hid (Nat.lt_of_lt_of_le HL4.out HX6.out.size)
  have HL5 := Lib.hid (show g6 < W6.heap.size by rw [hZ6]; omega)
  clear hZ6 HY6
  have HB := Lib.hid (HB.out.trans (HX6.out.mono HB.out.size))
  clear HX6
  have f0_0 := n0_0
  have f0_1 := n0_1
  have f1_0 := n1_0
  have f1_1 := n1_1
  have f2_0 := n2_0
  have f2_1 := n2_1
  have f3_0 := n3_0
  have f3_1 := n3_1
  have f4_0 := n4_0
  have f4_1 := n4_1
  have f5_0 := n5_0
  have f5_1 := n5_1
  clear n0_0 n0_1 n1_0 n1_1 n2_0 n2_1 n3_0 n3_1 n4_0 n4_1 n5_0 n5_1
  by_cases z0 : ex = 0
  · subst z0
    by_cases z1 : ey = 0
    · subst z1
      by_cases z2 : ed = 0
      · subst z2
        by_cases z3 : es = 0
        · subst z3
          by_cases z4 : et = 0
          · subst z4
            exact absurd ⟨rfl, rfl, rfl, rfl, rfl⟩ HNE.out
          · have y1 : (et == 0) = false := beq_eq_false_iff_ne.mpr z4
            have y2 : (et != 0) = true := bne_iff_ne.mpr z4
            clear z4
            go_wp2_with fail
            refine (HLV.out _).mono ?_
            rintro e w8 ⟨rfl, hb8⟩
            have HB := Lib.hid (HB.out.trans (hb8.mono HB.out.size))
            clear hb8
            go_wp2
            go_ret
            exact ⟨rfl, HB.out⟩
        · have y1 : (es == 0) = false := beq_eq_false_iff_ne.mpr z3
          have y2 : (es != 0) = true := bne_iff_ne.mpr z3
          clear z3
          go_wp2_with fail
          refine (HLV.out _).mono ?_
          rintro e w8 ⟨rfl, hb8⟩
          have HB := Lib.hid (HB.out.trans (hb8.mono HB.out.size))
          clear hb8
          go_wp2
          go_ret
          exact ⟨rfl, HB.out⟩
      · have y1 : (ed == 0) = false := beq_eq_false_iff_ne.mpr z2
        have y2 : (ed != 0) = true := bne_iff_ne.mpr z2
        clear z2
        go_wp2_with fail
        refine (HLV.out _).mono ?_
        rintro e w8 ⟨rfl, hb8⟩
        have HB := Lib.hid (HB.out.trans (hb8.mono HB.out.size))
        clear hb8
        go_wp2
        go_ret
        exact ⟨rfl, HB.out⟩
    · have y1 : (ey == 0) = false := beq_eq_false_iff_ne.mpr z1
      have y2 : (ey != 0) = true := bne_iff_ne.mpr z1
      clear z1
      go_wp2_with fail
      refine (HLV.out _).mono ?_
      rintro e w8 ⟨rfl, hb8⟩
      have HB := Lib.hid (HB.out.trans (hb8.mono HB.out.size))
      clear hb8
      go_wp2
      go_ret
      exact ⟨rfl, HB.out⟩
  · have y1 : (ex == 0) = false := beq_eq_false_iff_ne.mpr z0
    have y2 : (ex != 0) = true := bne_iff_ne.mpr z0
    clear z0
    go_wp2_with fail
    refine (HLV.out _).mono ?_
    rintro e w8 ⟨rfl, hb8⟩
    have HB := Lib.hid (HB.out.trans (hb8.mono HB.out.size))
    clear hb8
    go_wp2
    go_ret
    exact ⟨rfl, HB.out⟩

set_option maxHeartbeats 2000000 in
set_option maxRecDepth 100000 in
theorem orders_ok (aB bB cB : Bool) (aS bS cS : ByteArray) (HS : Hid (∀ w, Calls Tryd.prog 10 #[.agg #[.bool aB, .string aS], .agg #[.bool bB, .string bS]] w fun e w' => e = .returned (.bool true) ∧ Below w.heap.size w w')) (hc : decide ((400 : Int) < (cS.size : Int)) = false) (dB sB tB : Bool) (dS sS tS : ByteArray) (X Y : Int) (hY : IntKind.i64.wrap (-Y) = X) (H1 : Hid (∀ w, Calls Tryd.prog 30 #[.agg #[.bool aB, .string aS], .agg #[.bool bB, .string bS]] w fun e w' => e = .returned (.tuple #[.int .i64 X, .int .i64 0]) ∧ Below w.heap.size w w')) (H2 : Hid (∀ w, Calls Tryd.prog 30 #[.agg #[.bool bB, .string bS], .agg #[.bool aB, .string aS]] w fun e w' => e = .returned (.tuple #[.int .i64 Y, .int .i64 0]) ∧ Below w.heap.size w w')) (H3 : Hid (∀ w, Calls Tryd.prog 29 #[.agg #[.bool aB, .string aS], .agg #[.bool bB, .string bS]] w fun e w' => e = .returned (.tuple #[.agg #[.bool dB, .string dS], .int .i64 0]) ∧ Below w.heap.size w w')) (H4 : Hid (∀ w, Calls Tryd.prog 27 #[.agg #[.bool aB, .string aS], .agg #[.bool cB, .string cS]] w fun e w' => e = .returned (.tuple #[.agg #[.bool sB, .string sS], .int .i64 0]) ∧ Below w.heap.size w w')) (H5 : Hid (∀ w, Calls Tryd.prog 27 #[.agg #[.bool bB, .string bS], .agg #[.bool cB, .string cS]] w fun e w' => e = .returned (.tuple #[.agg #[.bool tB, .string tS], .int .i64 0]) ∧ Below w.heap.size w w')) (H6 : Hid (∀ w, Calls Tryd.prog 30 #[.agg #[.bool dB, .string dS], .agg #[.bool false, .string ⟨#[]⟩]] w fun e w' => e = .returned (.tuple #[.int .i64 X, .int .i64 0]) ∧ Below w.heap.size w w')) (H7 : Hid (∀ w, Calls Tryd.prog 30 #[.agg #[.bool sB, .string sS], .agg #[.bool tB, .string tS]] w fun e w' => e = .returned (.tuple #[.int .i64 X, .int .i64 0]) ∧ Below w.heap.size w w')) (w : World) :
    Calls Tryd.prog 8 #[.agg #[.bool aB, .string aS], .agg #[.bool bB, .string bS], .agg #[.bool cB, .string cS]] w fun e w' => e = .returned (.bool true) ∧ Below w.heap.size w w' := by
  obtain ⟨W0, hW0⟩ : ∃ W0, W0 = ((w.alloc (.cells #[.bool aB, .string aS] 24)).alloc (.cells #[.bool bB, .string bS] 24)).alloc (.cells #[.bool cB, .string cS] 24) := ⟨_, rfl⟩
  have hB0 : Below w.heap.size w W0 := by rw [hW0]; exact (((Below.refl _ _).alloc (by simp; try omega) _).alloc (by simp; try omega) _).alloc (by simp; try omega) _
  have f0_0 : W0.cell? ⟨w.heap.size, 0, none⟩ = some (.bool aB) := by rw [hW0]; simp [go_sem]
  have f0_1 : W0.cell? ⟨w.heap.size, 1, none⟩ = some (.string aS) := by rw [hW0]; simp [go_sem]
  have f1_0 : W0.cell? ⟨w.heap.size + 1, 0, none⟩ = some (.bool bB) := by rw [hW0]; simp [go_sem]
  have f1_1 : W0.cell? ⟨w.heap.size + 1, 1, none⟩ = some (.string bS) := by rw [hW0]; simp [go_sem]
  have f2_0 : W0.cell? ⟨w.heap.size + 2, 0, none⟩ = some (.bool cB) := by rw [hW0]; simp [go_sem]
  have f2_1 : W0.cell? ⟨w.heap.size + 2, 1, none⟩ = some (.string cS) := by rw [hW0]; simp [go_sem]
  have hZ0 : W0.heap.size = w.heap.size + 3 := by rw [hW0]; simp
  have HL0 := Lib.hid (show w.heap.size < W0.heap.size by rw [hZ0]; omega)
  have HL1 := Lib.hid (show w.heap.size + 1 < W0.heap.size by rw [hZ0]; omega)
  have HL2 := Lib.hid (show w.heap.size + 2 < W0.heap.size by rw [hZ0]; omega)
  have HW0 := Lib.hid hW0
  have HB := Lib.hid hB0
  clear hB0 hZ0 hW0
  have HLV := Lib.hid live_c
  go_enter Tryd.func8, Tryd.ntmps8
  go_wp2_with fail
  rw [← HW0.out]
  refine (HS.out _).mono ?_
  rintro e w1 ⟨rfl, hb1⟩
  have hB1 : Below W0.heap.size W0 (w1) := hb1
  have n0_0 := (hB1.cell (p := ⟨w.heap.size, 0, none⟩) HL0.out).trans f0_0
  have n0_1 := (hB1.cell (p := ⟨w.heap.size, 1, none⟩) HL0.out).trans f0_1
  have n1_0 := (hB1.cell (p := ⟨w.heap.size + 1, 0, none⟩) HL1.out).trans f1_0
  have n1_1 := (hB1.cell (p := ⟨w.heap.size + 1, 1, none⟩) HL1.out).trans f1_1
  have n2_0 := (hB1.cell (p := ⟨w.heap.size + 2, 0, none⟩) HL2.out).trans f2_0
  have n2_1 := (hB1.cell (p := ⟨w.heap.size + 2, 1, none⟩) HL2.out).trans f2_1
  clear f0_0 f0_1 f1_0 f1_1 f2_0 f2_1
  have HX1 := Lib.hid hB1
  have HY1 := Lib.hid hb1.size
  clear hB1 hb1
  go_wp2_with fail
  have HL0 := Lib.hid (Nat.lt_of_lt_of_le HL0.out HX1.out.size)
  have HL1 := Lib.hid (Nat.lt_of_lt_of_le HL1.out HX1.out.size)
  have HL2 := Lib.hid (Nat.lt_of_lt_of_le HL2.out HX1.out.size)
  have HB := Lib.hid (HB.out.trans (HX1.out.mono HB.out.size))
  clear HX1
  have f0_0 := n0_0
  have f0_1 := n0_1
  have f1_0 := n1_0
  have f1_1 := n1_1
  have f2_0 := n2_0
  have f2_1 := n2_1
  clear n0_0 n0_1 n1_0 n1_1 n2_0 n2_1
  refine (H1.out _).mono ?_
  rintro e w2 ⟨rfl, hb2⟩
  have hB2 : Below w1.heap.size w1 (w2) := hb2
  have n0_0 := (hB2.cell (p := ⟨w.heap.size, 0, none⟩) HL0.out).trans f0_0
  have n0_1 := (hB2.cell (p := ⟨w.heap.size, 1, none⟩) HL0.out).trans f0_1
  have n1_0 := (hB2.cell (p := ⟨w.heap.size + 1, 0, none⟩) HL1.out).trans f1_0
  have n1_1 := (hB2.cell (p := ⟨w.heap.size + 1, 1, none⟩) HL1.out).trans f1_1
  have n2_0 := (hB2.cell (p := ⟨w.heap.size + 2, 0, none⟩) HL2.out).trans f2_0
  have n2_1 := (hB2.cell (p := ⟨w.heap.size + 2, 1, none⟩) HL2.out).trans f2_1
  clear f0_0 f0_1 f1_0 f1_1 f2_0 f2_1
  have HX2 := Lib.hid hB2
  have HY2 := Lib.hid hb2.size
  clear hB2 hb2
  go_wp2_with fail
  have HL0 := Lib.hid (Nat.lt_of_lt_of_le HL0.out HX2.out.size)
  have HL1 := Lib.hid (Nat.lt_of_lt_of_le HL1.out HX2.out.size)
  have HL2 := Lib.hid (Nat.lt_of_lt_of_le HL2.out HX2.out.size)
  have HB := Lib.hid (HB.out.trans (HX2.out.mono HB.out.size))
  clear HX2
  have f0_0 := n0_0
  have f0_1 := n0_1
  have f1_0 := n1_0
  have f1_1 := n1_1
  have f2_0 := n2_0
  have f2_1 := n2_1
  clear n0_0 n0_1 n1_0 n1_1 n2_0 n2_1
  refine (H2.out _).mono ?_
  rintro e w3 ⟨rfl, hb3⟩
  have hB3 : Below w2.heap.size w2 (w3) := hb3
  have n0_0 := (hB3.cell (p := ⟨w.heap.size, 0, none⟩) HL0.out).trans f0_0
  have n0_1 := (hB3.cell (p := ⟨w.heap.size, 1, none⟩) HL0.out).trans f0_1
  have n1_0 := (hB3.cell (p := ⟨w.heap.size + 1, 0, none⟩) HL1.out).trans f1_0
  have n1_1 := (hB3.cell (p := ⟨w.heap.size + 1, 1, none⟩) HL1.out).trans f1_1
  have n2_0 := (hB3.cell (p := ⟨w.heap.size + 2, 0, none⟩) HL2.out).trans f2_0
  have n2_1 := (hB3.cell (p := ⟨w.heap.size + 2, 1, none⟩) HL2.out).trans f2_1
  clear f0_0 f0_1 f1_0 f1_1 f2_0 f2_1
  have HX3 := Lib.hid hB3
  have HY3 := Lib.hid hb3.size
  clear hB3 hb3
  go_wp2_with fail
  have HL0 := Lib.hid (Nat.lt_of_lt_of_le HL0.out HX3.out.size)
  have HL1 := Lib.hid (Nat.lt_of_lt_of_le HL1.out HX3.out.size)
  have HL2 := Lib.hid (Nat.lt_of_lt_of_le HL2.out HX3.out.size)
  have HB := Lib.hid (HB.out.trans (HX3.out.mono HB.out.size))
  clear HX3
  have f0_0 := n0_0
  have f0_1 := n0_1
  have f1_0 := n1_0
  have f1_1 := n1_1
  have f2_0 := n2_0
  have f2_1 := n2_1
  clear n0_0 n0_1 n1_0 n1_1 n2_0 n2_1
  refine (H3.out _).mono ?_
  rintro e w4 ⟨rfl, hb4⟩
  have hB4 : Below w3.heap.size w3 (w4.alloc (.cells #[.bool dB, .string dS] 24)) := ((hb4).alloc (by have := hb4.size; simp; try omega) _)
  have n0_0 := (hB4.cell (p := ⟨w.heap.size, 0, none⟩) HL0.out).trans f0_0
  have n0_1 := (hB4.cell (p := ⟨w.heap.size, 1, none⟩) HL0.out).trans f0_1
  have n1_0 := (hB4.cell (p := ⟨w.heap.size + 1, 0, none⟩) HL1.out).trans f1_0
  have n1_1 := (hB4.cell (p := ⟨w.heap.size + 1, 1, none⟩) HL1.out).trans f1_1
  have n2_0 := (hB4.cell (p := ⟨w.heap.size + 2, 0, none⟩) HL2.out).trans f2_0
  have n2_1 := (hB4.cell (p := ⟨w.heap.size + 2, 1, none⟩) HL2.out).trans f2_1
  have n3_0 : (w4.alloc (.cells #[.bool dB, .string dS] 24)).cell? ⟨w4.heap.size, 0, none⟩ = some (.bool dB) := by simp [go_sem]
  have n3_1 : (w4.alloc (.cells #[.bool dB, .string dS] 24)).cell? ⟨w4.heap.size, 1, none⟩ = some (.string dS) := by simp [go_sem]
  clear f0_0 f0_1 f1_0 f1_1 f2_0 f2_1
  have HX4 := Lib.hid hB4
  have HY4 := Lib.hid hb4.size
  clear hB4 hb4
  go_wp2_with fail
  obtain ⟨W4, hW4⟩ : ∃ W4, W4 = w4.alloc (.cells #[.bool dB, .string dS] 24) := ⟨_, rfl⟩
  have hZ4 : W4.heap.size = w4.heap.size + 1 := by rw [hW4]; simp
  rw [← hW4] at HX4 ⊢
  rw [← hW4] at n0_0 n0_1
  rw [← hW4] at n1_0 n1_1
  rw [← hW4] at n2_0 n2_1
  rw [← hW4] at n3_0 n3_1
  obtain ⟨g4, hg4⟩ : ∃ g4, w4.heap.size = g4 := ⟨_, rfl⟩
  rw [hg4] at n3_0 n3_1
  rw [hg4] at hZ4 HY4 ⊢
  clear hW4 hg4
  have HL0 := Lib.hid (Nat.lt_of_lt_of_le HL0.out HX4.out.size)
  have HL1 := Lib.hid (Nat.lt_of_lt_of_le HL1.out HX4.out.size)
  have HL2 := Lib.hid (Nat.lt_of_lt_of_le HL2.out HX4.out.size)
  have HL3 := Lib.hid (show g4 < W4.heap.size by rw [hZ4]; omega)
  clear hZ4 HY4
  have HB := Lib.hid (HB.out.trans (HX4.out.mono HB.out.size))
  clear HX4
  have f0_0 := n0_0
  have f0_1 := n0_1
  have f1_0 := n1_0
  have f1_1 := n1_1
  have f2_0 := n2_0
  have f2_1 := n2_1
  have f3_0 := n3_0
  have f3_1 := n3_1
  clear n0_0 n0_1 n1_0 n1_1 n2_0 n2_1 n3_0 n3_1
  refine (H4.out _).mono ?_
  rintro e w5 ⟨rfl, hb5⟩
  have hB5 : Below W4.heap.size W4 (w5.alloc (.cells #[.bool sB, .string sS] 24)) := ((hb5).alloc (by have := hb5.size; simp; try omega) _)
  have n0_0 := (hB5.cell (p := ⟨w.heap.size, 0, none⟩) HL0.out).trans f0_0
  have n0_1 := (hB5.cell (p := ⟨w.heap.size, 1, none⟩) HL0.out).trans f0_1
  have n1_0 := (hB5.cell (p := ⟨w.heap.size + 1, 0, none⟩) HL1.out).trans f1_0
  have n1_1 := (hB5.cell (p := ⟨w.heap.size + 1, 1, none⟩) HL1.out).trans f1_1
  have n2_0 := (hB5.cell (p := ⟨w.heap.size + 2, 0, none⟩) HL2.out).trans f2_0
  have n2_1 := (hB5.cell (p := ⟨w.heap.size + 2, 1, none⟩) HL2.out).trans f2_1
  have n3_0 := (hB5.cell (p := ⟨g4, 0, none⟩) HL3.out).trans f3_0
  have n3_1 := (hB5.cell (p := ⟨g4, 1, none⟩) HL3.out).trans f3_1
  have n4_0 : (w5.alloc (.cells #[.bool sB, .string sS] 24)).cell? ⟨w5.heap.size, 0, none⟩ = some (.bool sB) := by simp [go_sem]
  have n4_1 : (w5.alloc (.cells #[.bool sB, .string sS] 24)).cell? ⟨w5.heap.size, 1, none⟩ = some (.string sS) := by simp [go_sem]
  clear f0_0 f0_1 f1_0 f1_1 f2_0 f2_1 f3_0 f3_1
  have HX5 := Lib.hid hB5
  have HY5 := Lib.hid hb5.size
  clear hB5 hb5
  go_wp2_with fail
  obtain ⟨W5, hW5⟩ : ∃ W5, W5 = w5.alloc (.cells #[.bool sB, .string sS] 24) := ⟨_, rfl⟩
  have hZ5 : W5.heap.size = w5.heap.size + 1 := by rw [hW5]; simp
  rw [← hW5] at HX5 ⊢
  rw [← hW5] at n0_0 n0_1
  rw [← hW5] at n1_0 n1_1
  rw [← hW5] at n2_0 n2_1
  rw [← hW5] at n3_0 n3_1
  rw [← hW5] at n4_0 n4_1
  obtain ⟨g5, hg5⟩ : ∃ g5, w5.heap.size = g5 := ⟨_, rfl⟩
  rw [hg5] at n4_0 n4_1
  rw [hg5] at hZ5 HY5 ⊢
  clear hW5 hg5
  have HL0 := Lib.hid (Nat.lt_of_lt_of_le HL0.out HX5.out.size)
  have HL1 := Lib.hid (Nat.lt_of_lt_of_le HL1.out HX5.out.size)
  have HL2 := Lib.hid (Nat.lt_of_lt_of_le HL2.out HX5.out.size)
  have HL3 := Lib.hid (Nat.lt_of_lt_of_le HL3.out HX5.out.size)
  have HL4 := Lib.hid (show g5 < W5.heap.size by rw [hZ5]; omega)
  clear hZ5 HY5
  have HB := Lib.hid (HB.out.trans (HX5.out.mono HB.out.size))
  clear HX5
  have f0_0 := n0_0
  have f0_1 := n0_1
  have f1_0 := n1_0
  have f1_1 := n1_1
  have f2_0 := n2_0
  have f2_1 := n2_1
  have f3_0 := n3_0
  have f3_1 := n3_1
  have f4_0 := n4_0
  have f4_1 := n4_1
  clear n0_0 n0_1 n1_0 n1_1 n2_0 n2_1 n3_0 n3_1 n4_0 n4_1
  refine (H5.out _).mono ?_
  rintro e w6 ⟨rfl, hb6⟩
  have hB6 : Below W5.heap.size W5 (w6.alloc (.cells #[.bool tB, .string tS] 24)) := ((hb6).alloc (by have := hb6.size; simp; try omega) _)
  have n0_0 := (hB6.cell (p := ⟨w.heap.size, 0, none⟩) HL0.out).trans f0_0
  have n0_1 := (hB6.cell (p := ⟨w.heap.size, 1, none⟩) HL0.out).trans f0_1
  have n1_0 := (hB6.cell (p := ⟨w.heap.size + 1, 0, none⟩) HL1.out).trans f1_0
  have n1_1 := (hB6.cell (p := ⟨w.heap.size + 1, 1, none⟩) HL1.out).trans f1_1
  have n2_0 := (hB6.cell (p := ⟨w.heap.size + 2, 0, none⟩) HL2.out).trans f2_0
  have n2_1 := (hB6.cell (p := ⟨w.heap.size + 2, 1, none⟩) HL2.out).trans f2_1
  have n3_0 := (hB6.cell (p := ⟨g4, 0, none⟩) HL3.out).trans f3_0
  have n3_1 := (hB6.cell (p := ⟨g4, 1, none⟩) HL3.out).trans f3_1
  have n4_0 := (hB6.cell (p := ⟨g5, 0, none⟩) HL4.out).trans f4_0
  have n4_1 := (hB6.cell (p := ⟨g5, 1, none⟩) HL4.out).trans f4_1
  have n5_0 : (w6.alloc (.cells #[.bool tB, .string tS] 24)).cell? ⟨w6.heap.size, 0, none⟩ = some (.bool tB) := by simp [go_sem]
  have n5_1 : (w6.alloc (.cells #[.bool tB, .string tS] 24)).cell? ⟨w6.heap.size, 1, none⟩ = some (.string tS) := by simp [go_sem]
  clear f0_0 f0_1 f1_0 f1_1 f2_0 f2_1 f3_0 f3_1 f4_0 f4_1
  have HX6 := Lib.hid hB6
  have HY6 := Lib.hid hb6.size
  clear hB6 hb6
  go_wp2_with fail
  obtain ⟨W6, hW6⟩ : ∃ W6, W6 = w6.alloc (.cells #[.bool tB, .string tS] 24) := ⟨_, rfl⟩
  have hZ6 : W6.heap.size = w6.heap.size + 1 := by rw [hW6]; simp
  rw [← hW6] at HX6 ⊢
  rw [← hW6] at n0_0 n0_1
  rw [← hW6] at n1_0 n1_1
  rw [← hW6] at n2_0 n2_1
  rw [← hW6] at n3_0 n3_1
  rw [← hW6] at n4_0 n4_1
  rw [← hW6] at n5_0 n5_1
  obtain ⟨g6, hg6⟩ : ∃ g6, w6.heap.size = g6 := ⟨_, rfl⟩
  rw [hg6] at n5_0 n5_1
  rw [hg6] at hZ6 HY6 ⊢
  clear hW6 hg6
  have HL0 := Lib.hid (Nat.lt_of_lt_of_le HL0.out HX6.out.size)
  have HL1 := Lib.hid (Nat.lt_of_lt_of_le HL1.out HX6.out.size)
  have HL2 := Lib.hid (Nat.lt_of_lt_of_le HL2.out HX6.out.size)
  have HL3 := Lib.hid (Nat.lt_of_lt_of_le HL3.out HX6.out.size)
  have HL4 := Lib.hid (Nat.lt_of_lt_of_le HL4.out HX6.out.size)
  have HL5 := Lib.hid (show g6 < W6.heap.size by rw [hZ6]; omega)
  clear hZ6 HY6
  have HB := Lib.hid (HB.out.trans (HX6.out.mono HB.out.size))
  clear HX6
  have f0_0 := n0_0
  have f0_1 := n0_1
  have f1_0 := n1_0
  have f1_1 := n1_1
  have f2_0 := n2_0
  have f2_1 := n2_1
  have f3_0 := n3_0
  have f3_1 := n3_1
  have f4_0 := n4_0
  have f4_1 := n4_1
  have f5_0 := n5_0
  have f5_1 := n5_1
  clear n0_0 n0_1 n1_0 n1_1 n2_0 n2_1 n3_0 n3_1 n4_0 n4_1 n5_0 n5_1
  refine (H6.out _).mono ?_
  rintro e w7 ⟨rfl, hb7⟩
  have hB7 : Below W6.heap.size W6 (w7) := hb7
  have n0_0 := (hB7.cell (p := ⟨w.heap.size, 0, none⟩) HL0.out).trans f0_0
  have n0_1 := (hB7.cell (p := ⟨w.heap.size, 1, none⟩) HL0.out).trans f0_1
  have n1_0 := (hB7.cell (p := ⟨w.heap.size + 1, 0, none⟩) HL1.out).trans f1_0
  have n1_1 := (hB7.cell (p := ⟨w.heap.size + 1, 1, none⟩) HL1.out).trans f1_1
  have n2_0 := (hB7.cell (p := ⟨w.heap.size + 2, 0, none⟩) HL2.out).trans f2_0
  have n2_1 := (hB7.cell (p := ⟨w.heap.size + 2, 1, none⟩) HL2.out).trans f2_1
  have n3_0 := (hB7.cell (p := ⟨g4, 0, none⟩) HL3.out).trans f3_0
  have n3_1 := (hB7.cell (p := ⟨g4, 1, none⟩) HL3.out).trans f3_1
  have n4_0 := (hB7.cell (p := ⟨g5, 0, none⟩) HL4.out).trans f4_0
  have n4_1 := (hB7.cell (p := ⟨g5, 1, none⟩) HL4.out).trans f4_1
  have n5_0 := (hB7.cell (p := ⟨g6, 0, none⟩) HL5.out).trans f5_0
  have n5_1 := (hB7.cell (p := ⟨g6, 1, none⟩) HL5.out).trans f5_1
  clear f0_0 f0_1 f1_0 f1_1 f2_0 f2_1 f3_0 f3_1 f4_0 f4_1 f5_0 f5_1
  have HX7 := Lib.hid hB7
  have HY7 := Lib.hid hb7.size
  clear hB7 hb7
  go_wp2_with fail
  have HL0 := Lib.hid (Nat.lt_of_lt_of_le HL0.out HX7.out.size)
  have HL1 := Lib.hid (Nat.lt_of_lt_of_le HL1.out HX7.out.size)
  have HL2 := Lib.hid (Nat.lt_of_lt_of_le HL2.out HX7.out.size)
  have HL3 := Lib.hid (Nat.lt_of_lt_of_le HL3.out HX7.out.size)
  have HL4 := Lib.hid (Nat.lt_of_lt_of_le HL4.out HX7.out.size)
  have HL5 := Lib.hid (Nat.lt_of_lt_of_le HL5.out HX7.out.size)
  have HB := Lib.hid (HB.out.trans (HX7.out.mono HB.out.size))
  clear HX7
  have f0_0 := n0_0
  have f0_1 := n0_1
  have f1_0 := n1_0
  have f1_1 := n1_1
  have f2_0 := n2_0
  have f2_1 := n2_1
  have f3_0 := n3_0
  have f3_1 := n3_1
  have f4_0 := n4_0
  have f4_1 := n4_1
  have f5_0 := n5_0
  have f5_1 := n5_1
  clear n0_0 n0_1 n1_0 n1_1 n2_0 n2_1 n3_0 n3_1 n4_0 n4_1 n5_0 n5_1
  refine (H7.out _).mono ?_
  rintro e w8 ⟨rfl, hb8⟩
  have hB8 : Below w7.heap.size w7 (w8) := hb8
  have n0_0 := (hB8.cell (p := ⟨w.heap.size, 0, none⟩) HL0.out).trans f0_0
  have n0_1 := (hB8.cell (p := ⟨w.heap.size, 1, none⟩) HL0.out).trans f0_1
  have n1_0 := (hB8.cell (p := ⟨w.heap.size + 1, 0, none⟩) HL1.out).trans f1_0
  have n1_1 := (hB8.cell (p := ⟨w.heap.size + 1, 1, none⟩) HL1.out).trans f1_1
  have n2_0 := (hB8.cell (p := ⟨w.heap.size + 2, 0, none⟩) HL2.out).trans f2_0
  have n2_1 := (hB8.cell (p := ⟨w.heap.size + 2, 1, none⟩) HL2.out).trans f2_1
  have n3_0 := (hB8.cell (p := ⟨g4, 0, none⟩) HL3.out).trans f3_0
  have n3_1 := (hB8.cell (p := ⟨g4, 1, none⟩) HL3.out).trans f3_1
  have n4_0 := (hB8.cell (p := ⟨g5, 0, none⟩) HL4.out).trans f4_0
  have n4_1 := (hB8.cell (p := ⟨g5, 1, none⟩) HL4.out).trans f4_1
  have n5_0 := (hB8.cell (p := ⟨g6, 0, none⟩) HL5.out).trans f5_0
  have n5_1 := (hB8.cell (p := ⟨g6, 1, none⟩) HL5.out).trans f5_1
  clear f0_0 f0_1 f1_0 f1_1 f2_0 f2_1 f3_0 f3_1 f4_0 f4_1 f5_0 f5_1
  have HX8 := Lib.hid hB8
  have HY8 := Lib.hid hb8.size
  clear hB8 hb8
  go_wp2_with fail
  have HL0 := Lib.hid (Nat.lt_of_lt_of_le HL0.out HX8.out.size)
  have HL1 := Lib.hid (Nat.lt_of_lt_of_le HL1.out HX8.out.size)
  have HL2 := Lib.hid (Nat.lt_of_lt_of_le HL2.out HX8.out.size)
  have HL3 := Lib.hid (Nat.lt_of_lt_of_le HL3.out HX8.out.size)
  have HL4 := Lib.hid (Nat.lt_of_lt_of_le HL4.out HX8.out.size)
  have HL5 := Lib.hid (Nat.lt_of_lt_of_le HL5.out HX8.out.size)
  have HB := Lib.hid (HB.out.trans (HX8.out.mono HB.out.size))
  clear HX8
  have f0_0 := n0_0
  have f0_1 := n0_1
  have f1_0 := n1_0
  have f1_1 := n1_1
  have f2_0 := n2_0
  have f2_1 := n2_1
  have f3_0 := n3_0
  have f3_1 := n3_1
  have f4_0 := n4_0
  have f4_1 := n4_1
  have f5_0 := n5_0
  have f5_1 := n5_1
  clear n0_0 n0_1 n1_0 n1_1 n2_0 n2_1 n3_0 n3_1 n4_0 n4_1 n5_0 n5_1
  refine (HLV.out _).mono ?_
  rintro e w9 ⟨rfl, hb9⟩
  have hB9 : Below w8.heap.size w8 (w9) := hb9
  have n0_0 := (hB9.cell (p := ⟨w.heap.size, 0, none⟩) HL0.out).trans f0_0
  have n0_1 := (hB9.cell (p := ⟨w.heap.size, 1, none⟩) HL0.out).trans f0_1
  have n1_0 := (hB9.cell (p := ⟨w.heap.size + 1, 0, none⟩) HL1.out).trans f1_0
  have n1_1 := (hB9.cell (p := ⟨w.heap.size + 1, 1, none⟩) HL1.out).trans f1_1
  have n2_0 := (hB9.cell (p := ⟨w.heap.size + 2, 0, none⟩) HL2.out).trans f2_0
  have n2_1 := (hB9.cell (p := ⟨w.heap.size + 2, 1, none⟩) HL2.out).trans f2_1
  have n3_0 := (hB9.cell (p := ⟨g4, 0, none⟩) HL3.out).trans f3_0
  have n3_1 := (hB9.cell (p := ⟨g4, 1, none⟩) HL3.out).trans f3_1
  have n4_0 := (hB9.cell (p := ⟨g5, 0, none⟩) HL4.out).trans f4_0
  have n4_1 := (hB9.cell (p := ⟨g5, 1, none⟩) HL4.out).trans f4_1
  have n5_0 := (hB9.cell (p := ⟨g6, 0, none⟩) HL5.out).trans f5_0
  have n5_1 := (hB9.cell (p := ⟨g6, 1, none⟩) HL5.out).trans f5_1
  clear f0_0 f0_1 f1_0 f1_1 f2_0 f2_1 f3_0 f3_1 f4_0 f4_1 f5_0 f5_1
  have HX9 := Lib.hid hB9
  have HY9 := Lib.hid hb9.size
  clear hB9 hb9
  have HL0 := Lib.hid (Nat.lt_of_lt_of_le HL0.out HX9.out.size)
  have HL1 := Lib.hid (Nat.lt_of_lt_of_le HL1.out HX9.out.size)
  have HL2 := Lib.hid (Nat.lt_of_lt_of_le HL2.out HX9.out.size)
  have HL3 := Lib.hid (Nat.lt_of_lt_of_le HL3.out HX9.out.size)
  have HL4 := Lib.hid (Nat.lt_of_lt_of_le HL4.out HX9.out.size)
  have HL5 := Lib.hid (Nat.lt_of_lt_of_le HL5.out HX9.out.size)
  have HB := Lib.hid (HB.out.trans (HX9.out.mono HB.out.size))
  clear HX9
  have f0_0 := n0_0
  have f0_1 := n0_1
  have f1_0 := n1_0
  have f1_1 := n1_1
  have f2_0 := n2_0
  have f2_1 := n2_1
  have f3_0 := n3_0
  have f3_1 := n3_1
  have f4_0 := n4_0
  have f4_1 := n4_1
  have f5_0 := n5_0
  have f5_1 := n5_1
  clear n0_0 n0_1 n1_0 n1_1 n2_0 n2_1 n3_0 n3_1 n4_0 n4_1 n5_0 n5_1
  go_wp2
  go_ret
  exact ⟨rfl, HB.out⟩

theorem cmp_f (a b : Bool × ByteArray) : Hid (∀ w, Calls Tryd.prog 30 #[.agg #[.bool a.1, .string a.2], .agg #[.bool b.1, .string b.2]] w fun e w' => e = .returned (.tuple #[.int .i64 (cmpF a b).1, .int .i64 (cmpF a b).2]) ∧ Below w.heap.size w w') :=
  Lib.hid fun w => (cmp_w a.1 a.2 b.1 b.2 w).mono fun e w' h => by
    refine ⟨?_, h.2.2⟩
    unfold cmpF
    split
    · rename_i h0; exact h.2.1 h0
    · rename_i h0; exact h.1 h0
theorem cmpF_err {a b : Bool × ByteArray} : (cmpF a b).2 = bad2 a.1 a.2 b.1 b.2 := by
  unfold cmpF
  split
  · rename_i h; exact h.symm
  · rfl
theorem cmpF_ok {a b : Bool × ByteArray} (h : bad2 a.1 a.2 b.1 b.2 = 0) : cmpF a b = (cmpI (ival a.1 a.2) (ival b.1 b.2), 0) := if_pos h
theorem cmpI_flip (x y : Int) : cmpI y x = - cmpI x y := by
  rcases cmpI_cases x y with ⟨h, e⟩ | ⟨h, e⟩ | ⟨h, e⟩
  · rw [e, cmpI_gt h]; rfl
  · subst h; rw [cmpI_eq]; rfl
  · rw [e, cmpI_lt h]
theorem cmpI_sub (x y : Int) : cmpI (x - y) 0 = cmpI x y := by
  rcases cmpI_cases x y with ⟨h, e⟩ | ⟨h, e⟩ | ⟨h, e⟩
  · rw [e, cmpI_lt (by omega)]
  · subst h; rw [Int.sub_self, cmpI_eq, cmpI_eq]
  · rw [e, cmpI_gt (by omega)]
theorem cmpI_add (x y z : Int) : cmpI (x + z) (y + z) = cmpI x y := by
  rcases cmpI_cases x y with ⟨h, e⟩ | ⟨h, e⟩ | ⟨h, e⟩
  · rw [e, cmpI_lt (by omega)]
  · subst h; rw [cmpI_eq, cmpI_eq]
  · rw [e, cmpI_gt (by omega)]
theorem cmpI_bd (x y : Int) : -1 ≤ cmpI x y ∧ cmpI x y ≤ 1 := by
  rcases cmpI_cases x y with ⟨h, e⟩ | ⟨h, e⟩ | ⟨h, e⟩ <;> rw [e] <;> omega
theorem okI_nil : okI false ⟨#[]⟩ := ⟨by decide, fun h => absurd h (by decide), fun h => by cases h⟩
theorem ival_nil : ival false ⟨#[]⟩ = 0 := rfl
theorem orders_law {a b c : Bool × ByteArray} (h1 : (cmpF a b).2 = 0) (h2 : (cmpF b a).2 = 0) (h3 : (binF (· - ·) a b).2 = 0) (h4 : (binF (· + ·) a c).2 = 0) (h5 : (binF (· + ·) b c).2 = 0)
    (z1 : (binF (· - ·) a b).1.2.size ≤ 32000) (z2 : (binF (· + ·) a c).1.2.size ≤ 32000) (z3 : (binF (· + ·) b c).1.2.size ≤ 32000) :
    cmpF (binF (· - ·) a b).1 (false, ⟨#[]⟩) = ((cmpF a b).1, 0) ∧ cmpF (binF (· + ·) a c).1 (binF (· + ·) b c).1 = ((cmpF a b).1, 0) ∧ IntKind.i64.wrap (-(cmpF b a).1) = (cmpF a b).1 := by
  rw [cmpF_err] at h1 h2
  rw [binF_err] at h3 h4 h5
  have e3 := binF_ok (f := (· - ·)) h3
  have e4 := binF_ok (f := (· + ·)) h4
  have e5 := binF_ok (f := (· + ·)) h5
  rw [e3] at z1 ⊢
  rw [e4] at z2 ⊢
  rw [e5] at z3 ⊢
  rw [cmpF_ok h1, cmpF_ok h2]
  refine ⟨?_, ?_, ?_⟩
  · rw [cmpF_ok (bad2_ok.2 ⟨okI_pv z1, okI_nil⟩), ival_pv, ival_nil, cmpI_sub]
  · rw [cmpF_ok (bad_pv z2 z3), ival_pv, ival_pv, cmpI_add]
  · rw [cmpI_flip (ival b.1 b.2) (ival a.1 a.2)]
    have := cmpI_bd (ival b.1 b.2) (ival a.1 a.2)
    exact IntWalk.i64_in _ (by omega)

theorem orders_c (a b c : Bool × ByteArray) (w : World) :
    Calls Tryd.prog 8 #[.agg #[.bool a.1, .string a.2], .agg #[.bool b.1, .string b.2], .agg #[.bool c.1, .string c.2]] w fun e w' => e = .returned (.bool true) ∧ Below w.heap.size w w' := by
  cases hs : (decide (a.2.size ≤ 400) && decide (b.2.size ≤ 400)) with
  | false => exact orders_big _ _ _ _ _ _ (small_f a b false hs) w
  | true =>
    have HS := small_f a b true hs
    simp only [Bool.and_eq_true, decide_eq_true_eq] at hs
    obtain ⟨ha, hb⟩ := hs
    by_cases hc : 400 < c.2.size
    · exact orders_big2 _ _ _ _ _ _ HS (decide_eq_true (by omega)) w
    · have hc' : c.2.size ≤ 400 := by omega
      have hcd : decide ((400 : Int) < (c.2.size : Int)) = false := decide_eq_false (by omega)
      have zd := binF_sub_size (m := 401) ha hb (by omega)
      have zs := binF_add_size (m := 401) ha hc' (by omega)
      have zt := binF_add_size (m := 401) hb hc' (by omega)
      have H1 := cmp_f a b
      have H2 := cmp_f b a
      have H3 := sub_f a b (by omega) (by omega)
      have H4 := add_f a c (by omega) (by omega)
      have H5 := add_f b c (by omega) (by omega)
      have H6 := cmp_f (binF (· - ·) a b).1 (false, ⟨#[]⟩)
      have H7 := cmp_f (binF (· + ·) a c).1 (binF (· + ·) b c).1
      by_cases hz : (cmpF a b).2 = 0 ∧ (cmpF b a).2 = 0 ∧ (binF (· - ·) a b).2 = 0 ∧ (binF (· + ·) a c).2 = 0 ∧ (binF (· + ·) b c).2 = 0
      · obtain ⟨z1, z2, z3, z4, z5⟩ := hz
        obtain ⟨e6, e7, hY⟩ := orders_law z1 z2 z3 z4 z5 (by omega) (by omega) (by omega)
        rw [e6] at H6
        rw [e7] at H7
        rw [z1] at H1
        rw [z2] at H2
        rw [z3] at H3
        rw [z4] at H4
        rw [z5] at H5
        exact orders_ok _ _ _ _ _ _ HS hcd _ _ _ _ _ _ _ _ hY H1 H2 H3 H4 H5 H6 H7 w
      · exact orders_err _ _ _ _ _ _ HS hcd _ _ _ _ _ _ _ _ _ _ _ _ _ H1 H2 H3 H4 H5 hz w
#print axioms orders_c
end Go.Proofs.YtimpimnaknkgpaaDoor
