import Derived.Test.YtoijlbcbbblbfaaGreatDoorZzV0
namespace Go.Proofs.YtoijlbcbbblbfaaGreatDoor
open Go.RowKit Num
set_option linter.unusedVariables false
set_option linter.unusedSimpArgs false

set_option maxHeartbeats 1000000 in
set_option maxRecDepth 100000 in
theorem do_Mul (a1 : Bool) (a2 : ByteArray) (b1 : Bool) (b2 : ByteArray) (r1 : Bool) (r2 : ByteArray) (x : Int)
  (H : Hid (∀ w, Calls Tryz.prog 58 #[.agg #[.bool a1, .string a2], .agg #[.bool b1, .string b2]] w fun e w' => e = .returned (.tuple #[.agg #[.bool r1, .string r2], .int .i64 x]) ∧ Below w.heap.size w w')) (w : World) :
  Calls Tryz.prog 57 #[.func (.func 58) #[] #[], .agg #[.bool a1, .string a2], .agg #[.bool b1, .string b2]] w fun e w' => e = .returned (.agg #[.bool r1, .string r2]) ∧ Below w.heap.size w w' := by
 obtain ⟨W0, hW0⟩ : ∃ W0, W0 = ((w.alloc (.cells #[.bool a1, .string a2] 24)).alloc (.cells #[.bool b1, .string b2] 24)).alloc (.cells #[.bool false, .string ⟨#[]⟩] 24) := ⟨_, rfl⟩
 have hB0 : Below w.heap.size w W0 := by rw [hW0]; exact (((Below.refl _ _).alloc (by simp; try omega) _).alloc (by simp; try omega) _).alloc (by simp; try omega) _
 have f0_0 : W0.cell? ⟨w.heap.size, 0, none⟩ = some (.bool a1) := by rw [hW0]; simp [go_sem]
 have f0_1 : W0.cell? ⟨w.heap.size, 1, none⟩ = some (.string a2) := by rw [hW0]; simp [go_sem]
 have f1_0 : W0.cell? ⟨w.heap.size + 1, 0, none⟩ = some (.bool b1) := by rw [hW0]; simp [go_sem]
 have f1_1 : W0.cell? ⟨w.heap.size + 1, 1, none⟩ = some (.string b2) := by rw [hW0]; simp [go_sem]
 have f2_0 : W0.cell? ⟨w.heap.size + 2, 0, none⟩ = some (.bool false) := by rw [hW0]; simp [go_sem]
 have f2_1 : W0.cell? ⟨w.heap.size + 2, 1, none⟩ = some (.string ⟨#[]⟩) := by rw [hW0]; simp [go_sem]
 have hZ0 : W0.heap.size = w.heap.size + 3 := by rw [hW0]; simp
 have HL0 := Lib.hid (show w.heap.size < W0.heap.size by rw [hZ0]; omega)
 have HL1 := Lib.hid (show w.heap.size + 1 < W0.heap.size by rw [hZ0]; omega)
 have HL2 := Lib.hid (show w.heap.size + 2 < W0.heap.size by rw [hZ0]; omega)
 have HW0 := Lib.hid hW0
 have HB := Lib.hid hB0
 clear hB0 hZ0 hW0
 have fz2_0 : W0.frozen? ⟨w.heap.size + 2, 0, none⟩ = false := by rw [HW0.out]; simp [go_sem]
 have fz2_1 : W0.frozen? ⟨w.heap.size + 2, 1, none⟩ = false := by rw [HW0.out]; simp [go_sem]
 go_enter Tryz.func57, Tryz.ntmps57
 go_wp2_with fail
 rw [← HW0.out]
 refine (H.out _).mono ?_
 rintro e w1 ⟨rfl, hb1⟩
 have hB1 : Below W0.heap.size W0 (w1.alloc (.cells #[.bool r1, .string r2] 24)) := ((hb1).alloc (by have := hb1.size; simp; try omega) _)
 have n0_0 := (hB1.cell (p := ⟨w.heap.size, 0, none⟩) HL0.out).trans f0_0
 have n0_1 := (hB1.cell (p := ⟨w.heap.size, 1, none⟩) HL0.out).trans f0_1
 have n1_0 := (hB1.cell (p := ⟨w.heap.size + 1, 0, none⟩) HL1.out).trans f1_0
 have n1_1 := (hB1.cell (p := ⟨w.heap.size + 1, 1, none⟩) HL1.out).trans f1_1
 have n2_0 := (hB1.cell (p := ⟨w.heap.size + 2, 0, none⟩) HL2.out).trans f2_0
 have n2_1 := (hB1.cell (p := ⟨w.heap.size + 2, 1, none⟩) HL2.out).trans f2_1
 have n3_0 : (w1.alloc (.cells #[.bool r1, .string r2] 24)).cell? ⟨w1.heap.size, 0, none⟩ = some (.bool r1) := by simp [go_sem]
 have n3_1 : (w1.alloc (.cells #[.bool r1, .string r2] 24)).cell? ⟨w1.heap.size, 1, none⟩ = some (.string r2) := by simp [go_sem]
 have nz2_0 := (hB1.frozen (p := ⟨w.heap.size + 2, 0, none⟩) HL2.out).trans fz2_0
 have nz2_1 := (hB1.frozen (p := ⟨w.heap.size + 2, 1, none⟩) HL2.out).trans fz2_1
 clear f0_0 f0_1 f1_0 f1_1 f2_0 f2_1 fz2_0 fz2_1
 have HX1 := Lib.hid hB1
 have HY1 := Lib.hid hb1.size
 clear hB1 hb1
 go_wp2
 obtain ⟨W1, hW1⟩ : ∃ W1, W1 = w1.alloc (.cells #[.bool r1, .string r2] 24) := ⟨_, rfl⟩
 have hZ1 : W1.heap.size = w1.heap.size + 1 := by rw [hW1]; simp
 rw [← hW1] at HX1 ⊢
 rw [← hW1] at n0_0 n0_1
 rw [← hW1] at n1_0 n1_1
 rw [← hW1] at n2_0 n2_1
 rw [← hW1] at n3_0 n3_1
 rw [← hW1] at nz2_0 nz2_1
 obtain ⟨g1, hg1⟩ : ∃ g1, w1.heap.size = g1 := ⟨_, rfl⟩
 rw [hg1] at n3_0 n3_1
 rw [hg1] at hZ1 HY1 ⊢
 clear hW1 hg1
 have HL0 := Lib.hid (Nat.lt_of_lt_of_le HL0.out HX1.out.size)
 have HL1 := Lib.hid (Nat.lt_of_lt_of_le HL1.out HX1.out.size)
 have HL2 := Lib.hid (Nat.lt_of_lt_of_le HL2.out HX1.out.size)
 have HL3 := Lib.hid (show g1 < W1.heap.size by rw [hZ1]; omega)
 clear hZ1 HY1
 have HB := Lib.hid (HB.out.trans (HX1.out.mono HB.out.size))
 clear HX1
 have f0_0 := n0_0
 have f0_1 := n0_1
 have f1_0 := n1_0
 have f1_1 := n1_1
 have f2_0 := n2_0
 have f2_1 := n2_1
 have f3_0 := n3_0
 have f3_1 := n3_1
 have fz2_0 := nz2_0
 have fz2_1 := nz2_1
 clear n0_0 n0_1 n1_0 n1_1 n2_0 n2_1 n3_0 n3_1 nz2_0 nz2_1
 refine bodyPost_ret (by simp [results, Tryz.results57, go_sem, f2_0, f2_1]; try rfl) rfl ?_
 exact ⟨rfl, (HB.out.setCell (by simp; try omega) _).setCell (by simp; try omega) _⟩
set_option maxHeartbeats 1000000 in
set_option maxRecDepth 100000 in
theorem do_Gcd (a1 : Bool) (a2 : ByteArray) (b1 : Bool) (b2 : ByteArray) (r1 : Bool) (r2 : ByteArray) (x : Int)
  (H : Hid (∀ w, Calls Tryz.prog 77 #[.agg #[.bool a1, .string a2], .agg #[.bool b1, .string b2]] w fun e w' => e = .returned (.tuple #[.agg #[.bool r1, .string r2], .int .i64 x]) ∧ Below w.heap.size w w')) (w : World) :
  Calls Tryz.prog 57 #[.func (.func 77) #[] #[], .agg #[.bool a1, .string a2], .agg #[.bool b1, .string b2]] w fun e w' => e = .returned (.agg #[.bool r1, .string r2]) ∧ Below w.heap.size w w' := by
 obtain ⟨W0, hW0⟩ : ∃ W0, W0 = ((w.alloc (.cells #[.bool a1, .string a2] 24)).alloc (.cells #[.bool b1, .string b2] 24)).alloc (.cells #[.bool false, .string ⟨#[]⟩] 24) := ⟨_, rfl⟩
 have hB0 : Below w.heap.size w W0 := by rw [hW0]; exact (((Below.refl _ _).alloc (by simp; try omega) _).alloc (by simp; try omega) _).alloc (by simp; try omega) _
 have f0_0 : W0.cell? ⟨w.heap.size, 0, none⟩ = some (.bool a1) := by rw [hW0]; simp [go_sem]
 have f0_1 : W0.cell? ⟨w.heap.size, 1, none⟩ = some (.string a2) := by rw [hW0]; simp [go_sem]
 have f1_0 : W0.cell? ⟨w.heap.size + 1, 0, none⟩ = some (.bool b1) := by rw [hW0]; simp [go_sem]
 have f1_1 : W0.cell? ⟨w.heap.size + 1, 1, none⟩ = some (.string b2) := by rw [hW0]; simp [go_sem]
 have f2_0 : W0.cell? ⟨w.heap.size + 2, 0, none⟩ = some (.bool false) := by rw [hW0]; simp [go_sem]
 have f2_1 : W0.cell? ⟨w.heap.size + 2, 1, none⟩ = some (.string ⟨#[]⟩) := by rw [hW0]; simp [go_sem]
 have hZ0 : W0.heap.size = w.heap.size + 3 := by rw [hW0]; simp
 have HL0 := Lib.hid (show w.heap.size < W0.heap.size by rw [hZ0]; omega)
 have HL1 := Lib.hid (show w.heap.size + 1 < W0.heap.size by rw [hZ0]; omega)
 have HL2 := Lib.hid (show w.heap.size + 2 < W0.heap.size by rw [hZ0]; omega)
 have HW0 := Lib.hid hW0
 have HB := Lib.hid hB0
 clear hB0 hZ0 hW0
 have fz2_0 : W0.frozen? ⟨w.heap.size + 2, 0, none⟩ = false := by rw [HW0.out]; simp [go_sem]
 have fz2_1 : W0.frozen? ⟨w.heap.size + 2, 1, none⟩ = false := by rw [HW0.out]; simp [go_sem]
 go_enter Tryz.func57, Tryz.ntmps57
 go_wp2_with fail
 rw [← HW0.out]
 refine (H.out _).mono ?_
 rintro e w1 ⟨rfl, hb1⟩
 have hB1 : Below W0.heap.size W0 (w1.alloc (.cells #[.bool r1, .string r2] 24)) := ((hb1).alloc (by have := hb1.size; simp; try omega) _)
 have n0_0 := (hB1.cell (p := ⟨w.heap.size, 0, none⟩) HL0.out).trans f0_0
 have n0_1 := (hB1.cell (p := ⟨w.heap.size, 1, none⟩) HL0.out).trans f0_1
 have n1_0 := (hB1.cell (p := ⟨w.heap.size + 1, 0, none⟩) HL1.out).trans f1_0
 have n1_1 := (hB1.cell (p := ⟨w.heap.size + 1, 1, none⟩) HL1.out).trans f1_1
 have n2_0 := (hB1.cell (p := ⟨w.heap.size + 2, 0, none⟩) HL2.out).trans f2_0
 have n2_1 := (hB1.cell (p := ⟨w.heap.size + 2, 1, none⟩) HL2.out).trans f2_1
 have n3_0 : (w1.alloc (.cells #[.bool r1, .string r2] 24)).cell? ⟨w1.heap.size, 0, none⟩ = some (.bool r1) := by simp [go_sem]
 have n3_1 : (w1.alloc (.cells #[.bool r1, .string r2] 24)).cell? ⟨w1.heap.size, 1, none⟩ = some (.string r2) := by simp [go_sem]
 have nz2_0 := (hB1.frozen (p := ⟨w.heap.size + 2, 0, none⟩) HL2.out).trans fz2_0
 have nz2_1 := (hB1.frozen (p := ⟨w.heap.size + 2, 1, none⟩) HL2.out).trans fz2_1
 clear f0_0 f0_1 f1_0 f1_1 f2_0 f2_1 fz2_0 fz2_1
 have HX1 := Lib.hid hB1
 have HY1 := Lib.hid hb1.size
 clear hB1 hb1
 go_wp2
 obtain ⟨W1, hW1⟩ : ∃ W1, W1 = w1.alloc (.cells #[.bool r1, .string r2] 24) := ⟨_, rfl⟩
 have hZ1 : W1.heap.size = w1.heap.size + 1 := by rw [hW1]; simp
 rw [← hW1] at HX1 ⊢
 rw [← hW1] at n0_0 n0_1
 rw [← hW1] at n1_0 n1_1
 rw [← hW1] at n2_0 n2_1
 rw [← hW1] at n3_0 n3_1
 rw [← hW1] at nz2_0 nz2_1
 obtain ⟨g1, hg1⟩ : ∃ g1, w1.heap.size = g1 := ⟨_, rfl⟩
 rw [hg1] at n3_0 n3_1
 rw [hg1] at hZ1 HY1 ⊢
 clear hW1 hg1
 have HL0 := Lib.hid (Nat.lt_of_lt_of_le HL0.out HX1.out.size)
 have HL1 := Lib.hid (Nat.lt_of_lt_of_le HL1.out HX1.out.size)
 have HL2 := Lib.hid (Nat.lt_of_lt_of_le HL2.out HX1.out.size)
 have HL3 := Lib.hid (show g1 < W1.heap.size by rw [hZ1]; omega)
 clear hZ1 HY1
 have HB := Lib.hid (HB.out.trans (HX1.out.mono HB.out.size))
 clear HX1
 have f0_0 := n0_0
 have f0_1 := n0_1
 have f1_0 := n1_0
 have f1_1 := n1_1
 have f2_0 := n2_0
 have f2_1 := n2_1
 have f3_0 := n3_0
 have f3_1 := n3_1
 have fz2_0 := nz2_0
 have fz2_1 := nz2_1
 clear n0_0 n0_1 n1_0 n1_1 n2_0 n2_1 n3_0 n3_1 nz2_0 nz2_1
 refine bodyPost_ret (by simp [results, Tryz.results57, go_sem, f2_0, f2_1]; try rfl) rfl ?_
 exact ⟨rfl, (HB.out.setCell (by simp; try omega) _).setCell (by simp; try omega) _⟩
set_option maxHeartbeats 1000000 in
set_option maxRecDepth 100000 in
theorem do_Add (a1 : Bool) (a2 : ByteArray) (b1 : Bool) (b2 : ByteArray) (r1 : Bool) (r2 : ByteArray) (x : Int)
  (H : Hid (∀ w, Calls Tryz.prog 74 #[.agg #[.bool a1, .string a2], .agg #[.bool b1, .string b2]] w fun e w' => e = .returned (.tuple #[.agg #[.bool r1, .string r2], .int .i64 x]) ∧ Below w.heap.size w w')) (w : World) :
  Calls Tryz.prog 57 #[.func (.func 74) #[] #[], .agg #[.bool a1, .string a2], .agg #[.bool b1, .string b2]] w fun e w' => e = .returned (.agg #[.bool r1, .string r2]) ∧ Below w.heap.size w w' := by
 obtain ⟨W0, hW0⟩ : ∃ W0, W0 = ((w.alloc (.cells #[.bool a1, .string a2] 24)).alloc (.cells #[.bool b1, .string b2] 24)).alloc (.cells #[.bool false, .string ⟨#[]⟩] 24) := ⟨_, rfl⟩
 have hB0 : Below w.heap.size w W0 := by rw [hW0]; exact (((Below.refl _ _).alloc (by simp; try omega) _).alloc (by simp; try omega) _).alloc (by simp; try omega) _
 have f0_0 : W0.cell? ⟨w.heap.size, 0, none⟩ = some (.bool a1) := by rw [hW0]; simp [go_sem]
 have f0_1 : W0.cell? ⟨w.heap.size, 1, none⟩ = some (.string a2) := by rw [hW0]; simp [go_sem]
 have f1_0 : W0.cell? ⟨w.heap.size + 1, 0, none⟩ = some (.bool b1) := by rw [hW0]; simp [go_sem]
 have f1_1 : W0.cell? ⟨w.heap.size + 1, 1, none⟩ = some (.string b2) := by rw [hW0]; simp [go_sem]
 have f2_0 : W0.cell? ⟨w.heap.size + 2, 0, none⟩ = some (.bool false) := by rw [hW0]; simp [go_sem]
 have f2_1 : W0.cell? ⟨w.heap.size + 2, 1, none⟩ = some (.string ⟨#[]⟩) := by rw [hW0]; simp [go_sem]
 have hZ0 : W0.heap.size = w.heap.size + 3 := by rw [hW0]; simp
 have HL0 := Lib.hid (show w.heap.size < W0.heap.size by rw [hZ0]; omega)
 have HL1 := Lib.hid (show w.heap.size + 1 < W0.heap.size by rw [hZ0]; omega)
 have HL2 := Lib.hid (show w.heap.size + 2 < W0.heap.size by rw [hZ0]; omega)
 have HW0 := Lib.hid hW0
 have HB := Lib.hid hB0
 clear hB0 hZ0 hW0
 have fz2_0 : W0.frozen? ⟨w.heap.size + 2, 0, none⟩ = false := by rw [HW0.out]; simp [go_sem]
 have fz2_1 : W0.frozen? ⟨w.heap.size + 2, 1, none⟩ = false := by rw [HW0.out]; simp [go_sem]
 go_enter Tryz.func57, Tryz.ntmps57
 go_wp2_with fail
 rw [← HW0.out]
 refine (H.out _).mono ?_
 rintro e w1 ⟨rfl, hb1⟩
 have hB1 : Below W0.heap.size W0 (w1.alloc (.cells #[.bool r1, .string r2] 24)) := ((hb1).alloc (by have := hb1.size; simp; try omega) _)
 have n0_0 := (hB1.cell (p := ⟨w.heap.size, 0, none⟩) HL0.out).trans f0_0
 have n0_1 := (hB1.cell (p := ⟨w.heap.size, 1, none⟩) HL0.out).trans f0_1
 have n1_0 := (hB1.cell (p := ⟨w.heap.size + 1, 0, none⟩) HL1.out).trans f1_0
 have n1_1 := (hB1.cell (p := ⟨w.heap.size + 1, 1, none⟩) HL1.out).trans f1_1
 have n2_0 := (hB1.cell (p := ⟨w.heap.size + 2, 0, none⟩) HL2.out).trans f2_0
 have n2_1 := (hB1.cell (p := ⟨w.heap.size + 2, 1, none⟩) HL2.out).trans f2_1
 have n3_0 : (w1.alloc (.cells #[.bool r1, .string r2] 24)).cell? ⟨w1.heap.size, 0, none⟩ = some (.bool r1) := by simp [go_sem]
 have n3_1 : (w1.alloc (.cells #[.bool r1, .string r2] 24)).cell? ⟨w1.heap.size, 1, none⟩ = some (.string r2) := by simp [go_sem]
 have nz2_0 := (hB1.frozen (p := ⟨w.heap.size + 2, 0, none⟩) HL2.out).trans fz2_0
 have nz2_1 := (hB1.frozen (p := ⟨w.heap.size + 2, 1, none⟩) HL2.out).trans fz2_1
 clear f0_0 f0_1 f1_0 f1_1 f2_0 f2_1 fz2_0 fz2_1
 have HX1 := Lib.hid hB1
 have HY1 := Lib.hid hb1.size
 clear hB1 hb1
 go_wp2
 obtain ⟨W1, hW1⟩ : ∃ W1, W1 = w1.alloc (.cells #[.bool r1, .string r2] 24) := ⟨_, rfl⟩
 have hZ1 : W1.heap.size = w1.heap.size + 1 := by rw [hW1]; simp
 rw [← hW1] at HX1 ⊢
 rw [← hW1] at n0_0 n0_1
 rw [← hW1] at n1_0 n1_1
 rw [← hW1] at n2_0 n2_1
 rw [← hW1] at n3_0 n3_1
 rw [← hW1] at nz2_0 nz2_1
 obtain ⟨g1, hg1⟩ : ∃ g1, w1.heap.size = g1 := ⟨_, rfl⟩
 rw [hg1] at n3_0 n3_1
 rw [hg1] at hZ1 HY1 ⊢
 clear hW1 hg1
 have HL0 := Lib.hid (Nat.lt_of_lt_of_le HL0.out HX1.out.size)
 have HL1 := Lib.hid (Nat.lt_of_lt_of_le HL1.out HX1.out.size)
 have HL2 := Lib.hid (Nat.lt_of_lt_of_le HL2.out HX1.out.size)
 have HL3 := Lib.hid (show g1 < W1.heap.size by rw [hZ1]; omega)
 clear hZ1 HY1
 have HB := Lib.hid (HB.out.trans (HX1.out.mono HB.out.size))
 clear HX1
 have f0_0 := n0_0
 have f0_1 := n0_1
 have f1_0 := n1_0
 have f1_1 := n1_1
 have f2_0 := n2_0
 have f2_1 := n2_1
 have f3_0 := n3_0
 have f3_1 := n3_1
 have fz2_0 := nz2_0
 have fz2_1 := nz2_1
 clear n0_0 n0_1 n1_0 n1_1 n2_0 n2_1 n3_0 n3_1 nz2_0 nz2_1
 refine bodyPost_ret (by simp [results, Tryz.results57, go_sem, f2_0, f2_1]; try rfl) rfl ?_
 exact ⟨rfl, (HB.out.setCell (by simp; try omega) _).setCell (by simp; try omega) _⟩
set_option maxHeartbeats 1000000 in
set_option maxRecDepth 100000 in
theorem do_Sub (a1 : Bool) (a2 : ByteArray) (b1 : Bool) (b2 : ByteArray) (r1 : Bool) (r2 : ByteArray) (x : Int)
  (H : Hid (∀ w, Calls Tryz.prog 76 #[.agg #[.bool a1, .string a2], .agg #[.bool b1, .string b2]] w fun e w' => e = .returned (.tuple #[.agg #[.bool r1, .string r2], .int .i64 x]) ∧ Below w.heap.size w w')) (w : World) :
  Calls Tryz.prog 57 #[.func (.func 76) #[] #[], .agg #[.bool a1, .string a2], .agg #[.bool b1, .string b2]] w fun e w' => e = .returned (.agg #[.bool r1, .string r2]) ∧ Below w.heap.size w w' := by
 obtain ⟨W0, hW0⟩ : ∃ W0, W0 = ((w.alloc (.cells #[.bool a1, .string a2] 24)).alloc (.cells #[.bool b1, .string b2] 24)).alloc (.cells #[.bool false, .string ⟨#[]⟩] 24) := ⟨_, rfl⟩
 have hB0 : Below w.heap.size w W0 := by rw [hW0]; exact (((Below.refl _ _).alloc (by simp; try omega) _).alloc (by simp; try omega) _).alloc (by simp; try omega) _
 have f0_0 : W0.cell? ⟨w.heap.size, 0, none⟩ = some (.bool a1) := by rw [hW0]; simp [go_sem]
 have f0_1 : W0.cell? ⟨w.heap.size, 1, none⟩ = some (.string a2) := by rw [hW0]; simp [go_sem]
 have f1_0 : W0.cell? ⟨w.heap.size + 1, 0, none⟩ = some (.bool b1) := by rw [hW0]; simp [go_sem]
 have f1_1 : W0.cell? ⟨w.heap.size + 1, 1, none⟩ = some (.string b2) := by rw [hW0]; simp [go_sem]
 have f2_0 : W0.cell? ⟨w.heap.size + 2, 0, none⟩ = some (.bool false) := by rw [hW0]; simp [go_sem]
 have f2_1 : W0.cell? ⟨w.heap.size + 2, 1, none⟩ = some (.string ⟨#[]⟩) := by rw [hW0]; simp [go_sem]
 have hZ0 : W0.heap.size = w.heap.size + 3 := by rw [hW0]; simp
 have HL0 := Lib.hid (show w.heap.size < W0.heap.size by rw [hZ0]; omega)
 have HL1 := Lib.hid (show w.heap.size + 1 < W0.heap.size by rw [hZ0]; omega)
 have HL2 := Lib.hid (show w.heap.size + 2 < W0.heap.size by rw [hZ0]; omega)
 have HW0 := Lib.hid hW0
 have HB := Lib.hid hB0
 clear hB0 hZ0 hW0
 have fz2_0 : W0.frozen? ⟨w.heap.size + 2, 0, none⟩ = false := by rw [HW0.out]; simp [go_sem]
 have fz2_1 : W0.frozen? ⟨w.heap.size + 2, 1, none⟩ = false := by rw [HW0.out]; simp [go_sem]
 go_enter Tryz.func57, Tryz.ntmps57
 go_wp2_with fail
 rw [← HW0.out]
 refine (H.out _).mono ?_
 rintro e w1 ⟨rfl, hb1⟩
 have hB1 : Below W0.heap.size W0 (w1.alloc (.cells #[.bool r1, .string r2] 24)) := ((hb1).alloc (by have := hb1.size; simp; try omega) _)
 have n0_0 := (hB1.cell (p := ⟨w.heap.size, 0, none⟩) HL0.out).trans f0_0
 have n0_1 := (hB1.cell (p := ⟨w.heap.size, 1, none⟩) HL0.out).trans f0_1
 have n1_0 := (hB1.cell (p := ⟨w.heap.size + 1, 0, none⟩) HL1.out).trans f1_0
 have n1_1 := (hB1.cell (p := ⟨w.heap.size + 1, 1, none⟩) HL1.out).trans f1_1
 have n2_0 := (hB1.cell (p := ⟨w.heap.size + 2, 0, none⟩) HL2.out).trans f2_0
 have n2_1 := (hB1.cell (p := ⟨w.heap.size + 2, 1, none⟩) HL2.out).trans f2_1
 have n3_0 : (w1.alloc (.cells #[.bool r1, .string r2] 24)).cell? ⟨w1.heap.size, 0, none⟩ = some (.bool r1) := by simp [go_sem]
 have n3_1 : (w1.alloc (.cells #[.bool r1, .string r2] 24)).cell? ⟨w1.heap.size, 1, none⟩ = some (.string r2) := by simp [go_sem]
 have nz2_0 := (hB1.frozen (p := ⟨w.heap.size + 2, 0, none⟩) HL2.out).trans fz2_0
 have nz2_1 := (hB1.frozen (p := ⟨w.heap.size + 2, 1, none⟩) HL2.out).trans fz2_1
 clear f0_0 f0_1 f1_0 f1_1 f2_0 f2_1 fz2_0 fz2_1
 have HX1 := Lib.hid hB1
 have HY1 := Lib.hid hb1.size
 clear hB1 hb1
 go_wp2
 obtain ⟨W1, hW1⟩ : ∃ W1, W1 = w1.alloc (.cells #[.bool r1, .string r2] 24) := ⟨_, rfl⟩
 have hZ1 : W1.heap.size = w1.heap.size + 1 := by rw [hW1]; simp
 rw [← hW1] at HX1 ⊢
 rw [← hW1] at n0_0 n0_1
 rw [← hW1] at n1_0 n1_1
 rw [← hW1] at n2_0 n2_1
 rw [← hW1] at n3_0 n3_1
 rw [← hW1] at nz2_0 nz2_1
 obtain ⟨g1, hg1⟩ : ∃ g1, w1.heap.size = g1 := ⟨_, rfl⟩
 rw [hg1] at n3_0 n3_1
 rw [hg1] at hZ1 HY1 ⊢
 clear hW1 hg1
 have HL0 := Lib.hid (Nat.lt_of_lt_of_le HL0.out HX1.out.size)
 have HL1 := Lib.hid (Nat.lt_of_lt_of_le HL1.out HX1.out.size)
 have HL2 := Lib.hid (Nat.lt_of_lt_of_le HL2.out HX1.out.size)
 have HL3 := Lib.hid (show g1 < W1.heap.size by rw [hZ1]; omega)
 clear hZ1 HY1
 have HB := Lib.hid (HB.out.trans (HX1.out.mono HB.out.size))
 clear HX1
 have f0_0 := n0_0
 have f0_1 := n0_1
 have f1_0 := n1_0
 have f1_1 := n1_1
 have f2_0 := n2_0
 have f2_1 := n2_1
 have f3_0 := n3_0
 have f3_1 := n3_1
 have fz2_0 := nz2_0
 have fz2_1 := nz2_1
 clear n0_0 n0_1 n1_0 n1_1 n2_0 n2_1 n3_0 n3_1 nz2_0 nz2_1
 refine bodyPost_ret (by simp [results, Tryz.results57, go_sem, f2_0, f2_1]; try rfl) rfl ?_
 exact ⟨rfl, (HB.out.setCell (by simp; try omega) _).setCell (by simp; try omega) _⟩
end Go.Proofs.YtoijlbcbbblbfaaGreatDoor
