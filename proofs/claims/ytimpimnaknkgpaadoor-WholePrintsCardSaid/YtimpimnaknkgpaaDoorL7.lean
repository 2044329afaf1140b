import Derived.Test.YtimpimnaknkgpaaDoorL0
import Derived.Test.YtimpimnaknkgpaaDoorRf
namespace Go.Proofs.YtimpimnaknkgpaaDoor
open Go.RowKit Num
set_option linter.unusedVariables false
set_option linter.unusedSimpArgs false

set_option maxHeartbeats 4000000 in
set_option maxRecDepth 100000 in
theorem prints_big (aB : Bool) (aS : ByteArray) (hc : decide ((100 : Int) < (aS.size : Int)) = true) (w : World) :
    Calls Tryd.prog 6 #[.agg #[.bool aB, .string aS]] w fun e w' => e = .returned (.bool true) ∧ Below w.heap.size w w' := by
  obtain ⟨W0, hW0⟩ : ∃ W0, W0 = w.alloc (.cells #[.bool aB, .string aS] 24) := ⟨_, rfl⟩
  have hB0 : Below w.heap.size w W0 := by rw [hW0]; exact (Below.refl _ _).alloc (by simp; try omega) _
  have f0_0 : W0.cell? ⟨w.heap.size, 0, none⟩ = some (.bool aB) := by rw [hW0]; simp [go_sem]
  have f0_1 : W0.cell? ⟨w.heap.size, 1, none⟩ = some (.string aS) := by rw [hW0]; simp [go_sem]
  have hZ0 : W0.heap.size = w.heap.size + 1 := by rw [hW0]; simp
  have HL0 := Lib.hid (show w.heap.size < W0.heap.size by rw [hZ0]; omega)
  have HW0 := Lib.hid hW0
  have HB := Lib.hid hB0
  clear hB0 hZ0 hW0
  have HLV := Lib.hid live_c
  go_enter Tryd.func6, Tryd.ntmps6
  go_wp2_with fail
  rw [← HW0.out]
  refine (HLV.out _).mono ?_
  rintro e w1 ⟨rfl, hb1⟩
  have hB1 : Below W0.heap.size W0 (w1) := hb1
  have n0_0 := (hB1.cell (p := ⟨w.heap.size, 0, none⟩) HL0.out).trans f0_0
  have n0_1 := (hB1.cell (p := ⟨w.heap.size, 1, none⟩) HL0.out).trans f0_1
  clear f0_0 f0_1
  have HX1 := Lib.hid hB1
  have HY1 := Lib.hid hb1.size
  clear hB1 hb1
  have HL0 := Lib.hid (Nat.lt_of_lt_of_le HL0.out HX1.out.size)
  have HB := Lib.hid (HB.out.trans (HX1.out.mono HB.out.size))
  clear HX1
  have f0_0 := n0_0
  have f0_1 := n0_1
  clear n0_0 n0_1
  go_wp2
  go_ret
  exact ⟨rfl, HB.out⟩

set_option maxHeartbeats 4000000 in
set_option maxRecDepth 100000 in
theorem prints_bad (aB : Bool) (aS : ByteArray) (hc : decide ((100 : Int) < (aS.size : Int)) = false) (E : Int) (H1 : Hid (∀ w, Calls Tryd.prog 24 #[.agg #[.bool aB, .string aS]] w fun e w' => e = .returned (.int .i64 E) ∧ Below w.heap.size w w')) (y1 : (E == 0) = false) (y2 : (E != 0) = true) (w : World) :
    Calls Tryd.prog 6 #[.agg #[.bool aB, .string aS]] w fun e w' => e = .returned (.bool true) ∧ Below w.heap.size w w' := by
  obtain ⟨W0, hW0⟩ : ∃ W0, W0 = w.alloc (.cells #[.bool aB, .string aS] 24) := ⟨_, rfl⟩
  have hB0 : Below w.heap.size w W0 := by rw [hW0]; exact (Below.refl _ _).alloc (by simp; try omega) _
  have f0_0 : W0.cell? ⟨w.heap.size, 0, none⟩ = some (.bool aB) := by rw [hW0]; simp [go_sem]
  have f0_1 : W0.cell? ⟨w.heap.size, 1, none⟩ = some (.string aS) := by rw [hW0]; simp [go_sem]
  have hZ0 : W0.heap.size = w.heap.size + 1 := by rw [hW0]; simp
  have HL0 := Lib.hid (show w.heap.size < W0.heap.size by rw [hZ0]; omega)
  have HW0 := Lib.hid hW0
  have HB := Lib.hid hB0
  clear hB0 hZ0 hW0
  have HLV := Lib.hid live_c
  go_enter Tryd.func6, Tryd.ntmps6
  go_wp2_with fail
  rw [← HW0.out]
  refine (H1.out _).mono ?_
  rintro e w1 ⟨rfl, hb1⟩
  have hB1 : Below W0.heap.size W0 (w1) := hb1
  have n0_0 := (hB1.cell (p := ⟨w.heap.size, 0, none⟩) HL0.out).trans f0_0
  have n0_1 := (hB1.cell (p := ⟨w.heap.size, 1, none⟩) HL0.out).trans f0_1
  clear f0_0 f0_1
  have HX1 := Lib.hid hB1
  have HY1 := Lib.hid hb1.size
  clear hB1 hb1
  go_wp2_with fail
  have HL0 := Lib.hid (Nat.lt_of_lt_of_le HL0.out HX1.out.size)
  have HB := Lib.hid (HB.out.trans (HX1.out.mono HB.out.size))
  clear HX1
  have f0_0 := n0_0
  have f0_1 := n0_1
  clear n0_0 n0_1
  refine (HLV.out _).mono ?_
  rintro e w2 ⟨rfl, hb2⟩
  have hB2 : Below w1.heap.size w1 (w2) := hb2
  have n0_0 := (hB2.cell (p := ⟨w.heap.size, 0, none⟩) HL0.out).trans f0_0
  have n0_1 := (hB2.cell (p := ⟨w.heap.size, 1, none⟩) HL0.out).trans f0_1
  clear f0_0 f0_1
  have HX2 := Lib.hid hB2
  have HY2 := Lib.hid hb2.size
  clear hB2 hb2
  have HL0 := Lib.hid (Nat.lt_of_lt_of_le HL0.out HX2.out.size)
  have HB := Lib.hid (HB.out.trans (HX2.out.mono HB.out.size))
  clear HX2
  have f0_0 := n0_0
  have f0_1 := n0_1
  clear n0_0 n0_1
  go_wp2
  go_ret
  exact ⟨rfl, HB.out⟩

set_option maxHeartbeats 4000000 in
set_option maxRecDepth 100000 in
theorem prints_long (aB : Bool) (aS : ByteArray) (hc : decide ((100 : Int) < (aS.size : Int)) = false) (tS : ByteArray) (H1 : Hid (∀ w, Calls Tryd.prog 24 #[.agg #[.bool aB, .string aS]] w fun e w' => e = .returned (.int .i64 0) ∧ Below w.heap.size w w')) (H2 : Hid (∀ w, Calls Tryd.prog 25 #[.agg #[.bool aB, .string aS]] w fun e w' => e = .returned (.tuple #[.string tS, .int .i64 0]) ∧ Below w.heap.size w w')) (H3 : Hid (∀ w, Calls Tryd.prog 26 #[.agg #[.bool aB, .string aS]] w fun e w' => e = .returned (.string tS) ∧ Below w.heap.size w w')) (hd : decide ((24 : Int) < (aS.size : Int)) = true) (w : World) :
    Calls Tryd.prog 6 #[.agg #[.bool aB, .string aS]] w fun e w' => e = .returned (.bool true) ∧ Below w.heap.size w w' := by
  obtain ⟨W0, hW0⟩ : ∃ W0, W0 = w.alloc (.cells #[.bool aB, .string aS] 24) := ⟨_, rfl⟩
  have hB0 : Below w.heap.size w W0 := by rw [hW0]; exact (Below.refl _ _).alloc (by simp; try omega) _
  have f0_0 : W0.cell? ⟨w.heap.size, 0, none⟩ = some (.bool aB) := by rw [hW0]; simp [go_sem]
  have f0_1 : W0.cell? ⟨w.heap.size, 1, none⟩ = some (.string aS) := by rw [hW0]; simp [go_sem]
  have hZ0 : W0.heap.size = w.heap.size + 1 := by rw [hW0]; simp
  have HL0 := Lib.hid (show w.heap.size < W0.heap.size by rw [hZ0]; omega)
  have HW0 := Lib.hid hW0
  have HB := Lib.hid hB0
  clear hB0 hZ0 hW0
  have HLV := Lib.hid live_c
  go_enter Tryd.func6, Tryd.ntmps6
  go_wp2_with fail
  rw [← HW0.out]
  refine (H1.out _).mono ?_
  rintro e w1 ⟨rfl, hb1⟩
  have hB1 : Below W0.heap.size W0 (w1) := hb1
  have n0_0 := (hB1.cell (p := ⟨w.heap.size, 0, none⟩) HL0.out).trans f0_0
  have n0_1 := (hB1.cell (p := ⟨w.heap.size, 1, none⟩) HL0.out).trans f0_1
  clear f0_0 f0_1
  have HX1 := Lib.hid hB1
  have HY1 := Lib.hid hb1.size
  clear hB1 hb1
  go_wp2_with fail
  have HL0 := Lib.hid (Nat.lt_of_lt_of_le HL0.out HX1.out.size)
  have HB := Lib.hid (HB.out.trans (HX1.out.mono HB.out.size))
  clear HX1
  have f0_0 := n0_0
  have f0_1 := n0_1
  clear n0_0 n0_1
  refine (H2.out _).mono ?_
  rintro e w2 ⟨rfl, hb2⟩
  have hB2 : Below w1.heap.size w1 (w2) := hb2
  have n0_0 := (hB2.cell (p := ⟨w.heap.size, 0, none⟩) HL0.out).trans f0_0
  have n0_1 := (hB2.cell (p := ⟨w.heap.size, 1, none⟩) HL0.out).trans f0_1
  clear f0_0 f0_1
  have HX2 := Lib.hid hB2
  have HY2 := Lib.hid hb2.size
  clear hB2 hb2
  go_wp2_with fail
  have HL0 := Lib.hid (Nat.lt_of_lt_of_le HL0.out HX2.out.size)
  have HB := Lib.hid (HB.out.trans (HX2.out.mono HB.out.size))
  clear HX2
  have f0_0 := n0_0
  have f0_1 := n0_1
  clear n0_0 n0_1
  refine (H3.out _).mono ?_
  rintro e w3 ⟨rfl, hb3⟩
  have hB3 : Below w2.heap.size w2 (w3) := hb3
  have n0_0 := (hB3.cell (p := ⟨w.heap.size, 0, none⟩) HL0.out).trans f0_0
  have n0_1 := (hB3.cell (p := ⟨w.heap.size, 1, none⟩) HL0.out).trans f0_1
  clear f0_0 f0_1
  have HX3 := Lib.hid hB3
  have HY3 := Lib.hid hb3.size
  clear hB3 hb3
  go_wp2_with fail
  have HL0 := Lib.hid (Nat.lt_of_lt_of_le HL0.out HX3.out.size)
  have HB := Lib.hid (HB.out.trans (HX3.out.mono HB.out.size))
  clear HX3
  have f0_0 := n0_0
  have f0_1 := n0_1
  clear n0_0 n0_1
  refine (HLV.out _).mono ?_
  rintro e w4 ⟨rfl, hb4⟩
  have hB4 : Below w3.heap.size w3 (w4) := hb4
  have n0_0 := (hB4.cell (p := ⟨w.heap.size, 0, none⟩) HL0.out).trans f0_0
  have n0_1 := (hB4.cell (p := ⟨w.heap.size, 1, none⟩) HL0.out).trans f0_1
  clear f0_0 f0_1
  have HX4 := Lib.hid hB4
  have HY4 := Lib.hid hb4.size
  clear hB4 hb4
  have HL0 := Lib.hid (Nat.lt_of_lt_of_le HL0.out HX4.out.size)
  have HB := Lib.hid (HB.out.trans (HX4.out.mono HB.out.size))
  clear HX4
  have f0_0 := n0_0
  have f0_1 := n0_1
  clear n0_0 n0_1
  go_wp2
  go_ret
  exact ⟨rfl, HB.out⟩

set_option maxHeartbeats 4000000 in
set_option maxRecDepth 100000 in
theorem prints_short (aB : Bool) (aS : ByteArray) (hc : decide ((100 : Int) < (aS.size : Int)) = false) (tS : ByteArray) (H1 : Hid (∀ w, Calls Tryd.prog 24 #[.agg #[.bool aB, .string aS]] w fun e w' => e = .returned (.int .i64 0) ∧ Below w.heap.size w w')) (H2 : Hid (∀ w, Calls Tryd.prog 25 #[.agg #[.bool aB, .string aS]] w fun e w' => e = .returned (.tuple #[.string tS, .int .i64 0]) ∧ Below w.heap.size w w')) (H3 : Hid (∀ w, Calls Tryd.prog 26 #[.agg #[.bool aB, .string aS]] w fun e w' => e = .returned (.string tS) ∧ Below w.heap.size w w')) (hd : decide ((24 : Int) < (aS.size : Int)) = false) (H4 : Hid (∀ w, Calls Tryd.prog 21 #[.string tS] w fun e w' => e = .returned (.tuple #[.agg #[.bool aB, .string aS], .int .i64 0]) ∧ Below w.heap.size w w')) (w : World) :
    Calls Tryd.prog 6 #[.agg #[.bool aB, .string aS]] w fun e w' => e = .returned (.bool true) ∧ Below w.heap.size w w' := by
  obtain ⟨W0, hW0⟩ : ∃ W0, W0 = w.alloc (.cells #[.bool aB, .string aS] 24) := ⟨_, rfl⟩
  have hB0 : Below w.heap.size w W0 := by rw [hW0]; exact (Below.refl _ _).alloc (by simp; try omega) _
  have f0_0 : W0.cell? ⟨w.heap.size, 0, none⟩ = some (.bool aB) := by rw [hW0]; simp [go_sem]
  have f0_1 : W0.cell? ⟨w.heap.size, 1, none⟩ = some (.string aS) := by rw [hW0]; simp [go_sem]
  have hZ0 : W0.heap.size = w.heap.size + 1 := by rw [hW0]; simp
  have HL0 := Lib.hid (show w.heap.size < W0.heap.size by rw [hZ0]; omega)
  have HW0 := Lib.hid hW0
  have HB := Lib.hid hB0
  clear hB0 hZ0 hW0
  have HLV := Lib.hid live_c
  go_enter Tryd.func6, Tryd.ntmps6
  go_wp2_with fail
  rw [← HW0.out]
  refine (H1.out _).mono ?_
  rintro e w1 ⟨rfl, hb1⟩
  have hB1 : Below W0.heap.size W0 (w1) := hb1
  have n0_0 := (hB1.cell (p := ⟨w.heap.size, 0, none⟩) HL0.out).trans f0_0
  have n0_1 := (hB1.cell (p := ⟨w.heap.size, 1, none⟩) HL0.out).trans f0_1
  clear f0_0 f0_1
  have HX1 := Lib.hid hB1
  have HY1 := Lib.hid hb1.size
  clear hB1 hb1
  go_wp2_with fail
  have HL0 := Lib.hid (Nat.lt_of_lt_of_le HL0.out HX1.out.size)
  have HB := Lib.hid (HB.out.trans (HX1.out.mono HB.out.size))
  clear HX1
  have f0_0 := n0_0
  have f0_1 := n0_1
  clear n0_0 n0_1
  refine (H2.out _).mono ?_
  rintro e w2 ⟨rfl, hb2⟩
  have hB2 : Below w1.heap.size w1 (w2) := hb2
  have n0_0 := (hB2.cell (p := ⟨w.heap.size, 0, none⟩) HL0.out).trans f0_0
  have n0_1 := (hB2.cell (p := ⟨w.heap.size, 1, none⟩) HL0.out).trans f0_1
  clear f0_0 f0_1
  have HX2 := Lib.hid hB2
  have HY2 := Lib.hid hb2.size
  clear hB2 hb2
  go_wp2_with fail
  have HL0 := Lib.hid (Nat.lt_of_lt_of_le HL0.out HX2.out.size)
  have HB := Lib.hid (HB.out.trans (HX2.out.mono HB.out.size))
  clear HX2
  have f0_0 := n0_0
  have f0_1 := n0_1
  clear n0_0 n0_1
  refine (H3.out _).mono ?_
  rintro e w3 ⟨rfl, hb3⟩
  have hB3 : Below w2.heap.size w2 (w3) := hb3
  have n0_0 := (hB3.cell (p := ⟨w.heap.size, 0, none⟩) HL0.out).trans f0_0
  have n0_1 := (hB3.cell (p := ⟨w.heap.size, 1, none⟩) HL0.out).trans f0_1
  clear f0_0 f0_1
  have HX3 := Lib.hid hB3
  have HY3 := Lib.hid hb3.size
  clear hB3 hb3
  go_wp2_with fail
  have HL0 := Lib.hid (Nat.lt_of_lt_of_le HL0.out HX3.out.size)
  have HB := Lib.hid (HB.out.trans (HX3.out.mono HB.out.size))
  clear HX3
  have f0_0 := n0_0
  have f0_1 := n0_1
  clear n0_0 n0_1
  refine (H4.out _).mono ?_
  rintro e w4 ⟨rfl, hb4⟩
  have hB4 : Below w3.heap.size w3 (w4.alloc (.cells #[.bool aB, .string aS] 24)) := ((hb4).alloc (by have := hb4.size; simp; try omega) _)
  have n0_0 := (hB4.cell (p := ⟨w.heap.size, 0, none⟩) HL0.out).trans f0_0
  have n0_1 := (hB4.cell (p := ⟨w.heap.size, 1, none⟩) HL0.out).trans f0_1
  have n1_0 : (w4.alloc (.cells #[.bool aB, .string aS] 24)).cell? ⟨w4.heap.size, 0, none⟩ = some (.bool aB) := by simp [go_sem]
  have n1_1 : (w4.alloc (.cells #[.bool aB, .string aS] 24)).cell? ⟨w4.heap.size, 1, none⟩ = some (.string aS) := by simp [go_sem]
  clear f0_0 f0_1
  have HX4 := Lib.hid hB4
  have HY4 := Lib.hid hb4.size
  clear hB4 hb4
  go_wp2_with fail
  obtain ⟨W4, hW4⟩ : ∃ W4, W4 = w4.alloc (.cells #[.bool aB, .string aS] 24) := ⟨_, rfl⟩
  have hZ4 : W4.heap.size = w4.heap.size + 1 := by rw [hW4]; simp
  rw [← hW4] at HX4 ⊢
  rw [← hW4] at n0_0 n0_1
  rw [← hW4] at n1_0 n1_1
  obtain ⟨g4, hg4⟩ : ∃ g4, w4.heap.size = g4 := ⟨_, rfl⟩
  rw [hg4] at n1_0 n1_1
  rw [hg4] at hZ4 HY4 ⊢
  clear hW4 hg4
  have HL0 := Lib.hid (Nat.lt_of_lt_of_le HL0.out HX4.out.size)
  have HL1 := Lib.hid (show g4 < W4.heap.size by rw [hZ4]; omega)
  clear hZ4 HY4
  have HB := Lib.hid (HB.out.trans (HX4.out.mono HB.out.size))
  clear HX4
  have f0_0 := n0_0
  have f0_1 := n0_1
  have f1_0 := n1_0
  have f1_1 := n1_1
  clear n0_0 n0_1 n1_0 n1_1
  refine (HLV.out _).mono ?_
  rintro e w5 ⟨rfl, hb5⟩
  have hB5 : Below W4.heap.size W4 (w5) := hb5
  have n0_0 := (hB5.cell (p := ⟨w.heap.size, 0, none⟩) HL0.out).trans f0_0
  have n0_1 := (hB5.cell (p := ⟨w.heap.size, 1, none⟩) HL0.out).trans f0_1
  have n1_0 := (hB5.cell (p := ⟨g4, 0, none⟩) HL1.out).trans f1_0
  have n1_1 := (hB5.cell (p := ⟨g4, 1, none⟩) HL1.out).trans f1_1
  clear f0_0 f0_1 f1_0 f1_1
  have HX5 := Lib.hid hB5
  have HY5 := Lib.hid hb5.size
  clear hB5 hb5
  have HL0 := Lib.hid (Nat.lt_of_lt_of_le HL0.out HX5.out.size)
  have HL1 := Lib.hid (Nat.lt_of_lt_of_le HL1.out HX5.out.size)
  have HB := Lib.hid (HB.out.trans (HX5.out.mono HB.out.size))
  clear HX5
  have f0_0 := n0_0
  have f0_1 := n0_1
  have f1_0 := n1_0
  have f1_1 := n1_1
  clear n0_0 n0_1 n1_0 n1_1
  go_wp2
  go_ret
  exact ⟨rfl, HB.out⟩

theorem dec_all : ∀ (V : Nat) (y : UInt8), y ∈ dec V → 48 ≤ y.toNat ∧ y.toNat ≤ 57 := by
  intro V
  induction V using Nat.strongRecOn with
  | ind V ih =>
    intro y hy
    rcases Nat.eq_zero_or_pos V with h | h
    · rw [h, dec_zero] at hy; exact absurd hy (by simp)
    · rw [dec_pos h] at hy
      rcases List.mem_append.1 hy with hy | hy
      · exact ih (V / 10) (Nat.div_lt_self h (by decide)) y hy
      · have e := List.mem_singleton.1 hy
        rw [e, ofNat_toNat_lt (by omega)]
        omega
theorem dec_len : ∀ (k V : Nat), V < 10 ^ k → (dec V).length ≤ k
  | 0, V, h => by
    have : V = 0 := by simpa using h
    rw [this, dec_zero]; exact Nat.le_refl _
  | k + 1, V, h => by
    rcases Nat.eq_zero_or_pos V with h0 | h0
    · rw [h0, dec_zero]; exact Nat.zero_le _
    · rw [dec_pos h0, List.length_append]
      have := dec_len k (V / 10) (Nat.div_lt_of_lt_mul (by rw [Nat.pow_succ, Nat.mul_comm] at h; exact h))
      simp
      omega
theorem dv_app (l : List UInt8) (x : UInt8) : dv (l ++ [x]) = dv l * 10 + ((x.toNat : Int) - 48) := by
  unfold dv
  rw [List.foldl_append]
  rfl
theorem dv_dec : ∀ V : Nat, dv (dec V) = V := by
  intro V
  induction V using Nat.strongRecOn with
  | ind V ih =>
    rcases Nat.eq_zero_or_pos V with h | h
    · rw [h, dec_zero]; rfl
    · rw [dec_pos h, dv_app, ih (V / 10) (Nat.div_lt_self h (by decide)), ofNat_toNat_lt (by omega)]
      omega
theorem dec_head : ∀ V : Nat, 0 < V → ∃ x r, dec V = x :: r ∧ 49 ≤ x.toNat ∧ x.toNat ≤ 57 := by
  intro V
  induction V using Nat.strongRecOn with
  | ind V ih =>
    intro h
    rw [dec_pos h]
    rcases Nat.eq_zero_or_pos (V / 10) with h1 | h1
    · rw [h1, dec_zero]
      exact ⟨_, [], rfl, by rw [ofNat_toNat_lt (by omega)]; omega, by rw [ofNat_toNat_lt (by omega)]; omega⟩
    · obtain ⟨x, r, e, hx⟩ := ih (V / 10) (Nat.div_lt_self h (by decide)) h1
      rw [e]
      exact ⟨x, r ++ [_], rfl, hx⟩
theorem dec_ok {V : Nat} (h : 0 < V) (h60 : V < 10 ^ 60) : okS (dec V) = true := by
  obtain ⟨x, r, e, hx⟩ := dec_head V h
  exact okS_of (by rw [e]; simp) (dec_len 60 V h60) fun j y _ hy => dec_all V y (List.mem_of_getElem? hy)
theorem dec_num {V : Nat} (h : 0 < V) (h60 : V < 10 ^ 60) (n : Bool) : numS (dec V) n = true := by
  obtain ⟨x, r, e, hx⟩ := dec_head V h
  refine numS_yes (dec_ok h h60) fun hh => ?_
  rw [e] at hh
  have : x = 48 := by simpa using hh.1
  rw [this] at hx
  exact absurd hx.1 (by decide)
theorem neg_dec {V : Nat} (h : 0 < V) : negS (dec V) = false ∧ restS (dec V) = dec V := by
  obtain ⟨x, r, e, hx⟩ := dec_head V h
  have hn : negS (dec V) = false := by
    rw [e]
    unfold negS Lib.hasPrefix
    simp only [List.isPrefixOf, Bool.and_true]
    exact beq_eq_false_iff_ne.mpr fun hh => by rw [← hh] at hx; exact absurd hx.1 (by decide)
  refine ⟨hn, ?_⟩
  unfold restS Lib.trimPrefix
  unfold negS at hn
  rw [hn]
  rfl
theorem pow24 : (256 : Nat) ^ 24 ≤ 10 ^ 60 := by decide
theorem parse_text {n : Bool} {s : ByteArray} (hok : okI n s) (hs : s.size ≤ 24) : parseV (textL n (nv s).toNat) = .tuple #[.agg #[.bool n, .string s], .int .i64 0] := by
  have h0 := (nv_bd s).1
  have h1 := size_pow hs
  obtain ⟨V, hV⟩ : ∃ V, (nv s).toNat = V := ⟨_, rfl⟩
  have hvv : nv s = (V : Int) := by omega
  have h60 : V < 10 ^ 60 := by
    have h2 : V < 256 ^ 24 := by
      have e : ((256 ^ 24 : Nat) : Int) = (256 : Int) ^ 24 := by rw [Int.natCast_pow]; rfl
      rw [hvv, ← e] at h1
      exact Int.ofNat_lt.1 h1
    exact Nat.lt_of_lt_of_le h2 pow24
  have hp := pv_ival hok
  have hput : putV (ival n s) = .agg #[.bool n, .string s] := by
    rw [putV_pv, hp]
    rfl
  rw [hV]
  rcases Nat.eq_zero_or_pos V with h | h
  · have hn : n = false := by
      cases n with
      | false => rfl
      | true =>
        have h2 := hok.2.2 rfl
        have h3 := size_of_canon hok.2.1
        rw [hvv, h, show ((0 : Nat) : Int) = 0 from rfl, nb_zero] at h3
        omega
    subst hn
    have hi : ival false s = 0 := by unfold ival sgn; rw [hvv, h]; rfl
    rw [hi] at hput
    rw [← hput, h]
    rfl
  · obtain ⟨g1, g2⟩ := neg_dec h
    cases n with
    | false =>
      have e : textL false V = dec V := by
        unfold textL
        rw [if_neg (by decide), if_neg (by omega)]
      rw [e, parseV_yes (by rw [g1, g2]; exact dec_num h h60 false), g1, g2, dv_dec, ← hvv, ← hput]
      rfl
    | true =>
      have e : textL true V = 45 :: dec V := by
        unfold textL
        rw [if_pos rfl]
      have e1 : negS (45 :: dec V) = true := rfl
      have e2 : restS (45 :: dec V) = dec V := rfl
      rw [e, parseV_yes (by rw [e1, e2]; exact dec_num h h60 true), e1, e2, dv_dec, ← hvv, ← hput]
      rfl
theorem prints_c (a : Bool × ByteArray) (w : World) :
    Calls Tryd.prog 6 #[.agg #[.bool a.1, .string a.2]] w fun e w' => e = .returned (.bool true) ∧ Below w.heap.size w w' := by
  by_cases h : 100 < a.2.size
  · exact prints_big _ _ (decide_eq_true (by omega)) w
  · have hc : decide ((100 : Int) < (a.2.size : Int)) = false := decide_eq_false (by omega)
    have H1 := Lib.hid (check_r a.1 a.2)
    by_cases hk : chk a.1 a.2 = 0
    · rw [hk] at H1
      have hok := chk_ok.1 hk
      have H2 : Hid (∀ w, Calls Tryd.prog 25 #[.agg #[.bool a.1, .string a.2]] w fun e w' => e = .returned (.tuple #[.string ⟨(textL a.1 (nv a.2).toNat).toArray⟩, .int .i64 0]) ∧ Below w.heap.size w w') :=
        Lib.hid fun w => (print_c a.1 a.2 (by omega) w).mono fun e w' hh => ⟨by rw [hh.1]; unfold printV; rw [if_neg (fun hc => hc hk)], hh.2⟩
      have H3 := Lib.hid (text_r a.1 a.2 (by omega) hok)
      by_cases h24 : 24 < a.2.size
      · exact prints_long _ _ hc _ H1 H2 H3 (decide_eq_true (by omega)) w
      · have H4 : Hid (∀ w, Calls Tryd.prog 21 #[.string ⟨(textL a.1 (nv a.2).toNat).toArray⟩] w fun e w' => e = .returned (.tuple #[.agg #[.bool a.1, .string a.2], .int .i64 0]) ∧ Below w.heap.size w w') :=
          Lib.hid fun w => (parse_c _ w).mono fun e w' hh => ⟨by rw [hh.1, show (⟨(textL a.1 (nv a.2).toNat).toArray⟩ : ByteArray).data.toList = textL a.1 (nv a.2).toNat from rfl, parse_text hok (by omega)], hh.2⟩
        exact prints_short _ _ hc _ H1 H2 H3 (decide_eq_false (by omega)) H4 w
    · exact prints_bad _ _ hc _ H1 (beq_eq_false_iff_ne.mpr hk) (bne_iff_ne.mpr hk) w
#print axioms prints_c
end Go.Proofs.YtimpimnaknkgpaaDoor
