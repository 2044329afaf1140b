import Derived.Test.YtimpimnaknkgpaaDoorL0
import Derived.Test.YtimpimnaknkgpaaDoorRd
namespace Go.Proofs.YtimpimnaknkgpaaDoor
open Go.RowKit Num
set_option linter.unusedVariables false
set_option linter.unusedSimpArgs false

set_option maxHeartbeats 4000000 in
set_option maxRecDepth 100000 in
theorem reads_w (s : ByteArray) (n : Int) (aB oB : Bool) (aS oS : ByteArray) (E : Int) (H1 : Hid (∀ w, Calls Tryd.prog 21 #[.string s] w fun e w' => e = .returned (.tuple #[.agg #[.bool aB, .string aS], .int .i64 E]) ∧ Below w.heap.size w w')) (H2 : Hid (∀ w, Calls Tryd.prog 22 #[.string s] w fun e w' => e = .returned (.tuple #[.agg #[.bool aB, .string aS], .int .i64 E]) ∧ Below w.heap.size w w')) (H3 : Hid (∀ w, Calls Tryd.prog 23 #[.int .i64 n] w fun e w' => e = .returned (.agg #[.bool oB, .string oS]) ∧ Below w.heap.size w w')) (H4 : Hid (∀ w, Calls Tryd.prog 20 #[.int .i64 n] w fun e w' => e = .returned (.agg #[.bool oB, .string oS]) ∧ Below w.heap.size w w')) (w : World) :
    Calls Tryd.prog 5 #[.string s, .int .i64 n] w fun e w' => e = .returned (.bool true) ∧ Below w.heap.size w w' := by
  have HLV := Lib.hid live_c
  have HB := Lib.hid (Below.refl w.heap.size w)
  go_enter Tryd.func5, Tryd.ntmps5
  go_wp2_with fail
  refine (H1.out _).mono ?_
  rintro e w1 ⟨rfl, hb1⟩
  have hB1 : Below w.heap.size w (w1.alloc (.cells #[.bool aB, .string aS] 24)) := ((hb1).alloc (by have := hb1.size; simp; try omega) _)
  have n0_0 : (w1.alloc (.cells #[.bool aB, .string aS] 24)).cell? ⟨w1.heap.size, 0, none⟩ = some (.bool aB) := by simp [go_sem]
  have n0_1 : (w1.alloc (.cells #[.bool aB, .string aS] 24)).cell? ⟨w1.heap.size, 1, none⟩ = some (.string aS) := by simp [go_sem]
  have HX1 := Lib.hid hB1
  have HY1 := Lib.hid hb1.size
  clear hB1 hb1
  go_wp2_with fail
  obtain ⟨W1, hW1⟩ : ∃ W1, W1 = w1.alloc (.cells #[.bool aB, .string aS] 24) := ⟨_, rfl⟩
  have hZ1 : W1.heap.size = w1.heap.size + 1 := by rw [hW1]; simp
  rw [← hW1] at HX1 ⊢
  rw [← hW1] at n0_0 n0_1
  obtain ⟨g1, hg1⟩ : ∃ g1, w1.heap.size = g1 := ⟨_, rfl⟩
  rw [hg1] at n0_0 n0_1
  rw [hg1] at hZ1 HY1 ⊢
  clear hW1 hg1
  have HL0 := Lib.hid (show g1 < W1.heap.size by rw [hZ1]; omega)
  clear hZ1 HY1
  have HB := Lib.hid (HB.out.trans (HX1.out.mono HB.out.size))
  clear HX1
  have f0_0 := n0_0
  have f0_1 := n0_1
  clear n0_0 n0_1
  refine (H2.out _).mono ?_
  rintro e w2 ⟨rfl, hb2⟩
  have hB2 : Below W1.heap.size W1 (w2.alloc (.cells #[.bool aB, .string aS] 24)) := ((hb2).alloc (by have := hb2.size; simp; try omega) _)
  have n0_0 := (hB2.cell (p := ⟨g1, 0, none⟩) HL0.out).trans f0_0
  have n0_1 := (hB2.cell (p := ⟨g1, 1, none⟩) HL0.out).trans f0_1
  have n1_0 : (w2.alloc (.cells #[.bool aB, .string aS] 24)).cell? ⟨w2.heap.size, 0, none⟩ = some (.bool aB) := by simp [go_sem]
  have n1_1 : (w2.alloc (.cells #[.bool aB, .string aS] 24)).cell? ⟨w2.heap.size, 1, none⟩ = some (.string aS) := by simp [go_sem]
  clear f0_0 f0_1
  have HX2 := Lib.hid hB2
  have HY2 := Lib.hid hb2.size
  clear hB2 hb2
  go_wp2_with fail
  obtain ⟨W2, hW2⟩ : ∃ W2, W2 = w2.alloc (.cells #[.bool aB, .string aS] 24) := ⟨_, rfl⟩
  have hZ2 : W2.heap.size = w2.heap.size + 1 := by rw [hW2]; simp
  rw [← hW2] at HX2 ⊢
  rw [← hW2] at n0_0 n0_1
  rw [← hW2] at n1_0 n1_1
  obtain ⟨g2, hg2⟩ : ∃ g2, w2.heap.size = g2 := ⟨_, rfl⟩
  rw [hg2] at n1_0 n1_1
  rw [hg2] at hZ2 HY2 ⊢
  clear hW2 hg2
  have HL0 := Lib.hid (Nat.lt_of_lt_of_le HL0.out HX2.out.size)
  have HL1 := Lib.hid (show g2 < W2.heap.size by rw [hZ2]; omega)
  clear hZ2 HY2
  have HB := Lib.hid (HB.out.trans (HX2.out.mono HB.out.size))
  clear HX2
  have f0_0 := n0_0
  have f0_1 := n0_1
  have f1_0 := n1_0
  have f1_1 := n1_1
  clear n0_0 n0_1 n1_0 n1_1
  refine (H3.out _).mono ?_
  rintro e w3 ⟨rfl, hb3⟩
  have hB3 : Below W2.heap.size W2 (w3) := hb3
  have n0_0 := (hB3.cell (p := ⟨g1, 0, none⟩) HL0.out).trans f0_0
  have n0_1 := (hB3.cell (p := ⟨g1, 1, none⟩) HL0.out).trans f0_1
  have n1_0 := (hB3.cell (p := ⟨g2, 0, none⟩) HL1.out).trans f1_0
  have n1_1 := (hB3.cell (p := ⟨g2, 1, none⟩) HL1.out).trans f1_1
  clear f0_0 f0_1 f1_0 f1_1
  have HX3 := Lib.hid hB3
  have HY3 := Lib.hid hb3.size
  clear hB3 hb3
  go_wp2_with fail
  have HL0 := Lib.hid (Nat.lt_of_lt_of_le HL0.out HX3.out.size)
  have HL1 := Lib.hid (Nat.lt_of_lt_of_le HL1.out HX3.out.size)
  have HB := Lib.hid (HB.out.trans (HX3.out.mono HB.out.size))
  clear HX3
  have f0_0 := n0_0
  have f0_1 := n0_1
  have f1_0 := n1_0
  have f1_1 := n1_1
  clear n0_0 n0_1 n1_0 n1_1
  refine (H4.out _).mono ?_
  rintro e w4 ⟨rfl, hb4⟩
  have hB4 : Below w3.heap.size w3 (w4) := hb4
  have n0_0 := (hB4.cell (p := ⟨g1, 0, none⟩) HL0.out).trans f0_0
  have n0_1 := (hB4.cell (p := ⟨g1, 1, none⟩) HL0.out).trans f0_1
  have n1_0 := (hB4.cell (p := ⟨g2, 0, none⟩) HL1.out).trans f1_0
  have n1_1 := (hB4.cell (p := ⟨g2, 1, none⟩) HL1.out).trans f1_1
  clear f0_0 f0_1 f1_0 f1_1
  have HX4 := Lib.hid hB4
  have HY4 := Lib.hid hb4.size
  clear hB4 hb4
  go_wp2_with fail
  have HL0 := Lib.hid (Nat.lt_of_lt_of_le HL0.out HX4.out.size)
  have HL1 := Lib.hid (Nat.lt_of_lt_of_le HL1.out HX4.out.size)
  have HB := Lib.hid (HB.out.trans (HX4.out.mono HB.out.size))
  clear HX4
  have f0_0 := n0_0
  have f0_1 := n0_1
  have f1_0 := n1_0
  have f1_1 := n1_1
  clear n0_0 n0_1 n1_0 n1_1
  refine (HLV.out _).mono ?_
  rintro e w5 ⟨rfl, hb5⟩
  have hB5 : Below w4.heap.size w4 (w5) := hb5
  have n0_0 := (hB5.cell (p := ⟨g1, 0, none⟩) HL0.out).trans f0_0
  have n0_1 := (hB5.cell (p := ⟨g1, 1, none⟩) HL0.out).trans f0_1
  have n1_0 := (hB5.cell (p := ⟨g2, 0, none⟩) HL1.out).trans f1_0
  have n1_1 := (hB5.cell (p := ⟨g2, 1, none⟩) HL1.out).trans f1_1
  clear f0_0 f0_1 f1_0 f1_1
  have HX5 := Lib.hid hB5
  have HY5 := Lib.hid hb5.size
  clear hB5 hb5
  have HL0 := Lib.hid (Nat.lt_of_lt_of_le HL0.out HX5.out.size)
  have HL1 := Lib.hid (Nat.lt_of_lt_of_le HL1.out HX5.out.size)
  have HB := Lib.hid (HB.out.trans (HX5.out.mono HB.out.size))
  clear HX5
  have f0_0 := n0_0
  have f0_1 := n0_1
  have f1_0 := n1_0
  have f1_1 := n1_1
  clear n0_0 n0_1 n1_0 n1_1
  go_wp2
  go_ret
  exact ⟨rfl, HB.out⟩

theorem parseV_form (l : List UInt8) : ∃ b s e, parseV l = .tuple #[.agg #[.bool b, .string s], .int .i64 e] := by
  unfold parseV
  split
  · exact ⟨_, _, _, rfl⟩
  · exact ⟨_, _, _, rfl⟩
theorem reads_c (s : ByteArray) (n : Int) (hn : (Lit.int .i64 n).wf = true) (w : World) :
    Calls Tryd.prog 5 #[.string s, .int .i64 n] w fun e w' => e = .returned (.bool true) ∧ Below w.heap.size w w' := by
  have hb : -9223372036854775808 ≤ n ∧ n ≤ 9223372036854775807 := by
    simp [Lit.wf, IntKind.min, IntKind.max, IntKind.bits, IntKind.signed] at hn
    omega
  obtain ⟨aB, aS, E, he⟩ := parseV_form s.data.toList
  have H1 := Lib.hid (parse_c s)
  have H2 := Lib.hid (parse_r s)
  have H3 := Lib.hid (of_w n hb.1 hb.2)
  have H4 := Lib.hid (of_r n hb.1 hb.2)
  rw [he] at H1 H2
  exact reads_w s n aB (pv n).1 aS (pv n).2 E H1 H2 H3 H4 w
#print axioms reads_c
end Go.Proofs.YtimpimnaknkgpaaDoor
