import Derived.Test.YtimpimnaknkgpaaDoorL3s
import Derived.Test.YtimpimnaknkgpaaDoorS4
namespace Go.Proofs.YtimpimnaknkgpaaDoor
open Go.RowKit Num
set_option linter.unusedVariables false
set_option linter.unusedSimpArgs false

theorem sq_step {g3 g4 : Nat} {aB bB qB : Bool} {aS bS qS rS : ByteArray} {w W : World} {W' : World} (hbr : Below W.heap.size W W') (h : W.cell? ⟨w.heap.size, 0, none⟩ = some (.bool aB) ∧ W.cell? ⟨w.heap.size, 1, none⟩ = some (.string aS) ∧ W.cell? ⟨w.heap.size + 1, 0, none⟩ = some (.bool bB) ∧ W.cell? ⟨w.heap.size + 1, 1, none⟩ = some (.string bS) ∧ W.cell? ⟨g3, 0, none⟩ = some (.bool qB) ∧ W.cell? ⟨g3, 1, none⟩ = some (.string qS) ∧ W.cell? ⟨g3 + 1, 0, none⟩ = some (.bool false) ∧ W.cell? ⟨g3 + 1, 1, none⟩ = some (.string rS) ∧ W.cell? ⟨g4, 0, none⟩ = some (.bool qB) ∧ W.cell? ⟨g4, 1, none⟩ = some (.string qS) ∧ W.cell? ⟨g4 + 1, 0, none⟩ = some (.bool false) ∧ W.cell? ⟨g4 + 1, 1, none⟩ = some (.string rS) ∧ Below w.heap.size w W) : W'.cell? ⟨w.heap.size, 0, none⟩ = some (.bool aB) ∧ W'.cell? ⟨w.heap.size, 1, none⟩ = some (.string aS) ∧ W'.cell? ⟨w.heap.size + 1, 0, none⟩ = some (.bool bB) ∧ W'.cell? ⟨w.heap.size + 1, 1, none⟩ = some (.string bS) ∧ W'.cell? ⟨g3, 0, none⟩ = some (.bool qB) ∧ W'.cell? ⟨g3, 1, none⟩ = some (.string qS) ∧ W'.cell? ⟨g3 + 1, 0, none⟩ = some (.bool false) ∧ W'.cell? ⟨g3 + 1, 1, none⟩ = some (.string rS) ∧ W'.cell? ⟨g4, 0, none⟩ = some (.bool qB) ∧ W'.cell? ⟨g4, 1, none⟩ = some (.string qS) ∧ W'.cell? ⟨g4 + 1, 0, none⟩ = some (.bool false) ∧ W'.cell? ⟨g4 + 1, 1, none⟩ = some (.string rS) ∧ Below w.heap.size w W' :=
  ⟨(hbr.cell (World.block_lt_of_cell? _ _ h.1)).trans h.1, (hbr.cell (World.block_lt_of_cell? _ _ h.2.1)).trans h.2.1, (hbr.cell (World.block_lt_of_cell? _ _ h.2.2.1)).trans h.2.2.1, (hbr.cell (World.block_lt_of_cell? _ _ h.2.2.2.1)).trans h.2.2.2.1, (hbr.cell (World.block_lt_of_cell? _ _ h.2.2.2.2.1)).trans h.2.2.2.2.1, (hbr.cell (World.block_lt_of_cell? _ _ h.2.2.2.2.2.1)).trans h.2.2.2.2.2.1, (hbr.cell (World.block_lt_of_cell? _ _ h.2.2.2.2.2.2.1)).trans h.2.2.2.2.2.2.1, (hbr.cell (World.block_lt_of_cell? _ _ h.2.2.2.2.2.2.2.1)).trans h.2.2.2.2.2.2.2.1, (hbr.cell (World.block_lt_of_cell? _ _ h.2.2.2.2.2.2.2.2.1)).trans h.2.2.2.2.2.2.2.2.1, (hbr.cell (World.block_lt_of_cell? _ _ h.2.2.2.2.2.2.2.2.2.1)).trans h.2.2.2.2.2.2.2.2.2.1, (hbr.cell (World.block_lt_of_cell? _ _ h.2.2.2.2.2.2.2.2.2.2.1)).trans h.2.2.2.2.2.2.2.2.2.2.1, (hbr.cell (World.block_lt_of_cell? _ _ h.2.2.2.2.2.2.2.2.2.2.2.1)).trans h.2.2.2.2.2.2.2.2.2.2.2.1, h.2.2.2.2.2.2.2.2.2.2.2.2.trans (hbr.mono h.2.2.2.2.2.2.2.2.2.2.2.2.size)⟩
theorem sq_alloc {g3 g4 : Nat} {aB bB qB : Bool} {aS bS qS rS : ByteArray} {w W : World} (o : Obj) (h : W.cell? ⟨w.heap.size, 0, none⟩ = some (.bool aB) ∧ W.cell? ⟨w.heap.size, 1, none⟩ = some (.string aS) ∧ W.cell? ⟨w.heap.size + 1, 0, none⟩ = some (.bool bB) ∧ W.cell? ⟨w.heap.size + 1, 1, none⟩ = some (.string bS) ∧ W.cell? ⟨g3, 0, none⟩ = some (.bool qB) ∧ W.cell? ⟨g3, 1, none⟩ = some (.string qS) ∧ W.cell? ⟨g3 + 1, 0, none⟩ = some (.bool false) ∧ W.cell? ⟨g3 + 1, 1, none⟩ = some (.string rS) ∧ W.cell? ⟨g4, 0, none⟩ = some (.bool qB) ∧ W.cell? ⟨g4, 1, none⟩ = some (.string qS) ∧ W.cell? ⟨g4 + 1, 0, none⟩ = some (.bool false) ∧ W.cell? ⟨g4 + 1, 1, none⟩ = some (.string rS) ∧ Below w.heap.size w W) : (W.alloc o).cell? ⟨w.heap.size, 0, none⟩ = some (.bool aB) ∧ (W.alloc o).cell? ⟨w.heap.size, 1, none⟩ = some (.string aS) ∧ (W.alloc o).cell? ⟨w.heap.size + 1, 0, none⟩ = some (.bool bB) ∧ (W.alloc o).cell? ⟨w.heap.size + 1, 1, none⟩ = some (.string bS) ∧ (W.alloc o).cell? ⟨g3, 0, none⟩ = some (.bool qB) ∧ (W.alloc o).cell? ⟨g3, 1, none⟩ = some (.string qS) ∧ (W.alloc o).cell? ⟨g3 + 1, 0, none⟩ = some (.bool false) ∧ (W.alloc o).cell? ⟨g3 + 1, 1, none⟩ = some (.string rS) ∧ (W.alloc o).cell? ⟨g4, 0, none⟩ = some (.bool qB) ∧ (W.alloc o).cell? ⟨g4, 1, none⟩ = some (.string qS) ∧ (W.alloc o).cell? ⟨g4 + 1, 0, none⟩ = some (.bool false) ∧ (W.alloc o).cell? ⟨g4 + 1, 1, none⟩ = some (.string rS) ∧ Below w.heap.size w (W.alloc o) := sq_step ((Below.refl _ _).alloc (Nat.le_refl _) _) h
theorem sq_drew {g3 g4 : Nat} {aB bB qB : Bool} {aS bS qS rS : ByteArray} {w W : World} (h : W.cell? ⟨w.heap.size, 0, none⟩ = some (.bool aB) ∧ W.cell? ⟨w.heap.size, 1, none⟩ = some (.string aS) ∧ W.cell? ⟨w.heap.size + 1, 0, none⟩ = some (.bool bB) ∧ W.cell? ⟨w.heap.size + 1, 1, none⟩ = some (.string bS) ∧ W.cell? ⟨g3, 0, none⟩ = some (.bool qB) ∧ W.cell? ⟨g3, 1, none⟩ = some (.string qS) ∧ W.cell? ⟨g3 + 1, 0, none⟩ = some (.bool false) ∧ W.cell? ⟨g3 + 1, 1, none⟩ = some (.string rS) ∧ W.cell? ⟨g4, 0, none⟩ = some (.bool qB) ∧ W.cell? ⟨g4, 1, none⟩ = some (.string qS) ∧ W.cell? ⟨g4 + 1, 0, none⟩ = some (.bool false) ∧ W.cell? ⟨g4 + 1, 1, none⟩ = some (.string rS) ∧ Below w.heap.size w W) : W.drew.cell? ⟨w.heap.size, 0, none⟩ = some (.bool aB) ∧ W.drew.cell? ⟨w.heap.size, 1, none⟩ = some (.string aS) ∧ W.drew.cell? ⟨w.heap.size + 1, 0, none⟩ = some (.bool bB) ∧ W.drew.cell? ⟨w.heap.size + 1, 1, none⟩ = some (.string bS) ∧ W.drew.cell? ⟨g3, 0, none⟩ = some (.bool qB) ∧ W.drew.cell? ⟨g3, 1, none⟩ = some (.string qS) ∧ W.drew.cell? ⟨g3 + 1, 0, none⟩ = some (.bool false) ∧ W.drew.cell? ⟨g3 + 1, 1, none⟩ = some (.string rS) ∧ W.drew.cell? ⟨g4, 0, none⟩ = some (.bool qB) ∧ W.drew.cell? ⟨g4, 1, none⟩ = some (.string qS) ∧ W.drew.cell? ⟨g4 + 1, 0, none⟩ = some (.bool false) ∧ W.drew.cell? ⟨g4 + 1, 1, none⟩ = some (.string rS) ∧ Below w.heap.size w W.drew := ⟨h.1, h.2.1, h.2.2.1, h.2.2.2.1, h.2.2.2.2.1, h.2.2.2.2.2.1, h.2.2.2.2.2.2.1, h.2.2.2.2.2.2.2.1, h.2.2.2.2.2.2.2.2.1, h.2.2.2.2.2.2.2.2.2.1, h.2.2.2.2.2.2.2.2.2.2.1, h.2.2.2.2.2.2.2.2.2.2.2.1, h.2.2.2.2.2.2.2.2.2.2.2.2.drew⟩
theorem sq_set2 {g3 g4 : Nat} {aB bB qB : Bool} {aS bS qS rS : ByteArray} {w W : World} {W0 : World} {u v : Value} (g : W0.cell? ⟨w.heap.size, 0, none⟩ = some (.bool aB) ∧ W0.cell? ⟨w.heap.size, 1, none⟩ = some (.string aS) ∧ W0.cell? ⟨w.heap.size + 1, 0, none⟩ = some (.bool bB) ∧ W0.cell? ⟨w.heap.size + 1, 1, none⟩ = some (.string bS) ∧ W0.cell? ⟨g3, 0, none⟩ = some (.bool qB) ∧ W0.cell? ⟨g3, 1, none⟩ = some (.string qS) ∧ W0.cell? ⟨g3 + 1, 0, none⟩ = some (.bool false) ∧ W0.cell? ⟨g3 + 1, 1, none⟩ = some (.string rS) ∧ W0.cell? ⟨g4, 0, none⟩ = some (.bool qB) ∧ W0.cell? ⟨g4, 1, none⟩ = some (.string qS) ∧ W0.cell? ⟨g4 + 1, 0, none⟩ = some (.bool false) ∧ W0.cell? ⟨g4 + 1, 1, none⟩ = some (.string rS) ∧ Below w.heap.size w W0) (h : W.cell? ⟨w.heap.size, 0, none⟩ = some (.bool aB) ∧ W.cell? ⟨w.heap.size, 1, none⟩ = some (.string aS) ∧ W.cell? ⟨w.heap.size + 1, 0, none⟩ = some (.bool bB) ∧ W.cell? ⟨w.heap.size + 1, 1, none⟩ = some (.string bS) ∧ W.cell? ⟨g3, 0, none⟩ = some (.bool qB) ∧ W.cell? ⟨g3, 1, none⟩ = some (.string qS) ∧ W.cell? ⟨g3 + 1, 0, none⟩ = some (.bool false) ∧ W.cell? ⟨g3 + 1, 1, none⟩ = some (.string rS) ∧ W.cell? ⟨g4, 0, none⟩ = some (.bool qB) ∧ W.cell? ⟨g4, 1, none⟩ = some (.string qS) ∧ W.cell? ⟨g4 + 1, 0, none⟩ = some (.bool false) ∧ W.cell? ⟨g4 + 1, 1, none⟩ = some (.string rS) ∧ Below w.heap.size w W) : ((W.setCell ⟨W0.heap.size, 0, none⟩ u).setCell ⟨W0.heap.size, 1, none⟩ v).cell? ⟨w.heap.size, 0, none⟩ = some (.bool aB) ∧ ((W.setCell ⟨W0.heap.size, 0, none⟩ u).setCell ⟨W0.heap.size, 1, none⟩ v).cell? ⟨w.heap.size, 1, none⟩ = some (.string aS) ∧ ((W.setCell ⟨W0.heap.size, 0, none⟩ u).setCell ⟨W0.heap.size, 1, none⟩ v).cell? ⟨w.heap.size + 1, 0, none⟩ = some (.bool bB) ∧ ((W.setCell ⟨W0.heap.size, 0, none⟩ u).setCell ⟨W0.heap.size, 1, none⟩ v).cell? ⟨w.heap.size + 1, 1, none⟩ = some (.string bS) ∧ ((W.setCell ⟨W0.heap.size, 0, none⟩ u).setCell ⟨W0.heap.size, 1, none⟩ v).cell? ⟨g3, 0, none⟩ = some (.bool qB) ∧ ((W.setCell ⟨W0.heap.size, 0, none⟩ u).setCell ⟨W0.heap.size, 1, none⟩ v).cell? ⟨g3, 1, none⟩ = some (.string qS) ∧ ((W.setCell ⟨W0.heap.size, 0, none⟩ u).setCell ⟨W0.heap.size, 1, none⟩ v).cell? ⟨g3 + 1, 0, none⟩ = some (.bool false) ∧ ((W.setCell ⟨W0.heap.size, 0, none⟩ u).setCell ⟨W0.heap.size, 1, none⟩ v).cell? ⟨g3 + 1, 1, none⟩ = some (.string rS) ∧ ((W.setCell ⟨W0.heap.size, 0, none⟩ u).setCell ⟨W0.heap.size, 1, none⟩ v).cell? ⟨g4, 0, none⟩ = some (.bool qB) ∧ ((W.setCell ⟨W0.heap.size, 0, none⟩ u).setCell ⟨W0.heap.size, 1, none⟩ v).cell? ⟨g4, 1, none⟩ = some (.string qS) ∧ ((W.setCell ⟨W0.heap.size, 0, none⟩ u).setCell ⟨W0.heap.size, 1, none⟩ v).cell? ⟨g4 + 1, 0, none⟩ = some (.bool false) ∧ ((W.setCell ⟨W0.heap.size, 0, none⟩ u).setCell ⟨W0.heap.size, 1, none⟩ v).cell? ⟨g4 + 1, 1, none⟩ = some (.string rS) ∧ Below w.heap.size w ((W.setCell ⟨W0.heap.size, 0, none⟩ u).setCell ⟨W0.heap.size, 1, none⟩ v) :=
  ⟨set2_far (Nat.ne_of_lt (World.block_lt_of_cell? _ _ g.1)) h.1, set2_far (Nat.ne_of_lt (World.block_lt_of_cell? _ _ g.2.1)) h.2.1, set2_far (Nat.ne_of_lt (World.block_lt_of_cell? _ _ g.2.2.1)) h.2.2.1, set2_far (Nat.ne_of_lt (World.block_lt_of_cell? _ _ g.2.2.2.1)) h.2.2.2.1, set2_far (Nat.ne_of_lt (World.block_lt_of_cell? _ _ g.2.2.2.2.1)) h.2.2.2.2.1, set2_far (Nat.ne_of_lt (World.block_lt_of_cell? _ _ g.2.2.2.2.2.1)) h.2.2.2.2.2.1, set2_far (Nat.ne_of_lt (World.block_lt_of_cell? _ _ g.2.2.2.2.2.2.1)) h.2.2.2.2.2.2.1, set2_far (Nat.ne_of_lt (World.block_lt_of_cell? _ _ g.2.2.2.2.2.2.2.1)) h.2.2.2.2.2.2.2.1, set2_far (Nat.ne_of_lt (World.block_lt_of_cell? _ _ g.2.2.2.2.2.2.2.2.1)) h.2.2.2.2.2.2.2.2.1, set2_far (Nat.ne_of_lt (World.block_lt_of_cell? _ _ g.2.2.2.2.2.2.2.2.2.1)) h.2.2.2.2.2.2.2.2.2.1, set2_far (Nat.ne_of_lt (World.block_lt_of_cell? _ _ g.2.2.2.2.2.2.2.2.2.2.1)) h.2.2.2.2.2.2.2.2.2.2.1, set2_far (Nat.ne_of_lt (World.block_lt_of_cell? _ _ g.2.2.2.2.2.2.2.2.2.2.2.1)) h.2.2.2.2.2.2.2.2.2.2.2.1, (h.2.2.2.2.2.2.2.2.2.2.2.2.setCell g.2.2.2.2.2.2.2.2.2.2.2.2.size _).setCell g.2.2.2.2.2.2.2.2.2.2.2.2.size _⟩
theorem sq_fr {g3 g4 : Nat} {aB bB qB : Bool} {aS bS qS rS : ByteArray} {w W : World} {o : Nat} (h : W.frozen? ⟨W.heap.size, o, none⟩ = false) : True := trivial
set_option maxHeartbeats 4000000 in
set_option maxRecDepth 100000 in
theorem quot_big (aB bB : Bool) (aS bS : ByteArray) (HS : Hid (∀ w, Calls Tryd.prog 10 #[.agg #[.bool aB, .string aS], .agg #[.bool bB, .string bS]] w fun e w' => e = .returned (.bool false) ∧ Below w.heap.size w w'))  (w : World) :
    Calls Tryd.prog 3 #[.agg #[.bool aB, .string aS], .agg #[.bool bB, .string bS]] w fun e w' => e = .returned (.bool true) ∧ Below w.heap.size w w' := by
  obtain ⟨W0, hW0⟩ : ∃ W0, W0 = (w.alloc (.cells #[.bool aB, .string aS] 24)).alloc (.cells #[.bool bB, .string bS] 24) := ⟨_, rfl⟩
  have hB0 : Below w.heap.size w W0 := by rw [hW0]; exact ((Below.refl _ _).alloc (by simp; try omega) _).alloc (by simp; try omega) _
  have f0_0 : W0.cell? ⟨w.heap.size, 0, none⟩ = some (.bool aB) := by rw [hW0]; simp [go_sem]
  have f0_1 : W0.cell? ⟨w.heap.size, 1, none⟩ = some (.string aS) := by rw [hW0]; simp [go_sem]
  have f1_0 : W0.cell? ⟨w.heap.size + 1, 0, none⟩ = some (.bool bB) := by rw [hW0]; simp [go_sem]
  have f1_1 : W0.cell? ⟨w.heap.size + 1, 1, none⟩ = some (.string bS) := by rw [hW0]; simp [go_sem]
  have hZ0 : W0.heap.size = w.heap.size + 2 := by rw [hW0]; simp
  have HL0 := Lib.hid (show w.heap.size < W0.heap.size by rw [hZ0]; omega)
  have HL1 := Lib.hid (show w.heap.size + 1 < W0.heap.size by rw [hZ0]; omega)
  have HW0 := Lib.hid hW0
  have HB := Lib.hid hB0
  clear hB0 hZ0 hW0
  have HLV := Lib.hid live_c
  go_enter Tryd.func3, Tryd.ntmps3
  go_wp2_with fail
  rw [← HW0.out]
  refine (HS.out _).mono ?_
  rintro e w1 ⟨rfl, hb1⟩
  have hB1 : Below W0.heap.size W0 (w1) := hb1
  have n0_0 := (hB1.cell (p := ⟨w.heap.size, 0, none⟩) HL0.out).trans f0_0
  have n0_1 := (hB1.cell (p := ⟨w.heap.size, 1, none⟩) HL0.out).trans f0_1
  have n1_0 := (hB1.cell (p := ⟨w.heap.size + 1, 0, none⟩) HL1.out).trans f1_0
  have n1_1 := (hB1.cell (p := ⟨w.heap.size + 1, 1, none⟩) HL1.out).trans f1_1
  clear f0_0 f0_1 f1_0 f1_1
  have HX1 := Lib.hid hB1
  have HY1 := Lib.hid hb1.size
  clear hB1 hb1
  go_wp2_with fail
  have HL0 := Lib.hid (Nat.lt_of_lt_of_le HL0.out HX1.out.size)
  have HL1 := Lib.hid (Nat.lt_of_lt_of_le HL1.out HX1.out.size)
  have HB := Lib.hid (HB.out.trans (HX1.out.mono HB.out.size))
  clear HX1
  have f0_0 := n0_0
  have f0_1 := n0_1
  have f1_0 := n1_0
  have f1_1 := n1_1
  clear n0_0 n0_1 n1_0 n1_1
  refine (HLV.out _).mono ?_
  rintro e w2 ⟨rfl, hb2⟩
  have hB2 : Below w1.heap.size w1 (w2) := hb2
  have n0_0 := (hB2.cell (p := ⟨w.heap.size, 0, none⟩) HL0.out).trans f0_0
  have n0_1 := (hB2.cell (p := ⟨w.heap.size, 1, none⟩) HL0.out).trans f0_1
  have n1_0 := (hB2.cell (p := ⟨w.heap.size + 1, 0, none⟩) HL1.out).trans f1_0
  have n1_1 := (hB2.cell (p := ⟨w.heap.size + 1, 1, none⟩) HL1.out).trans f1_1
  clear f0_0 f0_1 f1_0 f1_1
  have HX2 := Lib.hid hB2
  have HY2 := Lib.hid hb2.size
  clear hB2 hb2
  have HL0 := Lib.hid (Nat.lt_of_lt_of_le HL0.out HX2.out.size)
  have HL1 := Lib.hid (Nat.lt_of_lt_of_le HL1.out HX2.out.size)
  have HB := Lib.hid (HB.out.trans (HX2.out.mono HB.out.size))
  clear HX2
  have f0_0 := n0_0
  have f0_1 := n0_1
  have f1_0 := n1_0
  have f1_1 := n1_1
  clear n0_0 n0_1 n1_0 n1_1
  go_wp2
  go_ret
  exact ⟨rfl, HB.out⟩

set_option maxHeartbeats 4000000 in
set_option maxRecDepth 100000 in
theorem quot_bad (aB bB : Bool) (aS bS : ByteArray) (HS : Hid (∀ w, Calls Tryd.prog 10 #[.agg #[.bool aB, .string aS], .agg #[.bool bB, .string bS]] w fun e w' => e = .returned (.bool true) ∧ Below w.heap.size w w')) (E : Int) (HE : Hid (∀ w, Calls Tryd.prog 11 #[.agg #[.bool aB, .string aS], .agg #[.bool bB, .string bS]] w fun e w' => e = .returned (.int .i64 E) ∧ Below w.heap.size w w')) (y1 : (E == 0) = false) (y2 : (E != 0) = true) (w : World) :
    Calls Tryd.prog 3 #[.agg #[.bool aB, .string aS], .agg #[.bool bB, .string bS]] w fun e w' => e = .returned (.bool true) ∧ Below w.heap.size w w' := by
  obtain ⟨W0, hW0⟩ : ∃ W0, W0 = (w.alloc (.cells #[.bool aB, .string aS] 24)).alloc (.cells #[.bool bB, .string bS] 24) := ⟨_, rfl⟩
  have hB0 : Below w.heap.size w W0 := by rw [hW0]; exact ((Below.refl _ _).alloc (by simp; try omega) _).alloc (by simp; try omega) _
  have f0_0 : W0.cell? ⟨w.heap.size, 0, none⟩ = some (.bool aB) := by rw [hW0]; simp [go_sem]
  have f0_1 : W0.cell? ⟨w.heap.size, 1, none⟩ = some (.string aS) := by rw [hW0]; simp [go_sem]
  have f1_0 : W0.cell? ⟨w.heap.size + 1, 0, none⟩ = some (.bool bB) := by rw [hW0]; simp [go_sem]
  have f1_1 : W0.cell? ⟨w.heap.size + 1, 1, none⟩ = some (.string bS) := by rw [hW0]; simp [go_sem]
  have hZ0 : W0.heap.size = w.heap.size + 2 := by rw [hW0]; simp
  have HL0 := Lib.hid (show w.heap.size < W0.heap.size by rw [hZ0]; omega)
  have HL1 := Lib.hid (show w.heap.size + 1 < W0.heap.size by rw [hZ0]; omega)
  have HW0 := Lib.hid hW0
  have HB := Lib.hid hB0
  clear hB0 hZ0 hW0
  have HLV := Lib.hid live_c
  go_enter Tryd.func3, Tryd.ntmps3
  go_wp2_with fail
  rw [← HW0.out]
  refine (HS.out _).mono ?_
  rintro e w1 ⟨rfl, hb1⟩
  have hB1 : Below W0.heap.size W0 (w1) := hb1
  have n0_0 := (hB1.cell (p := ⟨w.heap.size, 0, none⟩) HL0.out).trans f0_0
  have n0_1 := (hB1.cell (p := ⟨w.heap.size, 1, none⟩) HL0.out).trans f0_1
  have n1_0 := (hB1.cell (p := ⟨w.heap.size + 1, 0, none⟩) HL1.out).trans f1_0
  have n1_1 := (hB1.cell (p := ⟨w.heap.size + 1, 1, none⟩) HL1.out).trans f1_1
  clear f0_0 f0_1 f1_0 f1_1
  have HX1 := Lib.hid hB1
  have HY1 := Lib.hid hb1.size
  clear hB1 hb1
  go_wp2_with fail
  have HL0 := Lib.hid (Nat.lt_of_lt_of_le HL0.out HX1.out.size)
  have HL1 := Lib.hid (Nat.lt_of_lt_of_le HL1.out HX1.out.size)
  have HB := Lib.hid (HB.out.trans (HX1.out.mono HB.out.size))
  clear HX1
  have f0_0 := n0_0
  have f0_1 := n0_1
  have f1_0 := n1_0
  have f1_1 := n1_1
  clear n0_0 n0_1 n1_0 n1_1
  refine (HE.out _).mono ?_
  rintro e w2 ⟨rfl, hb2⟩
  have hB2 : Below w1.heap.size w1 (w2) := hb2
  have n0_0 := (hB2.cell (p := ⟨w.heap.size, 0, none⟩) HL0.out).trans f0_0
  have n0_1 := (hB2.cell (p := ⟨w.heap.size, 1, none⟩) HL0.out).trans f0_1
  have n1_0 := (hB2.cell (p := ⟨w.heap.size + 1, 0, none⟩) HL1.out).trans f1_0
  have n1_1 := (hB2.cell (p := ⟨w.heap.size + 1, 1, none⟩) HL1.out).trans f1_1
  clear f0_0 f0_1 f1_0 f1_1
  have HX2 := Lib.hid hB2
  have HY2 := Lib.hid hb2.size
  clear hB2 hb2
  go_wp2_with fail
  have HL0 := Lib.hid (Nat.lt_of_lt_of_le HL0.out HX2.out.size)
  have HL1 := Lib.hid (Nat.lt_of_lt_of_le HL1.out HX2.out.size)
  have HB := Lib.hid (HB.out.trans (HX2.out.mono HB.out.size))
  clear HX2
  have f0_0 := n0_0
  have f0_1 := n0_1
  have f1_0 := n1_0
  have f1_1 := n1_1
  clear n0_0 n0_1 n1_0 n1_1
  refine (HLV.out _).mono ?_
  rintro e w3 ⟨rfl, hb3⟩
  have hB3 : Below w2.heap.size w2 (w3) := hb3
  have n0_0 := (hB3.cell (p := ⟨w.heap.size, 0, none⟩) HL0.out).trans f0_0
  have n0_1 := (hB3.cell (p := ⟨w.heap.size, 1, none⟩) HL0.out).trans f0_1
  have n1_0 := (hB3.cell (p := ⟨w.heap.size + 1, 0, none⟩) HL1.out).trans f1_0
  have n1_1 := (hB3.cell (p := ⟨w.heap.size + 1, 1, none⟩) HL1.out).trans f1_1
  clear f0_0 f0_1 f1_0 f1_1
  have HX3 := Lib.hid hB3
  have HY3 := Lib.hid hb3.size
  clear hB3 hb3
  have HL0 := Lib.hid (Nat.lt_of_lt_of_le HL0.out HX3.out.size)
  have HL1 := Lib.hid (Nat.lt_of_lt_of_le HL1.out HX3.out.size)
  have HB := Lib.hid (HB.out.trans (HX3.out.mono HB.out.size))
  clear HX3
  have f0_0 := n0_0
  have f0_1 := n0_1
  have f1_0 := n1_0
  have f1_1 := n1_1
  clear n0_0 n0_1 n1_0 n1_1
  go_wp2
  go_ret
  exact ⟨rfl, HB.out⟩

set_option maxHeartbeats 4000000 in
set_option maxRecDepth 100000 in
theorem quot_z (aB bB : Bool) (aS : ByteArray) (HS : Hid (∀ w, Calls Tryd.prog 10 #[.agg #[.bool aB, .string aS], .agg #[.bool bB, .string ⟨#[]⟩]] w fun e w' => e = .returned (.bool true) ∧ Below w.heap.size w w')) (HE : Hid (∀ w, Calls Tryd.prog 11 #[.agg #[.bool aB, .string aS], .agg #[.bool bB, .string ⟨#[]⟩]] w fun e w' => e = .returned (.int .i64 0) ∧ Below w.heap.size w w')) (H1 : Hid (∀ w, Calls Tryd.prog 13 #[.agg #[.bool aB, .string aS], .agg #[.bool bB, .string ⟨#[]⟩]] w fun e w' => e = .returned (.tuple #[.agg #[.bool false, .string ⟨#[]⟩], .agg #[.bool false, .string ⟨#[]⟩], .int .i64 3]) ∧ Below w.heap.size w w')) (w : World) :
    Calls Tryd.prog 3 #[.agg #[.bool aB, .string aS], .agg #[.bool bB, .string ⟨#[]⟩]] w fun e w' => e = .returned (.bool true) ∧ Below w.heap.size w w' := by
  obtain ⟨W0, hW0⟩ : ∃ W0, W0 = (w.alloc (.cells #[.bool aB, .string aS] 24)).alloc (.cells #[.bool bB, .string ⟨#[]⟩] 24) := ⟨_, rfl⟩
  have hB0 : Below w.heap.size w W0 := by rw [hW0]; exact ((Below.refl _ _).alloc (by simp; try omega) _).alloc (by simp; try omega) _
  have f0_0 : W0.cell? ⟨w.heap.size, 0, none⟩ = some (.bool aB) := by rw [hW0]; simp [go_sem]
  have f0_1 : W0.cell? ⟨w.heap.size, 1, none⟩ = some (.string aS) := by rw [hW0]; simp [go_sem]
  have f1_0 : W0.cell? ⟨w.heap.size + 1, 0, none⟩ = some (.bool bB) := by rw [hW0]; simp [go_sem]
  have f1_1 : W0.cell? ⟨w.heap.size + 1, 1, none⟩ = some (.string ⟨#[]⟩) := by rw [hW0]; simp [go_sem]
  have hZ0 : W0.heap.size = w.heap.size + 2 := by rw [hW0]; simp
  have HL0 := Lib.hid (show w.heap.size < W0.heap.size by rw [hZ0]; omega)
  have HL1 := Lib.hid (show w.heap.size + 1 < W0.heap.size by rw [hZ0]; omega)
  have HW0 := Lib.hid hW0
  have HB := Lib.hid hB0
  clear hB0 hZ0 hW0
  have HLV := Lib.hid live_c
  go_enter Tryd.func3, Tryd.ntmps3
  go_wp2_with fail
  rw [← HW0.out]
  refine (HS.out _).mono ?_
  rintro e w1 ⟨rfl, hb1⟩
  have hB1 : Below W0.heap.size W0 (w1) := hb1
  have n0_0 := (hB1.cell (p := ⟨w.heap.size, 0, none⟩) HL0.out).trans f0_0
  have n0_1 := (hB1.cell (p := ⟨w.heap.size, 1, none⟩) HL0.out).trans f0_1
  have n1_0 := (hB1.cell (p := ⟨w.heap.size + 1, 0, none⟩) HL1.out).trans f1_0
  have n1_1 := (hB1.cell (p := ⟨w.heap.size + 1, 1, none⟩) HL1.out).trans f1_1
  clear f0_0 f0_1 f1_0 f1_1
  have HX1 := Lib.hid hB1
  have HY1 := Lib.hid hb1.size
  clear hB1 hb1
  go_wp2_with fail
  have HL0 := Lib.hid (Nat.lt_of_lt_of_le HL0.out HX1.out.size)
  have HL1 := Lib.hid (Nat.lt_of_lt_of_le HL1.out HX1.out.size)
  have HB := Lib.hid (HB.out.trans (HX1.out.mono HB.out.size))
  clear HX1
  have f0_0 := n0_0
  have f0_1 := n0_1
  have f1_0 := n1_0
  have f1_1 := n1_1
  clear n0_0 n0_1 n1_0 n1_1
  refine (HE.out _).mono ?_
  rintro e w2 ⟨rfl, hb2⟩
  have hB2 : Below w1.heap.size w1 (w2) := hb2
  have n0_0 := (hB2.cell (p := ⟨w.heap.size, 0, none⟩) HL0.out).trans f0_0
  have n0_1 := (hB2.cell (p := ⟨w.heap.size, 1, none⟩) HL0.out).trans f0_1
  have n1_0 := (hB2.cell (p := ⟨w.heap.size + 1, 0, none⟩) HL1.out).trans f1_0
  have n1_1 := (hB2.cell (p := ⟨w.heap.size + 1, 1, none⟩) HL1.out).trans f1_1
  clear f0_0 f0_1 f1_0 f1_1
  have HX2 := Lib.hid hB2
  have HY2 := Lib.hid hb2.size
  clear hB2 hb2
  go_wp2_with fail
  have HL0 := Lib.hid (Nat.lt_of_lt_of_le HL0.out HX2.out.size)
  have HL1 := Lib.hid (Nat.lt_of_lt_of_le HL1.out HX2.out.size)
  have HB := Lib.hid (HB.out.trans (HX2.out.mono HB.out.size))
  clear HX2
  have f0_0 := n0_0
  have f0_1 := n0_1
  have f1_0 := n1_0
  have f1_1 := n1_1
  clear n0_0 n0_1 n1_0 n1_1
  refine (H1.out _).mono ?_
  rintro e w3 ⟨rfl, hb3⟩
  have hB3 : Below w2.heap.size w2 ((w3.alloc (.cells #[.bool false, .string ⟨#[]⟩] 24)).alloc (.cells #[.bool false, .string ⟨#[]⟩] 24)) := ((((hb3).alloc (by have := hb3.size; simp; try omega) _)).alloc (by have := hb3.size; simp; try omega) _)
  have n0_0 := (hB3.cell (p := ⟨w.heap.size, 0, none⟩) HL0.out).trans f0_0
  have n0_1 := (hB3.cell (p := ⟨w.heap.size, 1, none⟩) HL0.out).trans f0_1
  have n1_0 := (hB3.cell (p := ⟨w.heap.size + 1, 0, none⟩) HL1.out).trans f1_0
  have n1_1 := (hB3.cell (p := ⟨w.heap.size + 1, 1, none⟩) HL1.out).trans f1_1
  have n2_0 : ((w3.alloc (.cells #[.bool false, .string ⟨#[]⟩] 24)).alloc (.cells #[.bool false, .string ⟨#[]⟩] 24)).cell? ⟨w3.heap.size, 0, none⟩ = some (.bool false) := by simp [go_sem]
  have n2_1 : ((w3.alloc (.cells #[.bool false, .string ⟨#[]⟩] 24)).alloc (.cells #[.bool false, .string ⟨#[]⟩] 24)).cell? ⟨w3.heap.size, 1, none⟩ = some (.string ⟨#[]⟩) := by simp [go_sem]
  have n3_0 : ((w3.alloc (.cells #[.bool false, .string ⟨#[]⟩] 24)).alloc (.cells #[.bool false, .string ⟨#[]⟩] 24)).cell? ⟨w3.heap.size + 1, 0, none⟩ = some (.bool false) := by simp [go_sem]
  have n3_1 : ((w3.alloc (.cells #[.bool false, .string ⟨#[]⟩] 24)).alloc (.cells #[.bool false, .string ⟨#[]⟩] 24)).cell? ⟨w3.heap.size + 1, 1, none⟩ = some (.string ⟨#[]⟩) := by simp [go_sem]
  clear f0_0 f0_1 f1_0 f1_1
  have HX3 := Lib.hid hB3
  have HY3 := Lib.hid hb3.size
  clear hB3 hb3
  go_wp2_with fail
  obtain ⟨W3, hW3⟩ : ∃ W3, W3 = (w3.alloc (.cells #[.bool false, .string ⟨#[]⟩] 24)).alloc (.cells #[.bool false, .string ⟨#[]⟩] 24) := ⟨_, rfl⟩
  have hZ3 : W3.heap.size = w3.heap.size + 2 := by rw [hW3]; simp
  rw [← hW3] at HX3 ⊢
  rw [← hW3] at n0_0 n0_1
  rw [← hW3] at n1_0 n1_1
  rw [← hW3] at n2_0 n2_1
  rw [← hW3] at n3_0 n3_1
  obtain ⟨g3, hg3⟩ : ∃ g3, w3.heap.size = g3 := ⟨_, rfl⟩
  rw [hg3] at n2_0 n2_1
  rw [hg3] at n3_0 n3_1
  rw [hg3] at hZ3 HY3 ⊢
  clear hW3 hg3
  have HL0 := Lib.hid (Nat.lt_of_lt_of_le HL0.out HX3.out.size)
  have HL1 := Lib.hid (Nat.lt_of_lt_of_le HL1.out HX3.out.size)
  have HL2 := Lib.hid (show g3 < W3.heap.size by rw [hZ3]; omega)
  have HL3 := Lib.hid (show g3 + 1 < W3.heap.size by rw [hZ3]; omega)
  clear hZ3 HY3
  have HB := Lib.hid (HB.out.trans (HX3.out.mono HB.out.size))
  clear HX3
  have f0_0 := n0_0
  have f0_1 := n0_1
  have f1_0 := n1_0
  have f1_1 := n1_1
  have f2_0 := n2_0
  have f2_1 := n2_1
  have f3_0 := n3_0
  have f3_1 := n3_1
  clear n0_0 n0_1 n1_0 n1_1 n2_0 n2_1 n3_0 n3_1
  refine (HLV.out _).mono ?_
  rintro e w4 ⟨rfl, hb4⟩
  have hB4 : Below W3.heap.size W3 (w4) := hb4
  have n0_0 := (hB4.cell (p := ⟨w.heap.size, 0, none⟩) HL0.out).trans f0_0
  have n0_1 := (hB4.cell (p := ⟨w.heap.size, 1, none⟩) HL0.out).trans f0_1
  have n1_0 := (hB4.cell (p := ⟨w.heap.size + 1, 0, none⟩) HL1.out).trans f1_0
  have n1_1 := (hB4.cell (p := ⟨w.heap.size + 1, 1, none⟩) HL1.out).trans f1_1
  have n2_0 := (hB4.cell (p := ⟨g3, 0, none⟩) HL2.out).trans f2_0
  have n2_1 := (hB4.cell (p := ⟨g3, 1, none⟩) HL2.out).trans f2_1
  have n3_0 := (hB4.cell (p := ⟨g3 + 1, 0, none⟩) HL3.out).trans f3_0
  have n3_1 := (hB4.cell (p := ⟨g3 + 1, 1, none⟩) HL3.out).trans f3_1
  clear f0_0 f0_1 f1_0 f1_1 f2_0 f2_1 f3_0 f3_1
  have HX4 := Lib.hid hB4
  have HY4 := Lib.hid hb4.size
  clear hB4 hb4
  have HL0 := Lib.hid (Nat.lt_of_lt_of_le HL0.out HX4.out.size)
  have HL1 := Lib.hid (Nat.lt_of_lt_of_le HL1.out HX4.out.size)
  have HL2 := Lib.hid (Nat.lt_of_lt_of_le HL2.out HX4.out.size)
  have HL3 := Lib.hid (Nat.lt_of_lt_of_le HL3.out HX4.out.size)
  have HB := Lib.hid (HB.out.trans (HX4.out.mono HB.out.size))
  clear HX4
  have f0_0 := n0_0
  have f0_1 := n0_1
  have f1_0 := n1_0
  have f1_1 := n1_1
  have f2_0 := n2_0
  have f2_1 := n2_1
  have f3_0 := n3_0
  have f3_1 := n3_1
  clear n0_0 n0_1 n1_0 n1_1 n2_0 n2_1 n3_0 n3_1
  go_wp2
  go_ret
  exact ⟨rfl, HB.out⟩

set_option maxHeartbeats 4000000 in
set_option maxRecDepth 100000 in
theorem quot_ok (aB bB : Bool) (aS bS : ByteArray) (HS : Hid (∀ w, Calls Tryd.prog 10 #[.agg #[.bool aB, .string aS], .agg #[.bool bB, .string bS]] w fun e w' => e = .returned (.bool true) ∧ Below w.heap.size w w')) (HE : Hid (∀ w, Calls Tryd.prog 11 #[.agg #[.bool aB, .string aS], .agg #[.bool bB, .string bS]] w fun e w' => e = .returned (.int .i64 0) ∧ Below w.heap.size w w')) (qB pB : Bool) (qS pS rS : ByteArray) (yb : bS.toList.isEmpty = false) (H1 : Hid (∀ w, Calls Tryd.prog 13 #[.agg #[.bool aB, .string aS], .agg #[.bool bB, .string bS]] w fun e w' => e = .returned (.tuple #[.agg #[.bool qB, .string qS], .agg #[.bool false, .string rS], .int .i64 0]) ∧ Below w.heap.size w w')) (R1 : Hid (∀ w, Calls Tryd.prog 14 #[.agg #[.bool aB, .string aS], .agg #[.bool bB, .string bS]] w fun e w' => e = .returned (.tuple #[.agg #[.bool qB, .string qS], .agg #[.bool false, .string rS]]) ∧ Below w.heap.size w w')) (R2 : Hid (∀ w, Calls Tryd.prog 16 #[.agg #[.bool qB, .string qS], .agg #[.bool bB, .string bS]] w fun e w' => e = .returned (.agg #[.bool pB, .string pS]) ∧ Below w.heap.size w w')) (R3 : Hid (∀ w, Calls Tryd.prog 15 #[.agg #[.bool pB, .string pS], .agg #[.bool false, .string rS]] w fun e w' => e = .returned (.agg #[.bool aB, .string aS]) ∧ Below w.heap.size w w')) (R4 : Hid (∀ w, Calls Tryd.prog 17 #[.agg #[.bool false, .string rS], .agg #[.bool false, .string bS]] w fun e w' => e = .returned (.int .i64 (-1)) ∧ Below w.heap.size w w')) (w : World) :
    Calls Tryd.prog 3 #[.agg #[.bool aB, .string aS], .agg #[.bool bB, .string bS]] w fun e w' => e = .returned (.bool true) ∧ Below w.heap.size w w' := by
  obtain ⟨W0, hW0⟩ : ∃ W0, W0 = (w.alloc (.cells #[.bool aB, .string aS] 24)).alloc (.cells #[.bool bB, .string bS] 24) := ⟨_, rfl⟩
  have hB0 : Below w.heap.size w W0 := by rw [hW0]; exact ((Below.refl _ _).alloc (by simp; try omega) _).alloc (by simp; try omega) _
  have f0_0 : W0.cell? ⟨w.heap.size, 0, none⟩ = some (.bool aB) := by rw [hW0]; simp [go_sem]
  have f0_1 : W0.cell? ⟨w.heap.size, 1, none⟩ = some (.string aS) := by rw [hW0]; simp [go_sem]
  have f1_0 : W0.cell? ⟨w.heap.size + 1, 0, none⟩ = some (.bool bB) := by rw [hW0]; simp [go_sem]
  have f1_1 : W0.cell? ⟨w.heap.size + 1, 1, none⟩ = some (.string bS) := by rw [hW0]; simp [go_sem]
  have hZ0 : W0.heap.size = w.heap.size + 2 := by rw [hW0]; simp
  have HL0 := Lib.hid (show w.heap.size < W0.heap.size by rw [hZ0]; omega)
  have HL1 := Lib.hid (show w.heap.size + 1 < W0.heap.size by rw [hZ0]; omega)
  have HW0 := Lib.hid hW0
  have HB := Lib.hid hB0
  clear hB0 hZ0 hW0
  have HLV := Lib.hid live_c
  go_enter Tryd.func3, Tryd.ntmps3
  go_wp2_with fail
  rw [← HW0.out]
  refine (HS.out _).mono ?_
  rintro e w1 ⟨rfl, hb1⟩
  have hB1 : Below W0.heap.size W0 (w1) := hb1
  have n0_0 := (hB1.cell (p := ⟨w.heap.size, 0, none⟩) HL0.out).trans f0_0
  have n0_1 := (hB1.cell (p := ⟨w.heap.size, 1, none⟩) HL0.out).trans f0_1
  have n1_0 := (hB1.cell (p := ⟨w.heap.size + 1, 0, none⟩) HL1.out).trans f1_0
  have n1_1 := (hB1.cell (p := ⟨w.heap.size + 1, 1, none⟩) HL1.out).trans f1_1
  clear f0_0 f0_1 f1_0 f1_1
  have HX1 := Lib.hid hB1
  have HY1 := Lib.hid hb1.size
  clear hB1 hb1
  go_wp2_with fail
  have HL0 := Lib.hid (Nat.lt_of_lt_of_le HL0.out HX1.out.size)
  have HL1 := Lib.hid (Nat.lt_of_lt_of_le HL1.out HX1.out.size)
  have HB := Lib.hid (HB.out.trans (HX1.out.mono HB.out.size))
  clear HX1
  have f0_0 := n0_0
  have f0_1 := n0_1
  have f1_0 := n1_0
  have f1_1 := n1_1
  clear n0_0 n0_1 n1_0 n1_1
  refine (HE.out _).mono ?_
  rintro e w2 ⟨rfl, hb2⟩
  have hB2 : Below w1.heap.size w1 (w2) := hb2
  have n0_0 := (hB2.cell (p := ⟨w.heap.size, 0, none⟩) HL0.out).trans f0_0
  have n0_1 := (hB2.cell (p := ⟨w.heap.size, 1, none⟩) HL0.out).trans f0_1
  have n1_0 := (hB2.cell (p := ⟨w.heap.size + 1, 0, none⟩) HL1.out).trans f1_0
  have n1_1 := (hB2.cell (p := ⟨w.heap.size + 1, 1, none⟩) HL1.out).trans f1_1
  clear f0_0 f0_1 f1_0 f1_1
  have HX2 := Lib.hid hB2
  have HY2 := Lib.hid hb2.size
  clear hB2 hb2
  go_wp2_with fail
  have HL0 := Lib.hid (Nat.lt_of_lt_of_le HL0.out HX2.out.size)
  have HL1 := Lib.hid (Nat.lt_of_lt_of_le HL1.out HX2.out.size)
  have HB := Lib.hid (HB.out.trans (HX2.out.mono HB.out.size))
  clear HX2
  have f0_0 := n0_0
  have f0_1 := n0_1
  have f1_0 := n1_0
  have f1_1 := n1_1
  clear n0_0 n0_1 n1_0 n1_1
  refine (H1.out _).mono ?_
  rintro e w3 ⟨rfl, hb3⟩
  have hB3 : Below w2.heap.size w2 ((w3.alloc (.cells #[.bool qB, .string qS] 24)).alloc (.cells #[.bool false, .string rS] 24)) := ((((hb3).alloc (by have := hb3.size; simp; try omega) _)).alloc (by have := hb3.size; simp; try omega) _)
  have n0_0 := (hB3.cell (p := ⟨w.heap.size, 0, none⟩) HL0.out).trans f0_0
  have n0_1 := (hB3.cell (p := ⟨w.heap.size, 1, none⟩) HL0.out).trans f0_1
  have n1_0 := (hB3.cell (p := ⟨w.heap.size + 1, 0, none⟩) HL1.out).trans f1_0
  have n1_1 := (hB3.cell (p := ⟨w.heap.size + 1, 1, none⟩) HL1.out).trans f1_1
  have n2_0 : ((w3.alloc (.cells #[.bool qB, .string qS] 24)).alloc (.cells #[.bool false, .string rS] 24)).cell? ⟨w3.heap.size, 0, none⟩ = some (.bool qB) := by simp [go_sem]
  have n2_1 : ((w3.alloc (.cells #[.bool qB, .string qS] 24)).alloc (.cells #[.bool false, .string rS] 24)).cell? ⟨w3.heap.size, 1, none⟩ = some (.string qS) := by simp [go_sem]
  have n3_0 : ((w3.alloc (.cells #[.bool qB, .string qS] 24)).alloc (.cells #[.bool false, .string rS] 24)).cell? ⟨w3.heap.size + 1, 0, none⟩ = some (.bool false) := by simp [go_sem]
  have n3_1 : ((w3.alloc (.cells #[.bool qB, .string qS] 24)).alloc (.cells #[.bool false, .string rS] 24)).cell? ⟨w3.heap.size + 1, 1, none⟩ = some (.string rS) := by simp [go_sem]
  clear f0_0 f0_1 f1_0 f1_1
  have HX3 := Lib.hid hB3
  have HY3 := Lib.hid hb3.size
  clear hB3 hb3
  go_wp2_with fail
  obtain ⟨W3, hW3⟩ : ∃ W3, W3 = (w3.alloc (.cells #[.bool qB, .string qS] 24)).alloc (.cells #[.bool false, .string rS] 24) := ⟨_, rfl⟩
  have hZ3 : W3.heap.size = w3.heap.size + 2 := by rw [hW3]; simp
  rw [← hW3] at HX3 ⊢
  rw [← hW3] at n0_0 n0_1
  rw [← hW3] at n1_0 n1_1
  rw [← hW3] at n2_0 n2_1
  rw [← hW3] at n3_0 n3_1
  obtain ⟨g3, hg3⟩ : ∃ g3, w3.heap.size = g3 := ⟨_, rfl⟩
  rw [hg3] at n2_0 n2_1
  rw [hg3] at n3_0 n3_1
  rw [hg3] at hZ3 HY3 ⊢
  clear hW3 hg3
  have HL0 := Lib.hid (Nat.lt_of_lt_of_le HL0.out HX3.out.size)
  have HL1 := Lib.hid (Nat.lt_of_lt_of_le HL1.out HX3.out.size)
  have HL2 := Lib.hid (show g3 < W3.heap.size by rw [hZ3]; omega)
  have HL3 := Lib.hid (show g3 + 1 < W3.heap.size by rw [hZ3]; omega)
  clear hZ3 HY3
  have HB := Lib.hid (HB.out.trans (HX3.out.mono HB.out.size))
  clear HX3
  have f0_0 := n0_0
  have f0_1 := n0_1
  have f1_0 := n1_0
  have f1_1 := n1_1
  have f2_0 := n2_0
  have f2_1 := n2_1
  have f3_0 := n3_0
  have f3_1 := n3_1
  clear n0_0 n0_1 n1_0 n1_1 n2_0 n2_1 n3_0 n3_1
  refine (R1.out _).mono ?_
  rintro e w4 ⟨rfl, hb4⟩
  have hB4 : Below W3.heap.size W3 ((w4.alloc (.cells #[.bool qB, .string qS] 24)).alloc (.cells #[.bool false, .string rS] 24)) := ((((hb4).alloc (by have := hb4.size; simp; try omega) _)).alloc (by have := hb4.size; simp; try omega) _)
  have n0_0 := (hB4.cell (p := ⟨w.heap.size, 0, none⟩) HL0.out).trans f0_0
  have n0_1 := (hB4.cell (p := ⟨w.heap.size, 1, none⟩) HL0.out).trans f0_1
  have n1_0 := (hB4.cell (p := ⟨w.heap.size + 1, 0, none⟩) HL1.out).trans f1_0
  have n1_1 := (hB4.cell (p := ⟨w.heap.size + 1, 1, none⟩) HL1.out).trans f1_1
  have n2_0 := (hB4.cell (p := ⟨g3, 0, none⟩) HL2.out).trans f2_0
  have n2_1 := (hB4.cell (p := ⟨g3, 1, none⟩) HL2.out).trans f2_1
  have n3_0 := (hB4.cell (p := ⟨g3 + 1, 0, none⟩) HL3.out).trans f3_0
  have n3_1 := (hB4.cell (p := ⟨g3 + 1, 1, none⟩) HL3.out).trans f3_1
  have n4_0 : ((w4.alloc (.cells #[.bool qB, .string qS] 24)).alloc (.cells #[.bool false, .string rS] 24)).cell? ⟨w4.heap.size, 0, none⟩ = some (.bool qB) := by simp [go_sem]
  have n4_1 : ((w4.alloc (.cells #[.bool qB, .string qS] 24)).alloc (.cells #[.bool false, .string rS] 24)).cell? ⟨w4.heap.size, 1, none⟩ = some (.string qS) := by simp [go_sem]
  have n5_0 : ((w4.alloc (.cells #[.bool qB, .string qS] 24)).alloc (.cells #[.bool false, .string rS] 24)).cell? ⟨w4.heap.size + 1, 0, none⟩ = some (.bool false) := by simp [go_sem]
  have n5_1 : ((w4.alloc (.cells #[.bool qB, .string qS] 24)).alloc (.cells #[.bool false, .string rS] 24)).cell? ⟨w4.heap.size + 1, 1, none⟩ = some (.string rS) := by simp [go_sem]
  clear f0_0 f0_1 f1_0 f1_1 f2_0 f2_1 f3_0 f3_1
  have HX4 := Lib.hid hB4
  have HY4 := Lib.hid hb4.size
  clear hB4 hb4
  go_upto_region 7 with fail
  obtain ⟨W4, hW4⟩ : ∃ W4, W4 = (w4.alloc (.cells #[.bool qB, .string qS] 24)).alloc (.cells #[.bool false, .string rS] 24) := ⟨_, rfl⟩
  have hZ4 : W4.heap.size = w4.heap.size + 2 := by rw [hW4]; simp
  rw [← hW4] at HX4 ⊢
  rw [← hW4] at n0_0 n0_1
  rw [← hW4] at n1_0 n1_1
  rw [← hW4] at n2_0 n2_1
  rw [← hW4] at n3_0 n3_1
  rw [← hW4] at n4_0 n4_1
  rw [← hW4] at n5_0 n5_1
  obtain ⟨g4, hg4⟩ : ∃ g4, w4.heap.size = g4 := ⟨_, rfl⟩
  rw [hg4] at n4_0 n4_1
  rw [hg4] at n5_0 n5_1
  rw [hg4] at hZ4 HY4 ⊢
  clear hW4 hg4
  have HL0 := Lib.hid (Nat.lt_of_lt_of_le HL0.out HX4.out.size)
  have HL1 := Lib.hid (Nat.lt_of_lt_of_le HL1.out HX4.out.size)
  have HL2 := Lib.hid (Nat.lt_of_lt_of_le HL2.out HX4.out.size)
  have HL3 := Lib.hid (Nat.lt_of_lt_of_le HL3.out HX4.out.size)
  have HL4 := Lib.hid (show g4 < W4.heap.size by rw [hZ4]; omega)
  have HL5 := Lib.hid (show g4 + 1 < W4.heap.size by rw [hZ4]; omega)
  clear hZ4 HY4
  have HB := Lib.hid (HB.out.trans (HX4.out.mono HB.out.size))
  clear HX4
  have f0_0 := n0_0
  have f0_1 := n0_1
  have f1_0 := n1_0
  have f1_1 := n1_1
  have f2_0 := n2_0
  have f2_1 := n2_1
  have f3_0 := n3_0
  have f3_1 := n3_1
  have f4_0 := n4_0
  have f4_1 := n4_1
  have f5_0 := n5_0
  have f5_1 := n5_1
  clear n0_0 n0_1 n1_0 n1_1 n2_0 n2_1 n3_0 n3_1 n4_0 n4_1 n5_0 n5_1
  have HBza := Lib.hid (show W4.cell? ⟨w.heap.size, 0, none⟩ = some (.bool aB) ∧ W4.cell? ⟨w.heap.size, 1, none⟩ = some (.string aS) ∧ W4.cell? ⟨w.heap.size + 1, 0, none⟩ = some (.bool bB) ∧ W4.cell? ⟨w.heap.size + 1, 1, none⟩ = some (.string bS) ∧ W4.cell? ⟨g3, 0, none⟩ = some (.bool qB) ∧ W4.cell? ⟨g3, 1, none⟩ = some (.string qS) ∧ W4.cell? ⟨g3 + 1, 0, none⟩ = some (.bool false) ∧ W4.cell? ⟨g3 + 1, 1, none⟩ = some (.string rS) ∧ W4.cell? ⟨g4, 0, none⟩ = some (.bool qB) ∧ W4.cell? ⟨g4, 1, none⟩ = some (.string qS) ∧ W4.cell? ⟨g4 + 1, 0, none⟩ = some (.bool false) ∧ W4.cell? ⟨g4 + 1, 1, none⟩ = some (.string rS) ∧ Below w.heap.size w W4 from ⟨f0_0, f0_1, f1_0, f1_1, f2_0, f2_1, f3_0, f3_1, f4_0, f4_1, f5_0, f5_1, HB.out⟩)
  clear HL0 HL1 HL2 HL3 HL4 HL5
  go_cut [10] (fun a wx => ∃ g : Nat, a = .pointer (some ⟨g, 0, none⟩) ∧ (wx.cell? ⟨w.heap.size, 0, none⟩ = some (.bool aB) ∧ wx.cell? ⟨w.heap.size, 1, none⟩ = some (.string aS) ∧ wx.cell? ⟨w.heap.size + 1, 0, none⟩ = some (.bool bB) ∧ wx.cell? ⟨w.heap.size + 1, 1, none⟩ = some (.string bS) ∧ wx.cell? ⟨g3, 0, none⟩ = some (.bool qB) ∧ wx.cell? ⟨g3, 1, none⟩ = some (.string qS) ∧ wx.cell? ⟨g3 + 1, 0, none⟩ = some (.bool false) ∧ wx.cell? ⟨g3 + 1, 1, none⟩ = some (.string rS) ∧ wx.cell? ⟨g4, 0, none⟩ = some (.bool qB) ∧ wx.cell? ⟨g4, 1, none⟩ = some (.string qS) ∧ wx.cell? ⟨g4 + 1, 0, none⟩ = some (.bool false) ∧ wx.cell? ⟨g4 + 1, 1, none⟩ = some (.string rS) ∧ Below w.heap.size w wx) ∧ wx.cell? ⟨g, 0, none⟩ = some (.bool aB) ∧ wx.cell? ⟨g, 1, none⟩ = some (.string aS))
  case first =>
    go_region_held3 (fun w' => w'.cell? ⟨w.heap.size, 0, none⟩ = some (.bool aB) ∧ w'.cell? ⟨w.heap.size, 1, none⟩ = some (.string aS) ∧ w'.cell? ⟨w.heap.size + 1, 0, none⟩ = some (.bool bB) ∧ w'.cell? ⟨w.heap.size + 1, 1, none⟩ = some (.string bS) ∧ w'.cell? ⟨g3, 0, none⟩ = some (.bool qB) ∧ w'.cell? ⟨g3, 1, none⟩ = some (.string qS) ∧ w'.cell? ⟨g3 + 1, 0, none⟩ = some (.bool false) ∧ w'.cell? ⟨g3 + 1, 1, none⟩ = some (.string rS) ∧ w'.cell? ⟨g4, 0, none⟩ = some (.bool qB) ∧ w'.cell? ⟨g4, 1, none⟩ = some (.string qS) ∧ w'.cell? ⟨g4 + 1, 0, none⟩ = some (.bool false) ∧ w'.cell? ⟨g4 + 1, 1, none⟩ = some (.string rS) ∧ Below w.heap.size w w') (first | assumption | exact sq_drew (by assumption) | exact sq_alloc _ (by assumption) | exact sq_set2 hSb (by assumption) | exact sq_set2 HBza.out (by assumption)) (first | (go_at_call 16; refine (R2.out _).mono ?_; rintro e wzb ⟨rfl, hbr⟩; have hSb := sq_step hbr (by assumption); first | (have p0 := (hbr.cell (p := ⟨W4.heap.size, 0, none⟩) (by simp)).trans (show World.cell? (World.alloc W4 (.cells #[.bool false, .string ⟨#[]⟩] 24)) ⟨W4.heap.size, 0, none⟩ = some (.bool false) by simp [go_sem]); have p1 := (hbr.cell (p := ⟨W4.heap.size, 1, none⟩) (by simp)).trans (show World.cell? (World.alloc W4 (.cells #[.bool false, .string ⟨#[]⟩] 24)) ⟨W4.heap.size, 1, none⟩ = some (.string ⟨#[]⟩) by simp [go_sem]); have p2 := (hbr.frozen (p := ⟨W4.heap.size, 0, none⟩) (by simp)).trans (show World.frozen? (World.alloc W4 (.cells #[.bool false, .string ⟨#[]⟩] 24)) ⟨W4.heap.size, 0, none⟩ = false by simp [go_sem]); have p3 := (hbr.frozen (p := ⟨W4.heap.size, 1, none⟩) (by simp)).trans (show World.frozen? (World.alloc W4 (.cells #[.bool false, .string ⟨#[]⟩] 24)) ⟨W4.heap.size, 1, none⟩ = false by simp [go_sem]); have hltp := Nat.lt_of_lt_of_le (show W4.heap.size < (World.alloc W4 (.cells #[.bool false, .string ⟨#[]⟩] 24)).heap.size by simp) hbr.size) | skip; clear hbr) | (go_at_call 15; refine (R3.out _).mono ?_; rintro e wzc ⟨rfl, hbr⟩; have hSc := sq_step hbr (by assumption); first | (have q0 := (hbr.cell (p := ⟨W4.heap.size, 0, none⟩) hltp).trans p0; have q1 := (hbr.cell (p := ⟨W4.heap.size, 1, none⟩) hltp).trans p1; have q2 := (hbr.frozen (p := ⟨W4.heap.size, 0, none⟩) hltp).trans p2; have q3 := (hbr.frozen (p := ⟨W4.heap.size, 1, none⟩) hltp).trans p3) | (have q0 := (hbr.cell (p := ⟨wzb.heap.size, 0, none⟩) (by simp)).trans (show World.cell? (World.alloc wzb (.cells #[.bool false, .string ⟨#[]⟩] 24)) ⟨wzb.heap.size, 0, none⟩ = some (.bool false) by simp [go_sem]); have q1 := (hbr.cell (p := ⟨wzb.heap.size, 1, none⟩) (by simp)).trans (show World.cell? (World.alloc wzb (.cells #[.bool false, .string ⟨#[]⟩] 24)) ⟨wzb.heap.size, 1, none⟩ = some (.string ⟨#[]⟩) by simp [go_sem]); have q2 := (hbr.frozen (p := ⟨wzb.heap.size, 0, none⟩) (by simp)).trans (show World.frozen? (World.alloc wzb (.cells #[.bool false, .string ⟨#[]⟩] 24)) ⟨wzb.heap.size, 0, none⟩ = false by simp [go_sem]); have q3 := (hbr.frozen (p := ⟨wzb.heap.size, 1, none⟩) (by simp)).trans (show World.frozen? (World.alloc wzb (.cells #[.bool false, .string ⟨#[]⟩] 24)) ⟨wzb.heap.size, 1, none⟩ = false by simp [go_sem]); have hltq := Nat.lt_of_lt_of_le (show wzb.heap.size < (World.alloc wzb (.cells #[.bool false, .string ⟨#[]⟩] 24)).heap.size by simp) hbr.size) | skip; clear hbr))
    all_goals go_wp2
    all_goals go_meet
    all_goals refine ⟨_, rfl, by first | assumption | exact sq_drew (by assumption), ?_, ?_⟩
    all_goals first | (simp [go_sem]; done) | (simp [go_sem, q0, q1]; done)
  case rest =>
    obtain ⟨g5, rfl, hSc, n6_0, n6_1⟩ := hcut
    obtain ⟨f0_0, f0_1, f1_0, f1_1, f2_0, f2_1, f3_0, f3_1, f4_0, f4_1, f5_0, f5_1, hbc⟩ := hSc
    have HB := Lib.hid hbc
    have f6_0 := n6_0; have f6_1 := n6_1
    have HL0 := Lib.hid (World.block_lt_of_cell? _ _ f0_0)
    have HL1 := Lib.hid (World.block_lt_of_cell? _ _ f1_0)
    have HL2 := Lib.hid (World.block_lt_of_cell? _ _ f2_0)
    have HL3 := Lib.hid (World.block_lt_of_cell? _ _ f3_0)
    have HL4 := Lib.hid (World.block_lt_of_cell? _ _ f4_0)
    have HL5 := Lib.hid (World.block_lt_of_cell? _ _ f5_0)
    have HL6 := Lib.hid (World.block_lt_of_cell? _ _ f6_0)
    clear n6_0 n6_1 hbc HBza
    go_wp2_with fail
    refine (R4.out _).mono ?_
    rintro e w21 ⟨rfl, hb21⟩
    have hB21 : Below wc.heap.size wc (w21) := hb21
    have n0_0 := (hB21.cell (p := ⟨w.heap.size, 0, none⟩) HL0.out).trans f0_0
    have n0_1 := (hB21.cell (p := ⟨w.heap.size, 1, none⟩) HL0.out).trans f0_1
    have n1_0 := (hB21.cell (p := ⟨w.heap.size + 1, 0, none⟩) HL1.out).trans f1_0
    have n1_1 := (hB21.cell (p := ⟨w.heap.size + 1, 1, none⟩) HL1.out).trans f1_1
    have n2_0 := (hB21.cell (p := ⟨g3, 0, none⟩) HL2.out).trans f2_0
    have n2_1 := (hB21.cell (p := ⟨g3, 1, none⟩) HL2.out).trans f2_1
    have n3_0 := (hB21.cell (p := ⟨g3 + 1, 0, none⟩) HL3.out).trans f3_0
    have n3_1 := (hB21.cell (p := ⟨g3 + 1, 1, none⟩) HL3.out).trans f3_1
    have n4_0 := (hB21.cell (p := ⟨g4, 0, none⟩) HL4.out).trans f4_0
    have n4_1 := (hB21.cell (p := ⟨g4, 1, none⟩) HL4.out).trans f4_1
    have n5_0 := (hB21.cell (p := ⟨g4 + 1, 0, none⟩) HL5.out).trans f5_0
    have n5_1 := (hB21.cell (p := ⟨g4 + 1, 1, none⟩) HL5.out).trans f5_1
    have n6_0 := (hB21.cell (p := ⟨g5, 0, none⟩) HL6.out).trans f6_0
    have n6_1 := (hB21.cell (p := ⟨g5, 1, none⟩) HL6.out).trans f6_1
    clear f0_0 f0_1 f1_0 f1_1 f2_0 f2_1 f3_0 f3_1 f4_0 f4_1 f5_0 f5_1 f6_0 f6_1
    have HX21 := Lib.hid hB21
    have HY21 := Lib.hid hb21.size
    clear hB21 hb21
    go_wp2_with fail
    have HL0 := Lib.hid (Nat.lt_of_lt_of_le HL0.out HX21.out.size)
    have HL1 := Lib.hid (Nat.lt_of_lt_of_le HL1.out HX21.out.size)
    have HL2 := Lib.hid (Nat.lt_of_lt_of_le HL2.out HX21.out.size)
    have HL3 := Lib.hid (Nat.lt_of_lt_of_le HL3.out HX21.out.size)
    have HL4 := Lib.hid (Nat.lt_of_lt_of_le HL4.out HX21.out.size)
    have HL5 := Lib.hid (Nat.lt_of_lt_of_le HL5.out HX21.out.size)
    have HL6 := Lib.hid (Nat.lt_of_lt_of_le HL6.out HX21.out.size)
    have HB := Lib.hid (HB.out.trans (HX21.out.mono HB.out.size))
    clear HX21
    have f0_0 := n0_0
    have f0_1 := n0_1
    have f1_0 := n1_0
    have f1_1 := n1_1
    have f2_0 := n2_0
    have f2_1 := n2_1
    have f3_0 := n3_0
    have f3_1 := n3_1
    have f4_0 := n4_0
    have f4_1 := n4_1
    have f5_0 := n5_0
    have f5_1 := n5_1
    have f6_0 := n6_0
    have f6_1 := n6_1
    clear n0_0 n0_1 n1_0 n1_1 n2_0 n2_1 n3_0 n3_1 n4_0 n4_1 n5_0 n5_1 n6_0 n6_1
    refine (HLV.out _).mono ?_
    rintro e w22 ⟨rfl, hb22⟩
    have hB22 : Below w21.heap.size w21 (w22) := hb22
    have n0_0 := (hB22.cell (p := ⟨w.heap.size, 0, none⟩) HL0.out).trans f0_0
    have n0_1 := (hB22.cell (p := ⟨w.heap.size, 1, none⟩) HL0.out).trans f0_1
    have n1_0 := (hB22.cell (p := ⟨w.heap.size + 1, 0, none⟩) HL1.out).trans f1_0
    have n1_1 := (hB22.cell (p := ⟨w.heap.size + 1, 1, none⟩) HL1.out).trans f1_1
    have n2_0 := (hB22.cell (p := ⟨g3, 0, none⟩) HL2.out).trans f2_0
    have n2_1 := (hB22.cell (p := ⟨g3, 1, none⟩) HL2.out).trans f2_1
    have n3_0 := (hB22.cell (p := ⟨g3 + 1, 0, none⟩) HL3.out).trans f3_0
    have n3_1 := (hB22.cell (p := ⟨g3 + 1, 1, none⟩) HL3.out).trans f3_1
    have n4_0 := (hB22.cell (p := ⟨g4, 0, none⟩) HL4.out).trans f4_0
    have n4_1 := (hB22.cell (p := ⟨g4, 1, none⟩) HL4.out).trans f4_1
    have n5_0 := (hB22.cell (p := ⟨g4 + 1, 0, none⟩) HL5.out).trans f5_0
    have n5_1 := (hB22.cell (p := ⟨g4 + 1, 1, none⟩) HL5.out).trans f5_1
    have n6_0 := (hB22.cell (p := ⟨g5, 0, none⟩) HL6.out).trans f6_0
    have n6_1 := (hB22.cell (p := ⟨g5, 1, none⟩) HL6.out).trans f6_1
    clear f0_0 f0_1 f1_0 f1_1 f2_0 f2_1 f3_0 f3_1 f4_0 f4_1 f5_0 f5_1 f6_0 f6_1
    have HX22 := Lib.hid hB22
    have HY22 := Lib.hid hb22.size
    clear hB22 hb22
    have HL0 := Lib.hid (Nat.lt_of_lt_of_le HL0.out HX22.out.size)
    have HL1 := Lib.hid (Nat.lt_of_lt_of_le HL1.out HX22.out.size)
    have HL2 := Lib.hid (Nat.lt_of_lt_of_le HL2.out HX22.out.size)
    have HL3 := Lib.hid (Nat.lt_of_lt_of_le HL3.out HX22.out.size)
    have HL4 := Lib.hid (Nat.lt_of_lt_of_le HL4.out HX22.out.size)
    have HL5 := Lib.hid (Nat.lt_of_lt_of_le HL5.out HX22.out.size)
    have HL6 := Lib.hid (Nat.lt_of_lt_of_le HL6.out HX22.out.size)
    have HB := Lib.hid (HB.out.trans (HX22.out.mono HB.out.size))
    clear HX22
    have f0_0 := n0_0
    have f0_1 := n0_1
    have f1_0 := n1_0
    have f1_1 := n1_1
    have f2_0 := n2_0
    have f2_1 := n2_1
    have f3_0 := n3_0
    have f3_1 := n3_1
    have f4_0 := n4_0
    have f4_1 := n4_1
    have f5_0 := n5_0
    have f5_1 := n5_1
    have f6_0 := n6_0
    have f6_1 := n6_1
    clear n0_0 n0_1 n1_0 n1_1 n2_0 n2_1 n3_0 n3_1 n4_0 n4_1 n5_0 n5_1 n6_0 n6_1
    go_wp2
    go_ret
    exact ⟨rfl, HB.out⟩

theorem ba_nil {s : ByteArray} (h : s.size = 0) : s = ⟨#[]⟩ := by
  cases s with
  | mk d => exact congrArg ByteArray.mk (Array.eq_empty_of_size_eq_zero h)
theorem quot_c (a b : Bool × ByteArray) (w : World) :
    Calls Tryd.prog 3 #[.agg #[.bool a.1, .string a.2], .agg #[.bool b.1, .string b.2]] w fun e w' => e = .returned (.bool true) ∧ Below w.heap.size w w' := by
  cases hs : (decide (a.2.size ≤ 400) && decide (b.2.size ≤ 400)) with
  | false => exact quot_big _ _ _ _ (small_f a b false hs) w
  | true =>
    have HS := small_f a b true hs
    simp only [Bool.and_eq_true, decide_eq_true_eq] at hs
    obtain ⟨ha, hb⟩ := hs
    have HE := Lib.hid (both_r a.1 a.2 b.1 b.2)
    by_cases h0 : bad2 a.1 a.2 b.1 b.2 = 0
    · have hok := bad2_ok.1 h0
      rw [h0] at HE
      by_cases hz : b.2 = ⟨#[]⟩
      · obtain ⟨bB, bS⟩ := b
        simp only at hz
        subst hz
        have hn : nv (⟨#[]⟩ : ByteArray) = 0 := rfl
        exact quot_z _ _ _ HS HE (Lib.hid fun w => (divw_c a.1 a.2 bB ⟨#[]⟩ (by omega) (by decide) w).mono fun e w' h => ⟨h.2.1 h0 hn, h.2.2.2⟩) w
      · have hsz : 0 < b.2.size := Nat.pos_of_ne_zero fun h => hz (ba_nil h)
        have hp : 0 < nv b.2 := nv_pos hok.2.2.1 hsz
        have hv0 : ival b.1 b.2 ≠ 0 := by unfold ival sgn; split <;> omega
        have hrn : 0 ≤ ival a.1 a.2 % ival b.1 b.2 := Int.emod_nonneg _ hv0
        have hlt : ival a.1 a.2 % ival b.1 b.2 < nv b.2 := by
          have h := Int.emod_lt_of_pos (ival a.1 a.2) hp
          have h2 : ival a.1 a.2 % ival b.1 b.2 = ival a.1 a.2 % nv b.2 := by
            rw [show ival b.1 b.2 = if b.1 then - nv b.2 else nv b.2 from rfl]
            cases b.1
            · rfl
            · exact Int.emod_neg _ _
          rw [h2]
          exact h
        have hpr : pv (ival a.1 a.2 % ival b.1 b.2) = (false, (pv (ival a.1 a.2 % ival b.1 b.2)).2) := by
          have : (pv (ival a.1 a.2 % ival b.1 b.2)).1 = false := decide_eq_false (by omega)
          rw [← this]
        have hsb := size_pow hb
        have hsa := ival_bd (n := a.1) ha
        have hrs : (pv (ival a.1 a.2 % ival b.1 b.2)).2.size ≤ 400 := size_pv (by omega)
        have hqs : (pv (ival a.1 a.2 / ival b.1 b.2)).2.size ≤ 400 := size_pv (by
          have h := Int.natAbs_ediv_le_natAbs (ival a.1 a.2) (ival b.1 b.2)
          omega)
        obtain ⟨rS, hrS⟩ : ∃ s, (pv (ival a.1 a.2 % ival b.1 b.2)).2 = s := ⟨_, rfl⟩
        obtain ⟨q, hq⟩ : ∃ q, pv (ival a.1 a.2 / ival b.1 b.2) = q := ⟨_, rfl⟩
        obtain ⟨rv, hrv⟩ : ∃ v, ival a.1 a.2 % ival b.1 b.2 = v := ⟨_, rfl⟩
        rw [hrS] at hpr hrs
        rw [hq] at hqs
        have hir : ival false rS = rv := by have h := ival_pv (ival a.1 a.2 % ival b.1 b.2); rw [hpr, hrv] at h; exact h
        have hiq : ival q.1 q.2 = ival a.1 a.2 / ival b.1 b.2 := by rw [← hq]; exact ival_pv _
        have H1 : Hid (∀ w, Calls Tryd.prog 13 #[.agg #[.bool a.1, .string a.2], .agg #[.bool b.1, .string b.2]] w fun e w' => e = .returned (.tuple #[.agg #[.bool q.1, .string q.2], .agg #[.bool false, .string rS], .int .i64 0]) ∧ Below w.heap.size w w') :=
          Lib.hid fun w => (divw_c a.1 a.2 b.1 b.2 (by omega) (by omega) w).mono fun e w' h => ⟨by rw [h.2.2.1 h0 (by omega), putV_pv, putV_pv, hq, hpr]; rfl, h.2.2.2⟩
        have R1 : Hid (∀ w, Calls Tryd.prog 14 #[.agg #[.bool a.1, .string a.2], .agg #[.bool b.1, .string b.2]] w fun e w' => e = .returned (.tuple #[.agg #[.bool q.1, .string q.2], .agg #[.bool false, .string rS]]) ∧ Below w.heap.size w w') :=
          Lib.hid fun w => (quo_r a.1 a.2 b.1 b.2 (by omega) (by omega) hp w).mono fun e w' h => ⟨by rw [h.1, hq, hpr], h.2⟩
        have R2 := Lib.hid (times_r q.1 q.2 b.1 b.2 (by omega) (by omega))
        have hps : ((ival q.1 q.2 * ival b.1 b.2).natAbs : Int) < 256 ^ 800 := mul_bd (ival_bd (n := q.1) hqs) (ival_bd (n := b.1) hb) (by omega)
        have R3 : Hid (∀ w, Calls Tryd.prog 15 #[.agg #[.bool (pv (ival q.1 q.2 * ival b.1 b.2)).1, .string (pv (ival q.1 q.2 * ival b.1 b.2)).2], .agg #[.bool false, .string rS]] w fun e w' => e = .returned (.agg #[.bool a.1, .string a.2]) ∧ Below w.heap.size w w') :=
          Lib.hid fun w => (sum_b _ _ _ _ (ival a.1 a.2) (by rw [ival_pv, hir, hiq, ← hrv, Int.mul_comm]; exact Int.mul_ediv_add_emod _ _) (Nat.le_trans (size_pv hps) (by decide)) (by omega) w).mono fun e w' h => ⟨by rw [h.1, pv_ival hok.1], h.2⟩
        have R4 : Hid (∀ w, Calls Tryd.prog 17 #[.agg #[.bool false, .string rS], .agg #[.bool false, .string b.2]] w fun e w' => e = .returned (.int .i64 (-1)) ∧ Below w.heap.size w w') :=
          Lib.hid fun w => (order_r false rS false b.2 (by omega) (by omega) (by have h := okI_pv (v := ival a.1 a.2 % ival b.1 b.2) (by rw [hrS]; omega); rw [hpr] at h; exact h) ⟨hok.2.1, hok.2.2.1, fun h => by cases h⟩ w).mono fun e w' h => ⟨by rw [h.1, hir, show ival false b.2 = nv b.2 from rfl, cmpI_lt (by omega)], h.2⟩
        exact quot_ok _ _ _ _ HS HE _ _ _ _ _ (by have h := (toList_ne hsz).1; cases hl : b.2.toList with | nil => rw [hl] at h; cases h | cons x y => rfl) H1 R1 R2 R3 R4 w
    · exact quot_bad _ _ _ _ HS _ HE (beq_eq_false_iff_ne.mpr h0) (bne_iff_ne.mpr h0) w
#print axioms quot_c
end Go.Proofs.YtimpimnaknkgpaaDoor
