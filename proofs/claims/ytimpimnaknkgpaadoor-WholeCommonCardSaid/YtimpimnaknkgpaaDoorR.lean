import Derived.Test.YtimpimnaknkgpaaDoorQ
import Derived.Deep.RegionHeld3
namespace Go.Proofs.YtimpimnaknkgpaaDoor
open Go.RowKit Num
set_option linter.unusedVariables false
set_option linter.unusedSimpArgs false

theorem set_far {w : World} {g i j : Nat} {u : Value} {v : Option Value} (h : i ≠ j) (hc : w.cell? ⟨g, j, none⟩ = v) : (w.setCell ⟨g, i, none⟩ u).cell? ⟨g, j, none⟩ = v :=
  (World.cell?_setCell_other (w := w) (a := ⟨g, i, none⟩) (b := ⟨g, j, none⟩) (v := u) (by simp [h])).trans hc
theorem ival_neg (n : Bool) (s : ByteArray) : sgn (!n) (nv s) = - ival n s := by cases n <;> simp [ival, sgn]
theorem sub_small {n1 n2 : Bool} {s1 s2 : ByteArray} (h1 : s1.size ≤ 15000) (h2 : s2.size ≤ 15000) : Fits (ival n1 s1 - ival n2 s2) := by
  have := add_small (n1 := n1) (n2 := !n2) h1 h2
  rw [show ival (!n2) s2 = - ival n2 s2 from ival_neg n2 s2, ← Int.sub_eq_add_neg] at this
  exact this

set_option maxHeartbeats 1000000 in
set_option maxRecDepth 100000 in
theorem sub_w (n1 : Bool) (s1 : ByteArray) (n2 : Bool) (s2 : ByteArray) (h1 : s1.size ≤ 15000) (h2 : s2.size ≤ 15000) (w : World) :
    Calls Tryd.prog 29 #[.agg #[.bool n1, .string s1], .agg #[.bool n2, .string s2]] w (BinP (· - ·) n1 s1 n2 s2 w) := by
  obtain ⟨w4, hw4⟩ : ∃ w4, w4 = (((w.alloc (.cells #[.bool n1, .string s1] 24)).alloc (.cells #[.bool n2, .string s2] 24)).alloc (.cells #[.bool false, .string ⟨#[]⟩] 24)).alloc (.cells #[.bool n1, .string s1, .bool n2, .string s2] 24) := ⟨_, rfl⟩
  have hb4 : Below w.heap.size w w4 := by rw [hw4]; exact ((((Below.refl _ _).alloc (Nat.le_refl _) _).alloc (by simp; try omega) _).alloc (by simp; try omega) _).alloc (by simp; try omega) _
  have d0 : w4.cell? ⟨w.heap.size + 3, 0, none⟩ = some (.bool n1) := by rw [hw4]; simp [go_sem]
  have d1 : w4.cell? ⟨w.heap.size + 3, 1, none⟩ = some (.string s1) := by rw [hw4]; simp [go_sem]
  have d2 : w4.cell? ⟨w.heap.size + 3, 2, none⟩ = some (.bool n2) := by rw [hw4]; simp [go_sem]
  have d3 : w4.cell? ⟨w.heap.size + 3, 3, none⟩ = some (.string s2) := by rw [hw4]; simp [go_sem]
  have u0 : w4.cell? ⟨w.heap.size, 0, none⟩ = some (.bool n1) := by rw [hw4]; simp [go_sem]
  have u1 : w4.cell? ⟨w.heap.size + 1, 0, none⟩ = some (.bool n2) := by rw [hw4]; simp [go_sem]
  have u2 : w4.cell? ⟨w.heap.size + 2, 0, none⟩ = some (.bool false) := by rw [hw4]; simp [go_sem]
  have u3 : w4.cell? ⟨w.heap.size + 2, 1, none⟩ = some (.string ⟨#[]⟩) := by rw [hw4]; simp [go_sem]
  have u4 : w4.frozen? ⟨w.heap.size + 2, 0, none⟩ = false := by rw [hw4]; simp [go_sem]
  have u5 : w4.frozen? ⟨w.heap.size + 2, 1, none⟩ = false := by rw [hw4]; simp [go_sem]
  have hsz : w4.heap.size = w.heap.size + 4 := by rw [hw4]; simp
  have hkk : ∀ (w' : World) (h : Below w4.heap.size w4 w'), w'.cell? ⟨w.heap.size, 0, none⟩ = some (.bool n1) ∧ w'.cell? ⟨w.heap.size + 1, 0, none⟩ = some (.bool n2) ∧ w'.cell? ⟨w.heap.size + 2, 0, none⟩ = some (.bool false) ∧ w'.cell? ⟨w.heap.size + 2, 1, none⟩ = some (.string ⟨#[]⟩) ∧ w'.frozen? ⟨w.heap.size + 2, 0, none⟩ = false ∧ w'.frozen? ⟨w.heap.size + 2, 1, none⟩ = false :=
    fun w' h => ⟨(h.cell (by simp [hsz]; try omega)).trans u0, (h.cell (by simp [hsz]; try omega)).trans u1, (h.cell (by simp [hsz]; try omega)).trans u2, (h.cell (by simp [hsz]; try omega)).trans u3, (h.frozen (by simp [hsz]; try omega)).trans u4, (h.frozen (by simp [hsz]; try omega)).trans u5⟩
  have HW := Lib.hid hw4
  have HS := Lib.hid hb4
  have HSZ := Lib.hid hsz
  have HK := Lib.hid hkk
  unfold BinP
  by_cases hb : bad2 n1 s1 n2 s2 = 0
  · obtain ⟨o1, o2⟩ := bad2_ok.1 hb
    rw [hb]
    have HC := Lib.hid (read2_c n1 s1 n2 s2 _ 2 w4 d0 d1 d2 d3 o1 o2)
    have HV := Lib.hid (sub_small (n1 := n1) (n2 := n2) h1 h2)
    clear d0 d1 d2 d3 u0 u1 u2 u3 u4 u5 hsz hkk hb4 hw4 hb o1 o2 h1 h2
    go_enter Tryd.func29, Tryd.ntmps29
    go_wp2_with fail
    rw [← HW.out]
    refine (HC.out).mono ?_
    rintro e w' ⟨g, c, g1, k1, r1, g2, k2, r2, rfl, hg, hc, N1, N2, hbr⟩
    have c0 := N1.c0
    have c1 := N1.c1
    have c2 := N2.c0
    have c3 := N2.c1
    obtain ⟨e0, e1, e2, e3, e4, e5⟩ := HK.out _ hbr
    have hg2 : g < w'.heap.size := World.block_lt_of_cell? w' _ c0
    have HR := Lib.hid (HS.out.trans (hbr.mono (by rw [HSZ.out]; omega)))
    have HL := Lib.hid (show w.heap.size + 2 < w'.heap.size by have := hbr.size; rw [HSZ.out] at this; omega)
    have x1 := N1.row.setO c2 (by simp) (.bool (!n2))
    have x2 := N2.row.setO c2 (by simp) (.bool (!n2))
    obtain ⟨w6, hw6⟩ : ∃ w6, w6 = w'.setCell ⟨g, 2, none⟩ (.bool (!n2)) := ⟨_, rfl⟩
    rw [← hw6] at x1 x2
    have hsc := fun (w5 : World) (h5 : w5.heap = w6.heap) => sum_c n1 (!n2) (some ⟨g1, 0, none⟩) (some ⟨g2, 0, none⟩) k1 k2 k1 k2 r1 r2 N1.len N2.len N1.le N2.le (Nat.le_refl _) (Nat.le_refl _) w5 (x1.heap h5) (x2.heap h5) N1.lim N2.lim
    rw [N1.val, N2.val, ival_eq, ival_neg, ← Int.sub_eq_add_neg] at hsc
    have HC := Lib.hid hsc
    have hne : ¬ g = w.heap.size + 1 + 1 := by have h1 := HSZ.out; omega
    have hne2 : ¬ w.heap.size + 2 = g := by omega
    have f0 := N2.f0
    have H6 := Lib.hid hw6
    have b0 : w6.cell? ⟨g, 0, none⟩ = some (.bool n1) := by rw [hw6]; exact set_far (by omega) c0
    have b1 : w6.cell? ⟨g, 1, none⟩ = some (.slice (some ⟨g1, 0, none⟩) k1 k1) := by rw [hw6]; exact set_far (by omega) c1
    have b2 : w6.cell? ⟨g, 2, none⟩ = some (.bool (!n2)) := by rw [hw6]; exact World.cell?_setCell_same' _ _ _ (by rw [c2]; rfl)
    have b3 : w6.cell? ⟨g, 3, none⟩ = some (.slice (some ⟨g2, 0, none⟩) k2 k2) := by rw [hw6]; exact set_far (by omega) c3
    have a2 : w6.cell? ⟨w.heap.size + 2, 0, none⟩ = some (.bool false) := by rw [hw6]; exact (cell_far _ _ _ _ _ _ hne2).trans e2
    have a3 : w6.cell? ⟨w.heap.size + 2, 1, none⟩ = some (.string ⟨#[]⟩) := by rw [hw6]; exact (cell_far _ _ _ _ _ _ hne2).trans e3
    have a4 : w6.frozen? ⟨w.heap.size + 2, 0, none⟩ = false := by rw [hw6]; simp only [World.frozen?_setCell]; exact e4
    have a5 : w6.frozen? ⟨w.heap.size + 2, 1, none⟩ = false := by rw [hw6]; simp only [World.frozen?_setCell]; exact e5
    have hr6 : Below w.heap.size w w6 := by rw [hw6]; exact HR.out.setCell (by have := HSZ.out; simp; omega) _
    have hl6 : w.heap.size + 2 < w6.heap.size := by rw [hw6]; simpa using HL.out
    have hg6 : g < w6.heap.size := by rw [hw6]; simpa using hg2
    clear hsc hg hbr N1 N2 hw6 x1 x2 hne2 HR HL hg2
    have HR := Lib.hid hr6
    have HL := Lib.hid hl6
    have hg2 := hg6
    clear hr6 hl6 hg6
    go_wp2
    rw [← H6.out]
    clear c0 c1 c2 c3 e2 e3 e4 e5 f0
    have c0 := b0
    have c1 := b1
    have c2 := b2
    have c3 := b3
    have e2 := a2
    have e3 := a3
    have e4 := a4
    have e5 := a5
    clear b0 b1 b2 b3 a2 a3 a4 a5
    go_region_held3 (fun w' => w'.cell? ⟨g, 0, none⟩ = some (.bool n1) ∧ w'.cell? ⟨g, 1, none⟩ = some (.slice (some ⟨g1, 0, none⟩) k1 k1) ∧ w'.cell? ⟨g, 2, none⟩ = some (.bool (!n2)) ∧ w'.cell? ⟨g, 3, none⟩ = some (.slice (some ⟨g2, 0, none⟩) k2 k2)) (first | go_keep | exact ⟨y0, y1, y2, y3⟩ | exact ⟨(cell_far _ _ _ _ _ _ hne).trans ((cell_far _ _ _ _ _ _ hne).trans y0), (cell_far _ _ _ _ _ _ hne).trans ((cell_far _ _ _ _ _ _ hne).trans y1), (cell_far _ _ _ _ _ _ hne).trans ((cell_far _ _ _ _ _ _ hne).trans y2), (cell_far _ _ _ _ _ _ hne).trans ((cell_far _ _ _ _ _ _ hne).trans y3)⟩ | exact ⟨z0, z1, z2, z3⟩) (first | (go_at_call 34; refine (HC.out _ (by rfl)).mono ?_; rintro e w2 ⟨n, x, r, rfl, hr, hlr, htr, hvr, hbr⟩; obtain ⟨A, cc, rfl, hrc, hrl⟩ := hr; have z0 := (hbr.cell (p := ⟨g, 0, none⟩) hg2).trans c0; have z1 := (hbr.cell (p := ⟨g, 1, none⟩) hg2).trans c1; have z2 := (hbr.cell (p := ⟨g, 2, none⟩) hg2).trans c2; have z3 := (hbr.cell (p := ⟨g, 3, none⟩) hg2).trans c3; have p0 := (hbr.cell (p := ⟨w.heap.size + 2, 0, none⟩) HL.out).trans e2; have p1 := (hbr.cell (p := ⟨w.heap.size + 2, 1, none⟩) HL.out).trans e3; have p2 := (hbr.frozen (p := ⟨w.heap.size + 2, 0, none⟩) HL.out).trans e4; have p3 := (hbr.frozen (p := ⟨w.heap.size + 2, 1, none⟩) HL.out).trans e5; have HB2 := bel_join HR.out hbr HR.out.size rfl rfl rfl rfl; have hg3 := Nat.lt_of_lt_of_le hg2 hbr.size; have hl3 := Nat.lt_of_lt_of_le HL.out hbr.size; clear hbr) | (go_at_call 35; refine (told_c _ _ _ _ r rfl (short_row hlr htr hvr HV.out) hrc _ (by exact hrl) hlr).mono ?_; rintro e w3 ⟨rfl, hbt⟩; have y0 := (hbt.cell (p := ⟨g, 0, none⟩) hg3).trans z0; have y1 := (hbt.cell (p := ⟨g, 1, none⟩) hg3).trans z1; have y2 := (hbt.cell (p := ⟨g, 2, none⟩) hg3).trans z2; have y3 := (hbt.cell (p := ⟨g, 3, none⟩) hg3).trans z3; have q0 := (hbt.cell (p := ⟨w.heap.size + 2, 0, none⟩) hl3).trans p0; have q1 := (hbt.cell (p := ⟨w.heap.size + 2, 1, none⟩) hl3).trans p1; have q2 := (hbt.frozen (p := ⟨w.heap.size + 2, 0, none⟩) hl3).trans p2; have q3 := (hbt.frozen (p := ⟨w.heap.size + 2, 1, none⟩) hl3).trans p3; have HB3 := bel_join HB2 hbt HB2.size rfl rfl rfl rfl; clear hbt))
    go_wp2
    refine bodyPost_ret (by simp [results, Tryd.results29, go_sem, q0, q1]; try rfl) rfl ?_
    exact ⟨fun h => absurd rfl h, fun _ => by rw [lv_abs hlr hvr]; rfl, (HB3.setCell (by simp; try omega) _).setCell (by simp; try omega) _⟩
  · have HC := Lib.hid (read2_bad n1 s1 n2 s2 _ 2 w4 d0 d1 d2 d3 hb)
    have hz1 : (bad2 n1 s1 n2 s2 == 0) = false := beq_eq_false_iff_ne.mpr hb
    have hz2 : (bad2 n1 s1 n2 s2 != 0) = true := bne_iff_ne.mpr hb
    have HN := Lib.hid hb
    clear d0 d1 d2 d3 u0 u1 u2 u3 u4 u5 hsz hkk hb4 hw4 hb h1 h2
    go_enter Tryd.func29, Tryd.ntmps29
    go_wp2_with fail
    rw [← HW.out]
    refine (HC.out).mono ?_
    rintro e w' ⟨rfl, hbr⟩
    obtain ⟨e0, e1, e2, e3, e4, e5⟩ := HK.out _ hbr
    have HR := Lib.hid (HS.out.trans (hbr.mono (by rw [HSZ.out]; omega)))
    clear hbr
    go_wp2
    refine bodyPost_ret (by simp [results, Tryd.results29, go_sem, e0, e1, e2, e3, e4, e5]; try rfl) rfl ?_
    exact ⟨fun _ => rfl, fun h => absurd h HN.out, (HR.out.setCell (by simp; try omega) _).setCell (by simp; try omega) _⟩
end Go.Proofs.YtimpimnaknkgpaaDoor
