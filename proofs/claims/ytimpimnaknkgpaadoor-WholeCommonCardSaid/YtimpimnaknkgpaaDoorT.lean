import Derived.Test.YtimpimnaknkgpaaDoorS
import Derived.Deep.RegionHeld3
namespace Go.Proofs.YtimpimnaknkgpaaDoor
open Go.RowKit Num
set_option linter.unusedVariables false
set_option linter.unusedSimpArgs false

set_option maxHeartbeats 1000000 in
set_option maxRecDepth 100000 in
theorem cmp_w (n1 : Bool) (s1 : ByteArray) (n2 : Bool) (s2 : ByteArray)  (w : World) :
    Calls Tryd.prog 30 #[.agg #[.bool n1, .string s1], .agg #[.bool n2, .string s2]] w (CmpP n1 s1 n2 s2 w) := by
  obtain ⟨w4, hw4⟩ : ∃ w4, w4 = ((w.alloc (.cells #[.bool n1, .string s1] 24)).alloc (.cells #[.bool n2, .string s2] 24)).alloc (.cells #[.bool n1, .string s1, .bool n2, .string s2] 24) := ⟨_, rfl⟩
  have hb4 : Below w.heap.size w w4 := by rw [hw4]; exact (((Below.refl _ _).alloc (Nat.le_refl _) _).alloc (by simp; try omega) _).alloc (by simp; try omega) _
  have d0 : w4.cell? ⟨w.heap.size + 2, 0, none⟩ = some (.bool n1) := by rw [hw4]; simp [go_sem]
  have d1 : w4.cell? ⟨w.heap.size + 2, 1, none⟩ = some (.string s1) := by rw [hw4]; simp [go_sem]
  have d2 : w4.cell? ⟨w.heap.size + 2, 2, none⟩ = some (.bool n2) := by rw [hw4]; simp [go_sem]
  have d3 : w4.cell? ⟨w.heap.size + 2, 3, none⟩ = some (.string s2) := by rw [hw4]; simp [go_sem]
  have u0 : w4.cell? ⟨w.heap.size, 0, none⟩ = some (.bool n1) := by rw [hw4]; simp [go_sem]
  have u1 : w4.cell? ⟨w.heap.size + 1, 0, none⟩ = some (.bool n2) := by rw [hw4]; simp [go_sem]
  have hsz : w4.heap.size = w.heap.size + 3 := by rw [hw4]; simp
  have hkk : ∀ (w' : World) (h : Below w4.heap.size w4 w'), w'.cell? ⟨w.heap.size, 0, none⟩ = some (.bool n1) ∧ w'.cell? ⟨w.heap.size + 1, 0, none⟩ = some (.bool n2) :=
    fun w' h => ⟨(h.cell (by simp [hsz]; try omega)).trans u0, (h.cell (by simp [hsz]; try omega)).trans u1⟩
  have HW := Lib.hid hw4
  have HS := Lib.hid hb4
  have HSZ := Lib.hid hsz
  have HK := Lib.hid hkk
  unfold CmpP
  by_cases hb : bad2 n1 s1 n2 s2 = 0
  · obtain ⟨o1, o2⟩ := bad2_ok.1 hb
    rw [hb]
    have HC := Lib.hid (read2_c n1 s1 n2 s2 _ 2 w4 d0 d1 d2 d3 o1 o2)
    have OO := Lib.hid (And.intro (And.intro o1.2.1 o1.2.2) o2.2)
    clear d0 d1 d2 d3 u0 u1 hsz hkk hb4 hw4 hb o1 o2 
    go_enter Tryd.func30, Tryd.ntmps30
    go_wp2_with fail
    rw [← HW.out]
    refine (HC.out).mono ?_
    rintro e w' ⟨g, c, g1, k1, r1, g2, k2, r2, rfl, hg, hc, N1, N2, hbr⟩
    have c0 := N1.c0
    have c1 := N1.c1
    have c2 := N2.c0
    have c3 := N2.c1
    obtain ⟨e0, e1⟩ := HK.out _ hbr
    have hg2 : g < w'.heap.size := World.block_lt_of_cell? w' _ c0
    have HR := Lib.hid (HS.out.trans (hbr.mono (by rw [HSZ.out]; omega)))
    have HL := Lib.hid (show w.heap.size + 2 < w'.heap.size by have := hbr.size; rw [HSZ.out] at this; omega)
    have hsc := fun (w5 : World) (h5 : w5.heap = w'.heap) => lcmp_c (some ⟨g1, 0, none⟩) (some ⟨g2, 0, none⟩) k1 k2 k1 k2 r1 r2 N1.len N2.len N1.le N2.le (Nat.le_refl _) (Nat.le_refl _) w5 (N1.row.heap h5) (N2.row.heap h5) N1.lim N2.lim
    rw [N1.val, N2.val] at hsc
    have HC := Lib.hid hsc
    clear hsc hg hbr N1 N2
    go_wp2
    go_region_held3 (fun w' => w'.cell? ⟨g, 1, none⟩ = some (.slice (some ⟨g1, 0, none⟩) k1 k1) ∧ w'.cell? ⟨g, 3, none⟩ = some (.slice (some ⟨g2, 0, none⟩) k2 k2)) (first | go_keep | exact ⟨z1, z3⟩) (first | (go_at_call 51; refine (HC.out _ (by rfl)).mono ?_; rintro e w2 ⟨rfl, hbr⟩; have z1 := (hbr.cell (p := ⟨g, 1, none⟩) hg2).trans c1; have z3 := (hbr.cell (p := ⟨g, 3, none⟩) hg2).trans c3; have p0 := (hbr.cell (p := ⟨w.heap.size, 0, none⟩) (Nat.lt_of_le_of_lt (Nat.le_add_right _ 2) HL.out)).trans e0; have p1 := (hbr.cell (p := ⟨w.heap.size + 1, 0, none⟩) (Nat.lt_of_le_of_lt (Nat.le_add_right _ 1) HL.out)).trans e1; have HB2 := bel_join HR.out hbr HR.out.size rfl rfl rfl rfl; clear hbr))
    clear z1 z3 c0 c1 c2 c3 e0 e1
    have h01 := cmpI_cases (nv s1) (nv s2)
    obtain ⟨cc, hcc⟩ : ∃ cc, cmpI (nv s1) (nv s2) = cc := ⟨_, rfl⟩
    rw [hcc] at h01 ⊢
    have HCC := Lib.hid hcc
    have hw : IntKind.i64.wrap (-cc) = -cc := IntWalk.i64_in _ (by omega)
    clear hcc h01
    have HB := Lib.hid HB2
    clear HB2
    cases n1 <;> cases n2
    · go_wp2; go_ret2; exact ⟨fun h => absurd rfl h, fun _ => by rw [← HCC.out]; rfl, HB.out⟩
    · have hq : cmpI (ival false s1) (ival true s2) = 1 := cmpI_gt (by have h1 := (nv_bd s1).1; have h2 := nv_pos OO.out.2.1 (OO.out.2.2 rfl); simp [ival, sgn]; omega)
      have HQ := Lib.hid hq
      clear hq
      go_wp2; go_ret2; exact ⟨by rw [HQ.out]; rfl, HB.out⟩
    · have hq : cmpI (ival true s1) (ival false s2) = -1 := cmpI_lt (by have h1 := (nv_bd s2).1; have h2 := nv_pos OO.out.1.1 (OO.out.1.2 rfl); simp [ival, sgn]; omega)
      have HQ := Lib.hid hq
      clear hq
      go_wp2; go_ret2; exact ⟨by rw [HQ.out]; rfl, HB.out⟩
    · have hq : cmpI (ival true s1) (ival true s2) = -cc := by rw [← HCC.out]; exact cmpI_neg _ _
      have HQ := Lib.hid hq
      clear hq
      go_wp2; go_ret2; exact ⟨by rw [HQ.out]; rfl, HB.out⟩
  · have HC := Lib.hid (read2_bad n1 s1 n2 s2 _ 2 w4 d0 d1 d2 d3 hb)
    have hz1 : (bad2 n1 s1 n2 s2 == 0) = false := beq_eq_false_iff_ne.mpr hb
    have hz2 : (bad2 n1 s1 n2 s2 != 0) = true := bne_iff_ne.mpr hb
    have HN := Lib.hid hb
    clear d0 d1 d2 d3 u0 u1 hsz hkk hb4 hw4 hb 
    go_enter Tryd.func30, Tryd.ntmps30
    go_wp2_with fail
    rw [← HW.out]
    refine (HC.out).mono ?_
    rintro e w' ⟨rfl, hbr⟩
    obtain ⟨e0, e1⟩ := HK.out _ hbr
    have HR := Lib.hid (HS.out.trans (hbr.mono (by rw [HSZ.out]; omega)))
    clear hbr
    go_wp2
    go_ret2
    exact ⟨fun _ => rfl, fun h => absurd h HN.out, HR.out⟩
end Go.Proofs.YtimpimnaknkgpaaDoor
