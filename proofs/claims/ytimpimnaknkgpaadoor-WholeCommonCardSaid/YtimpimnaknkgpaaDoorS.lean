import Derived.Test.YtimpimnaknkgpaaDoorR
import Derived.Deep.RegionHeld3
namespace Go.Proofs.YtimpimnaknkgpaaDoor
open Go.RowKit Num
set_option linter.unusedVariables false
set_option linter.unusedSimpArgs false

theorem sgn_mul (n1 n2 : Bool) (x y : Int) : sgn (n1 != n2) (x * y) = sgn n1 x * sgn n2 y := by
  cases n1 <;> cases n2 <;> simp [sgn, Int.neg_mul, Int.mul_neg]
theorem nv_pos {s : ByteArray} (h : Canon s) (h0 : 0 < s.size) : 0 < nv s := by
  have h1 := (nv_bd s).1
  apply Decidable.byContradiction
  intro hn
  have hz : nv s = 0 := by omega
  have : s = encN 0 := canon_uniq h (canon_encN 0 (by omega)) (by rw [hz, nv_encN (by omega)])
  have h2 := encN_size 0
  rw [← this, nb_zero] at h2
  omega
theorem cmpI_neg (a b : Int) : cmpI (-a) (-b) = - cmpI a b := by
  unfold cmpI
  split <;> split <;> (try split) <;> (try split) <;> omega
def CmpP (n1 : Bool) (s1 : ByteArray) (n2 : Bool) (s2 : ByteArray) (w : World) (e : Ending) (w' : World) : Prop :=
  (bad2 n1 s1 n2 s2 ≠ 0 → e = .returned (.tuple #[.int .i64 0, .int .i64 (bad2 n1 s1 n2 s2)])) ∧
  (bad2 n1 s1 n2 s2 = 0 → e = .returned (.tuple #[.int .i64 (cmpI (ival n1 s1) (ival n2 s2)), .int .i64 0])) ∧ Below w.heap.size w w'

set_option maxHeartbeats 1000000 in
set_option maxRecDepth 100000 in
theorem mul_w (n1 : Bool) (s1 : ByteArray) (n2 : Bool) (s2 : ByteArray) (h1 : s1.size ≤ 15000) (h2 : s2.size ≤ 15000) (w : World) :
    Calls Tryd.prog 28 #[.agg #[.bool n1, .string s1], .agg #[.bool n2, .string s2]] w (BinP (· * ·) n1 s1 n2 s2 w) := by
  obtain ⟨w4, hw4⟩ : ∃ w4, w4 = (((w.alloc (.cells #[.bool n1, .string s1] 24)).alloc (.cells #[.bool n2, .string s2] 24)).alloc (.cells #[.bool false, .string ⟨#[]⟩] 24)).alloc (.cells #[.bool n1, .string s1, .bool n2, .string s2] 24) := ⟨_, rfl⟩
  have hb4 : Below w.heap.size w w4 := by rw [hw4]; exact ((((Below.refl _ _).alloc (Nat.le_refl _) _).alloc (by simp; try omega) _).alloc (by simp; try omega) _).alloc (by simp; try omega) _
  have d0 : w4.cell? ⟨w.heap.size + 3, 0, none⟩ = some (.bool n1) := by rw [hw4]; simp [go_sem]
  have d1 : w4.cell? ⟨w.heap.size + 3, 1, none⟩ = some (.string s1) := by rw [hw4]; simp [go_sem]
  have d2 : w4.cell? ⟨w.heap.size + 3, 2, none⟩ = some (.bool n2) := by rw [hw4]; simp [go_sem]
  have d3 : w4.cell? ⟨w.heap.size + 3, 3, none⟩ = some (.string s2) := by rw [hw4]; simp [go_sem]
  have u0 : w4.cell? ⟨w.heap.size, 0, none⟩ = some (.bool n1) := by rw [hw4]; simp [go_sem]
  have u1 : w4.cell? ⟨w.heap.size + 1, 0, none⟩ = some (.bool n2) := by rw [hw4]; simp [go_sem]
  have u2 : w4.cell? ⟨w.heap.size + 2, 0, none⟩ = some (.bool false) := by rw [hw4]; simp [go_sem]
  have u3 : w4.cell? ⟨w.heap.size + 2, 1, none⟩ = some (.string ⟨#[]⟩) := by rw [hw4]; simp [go_sem]
  have u4 : w4.frozen? ⟨w.heap.size + 2, 0, none⟩ = false := by rw [hw4]; simp [go_sem]
  have u5 : w4.frozen? ⟨w.heap.size + 2, 1, none⟩ = false := by rw [hw4]; simp [go_sem]
  have hsz : w4.heap.size = w.heap.size + 4 := by rw [hw4]; simp
  have hkk : ∀ (w' : World) (h : Below w4.heap.size w4 w'), w'.cell? ⟨w.heap.size, 0, none⟩ = some (.bool n1) ∧ w'.cell? ⟨w.heap.size + 1, 0, none⟩ = some (.bool n2) ∧ w'.cell? ⟨w.heap.size + 2, 0, none⟩ = some (.bool false) ∧ w'.cell? ⟨w.heap.size + 2, 1, none⟩ = some (.string ⟨#[]⟩) ∧ w'.frozen? ⟨w.heap.size + 2, 0, none⟩ = false ∧ w'.frozen? ⟨w.heap.size + 2, 1, none⟩ = false :=
    fun w' h => ⟨(h.cell (by simp [hsz]; try omega)).trans u0, (h.cell (by simp [hsz]; try omega)).trans u1, (h.cell (by simp [hsz]; try omega)).trans u2, (h.cell (by simp [hsz]; try omega)).trans u3, (h.frozen (by simp [hsz]; try omega)).trans u4, (h.frozen (by simp [hsz]; try omega)).trans u5⟩
  have HW := Lib.hid hw4
  have HS := Lib.hid hb4
  have HSZ := Lib.hid hsz
  have HK := Lib.hid hkk
  unfold BinP
  by_cases hb : bad2 n1 s1 n2 s2 = 0
  · obtain ⟨o1, o2⟩ := bad2_ok.1 hb
    rw [hb]
    have HC := Lib.hid (read2_c n1 s1 n2 s2 _ 2 w4 d0 d1 d2 d3 o1 o2)
    have HV := Lib.hid (mul_small (n1 := n1) (n2 := n2) h1 h2)
    clear d0 d1 d2 d3 u0 u1 u2 u3 u4 u5 hsz hkk hb4 hw4 hb o1 o2 h1 h2
    go_enter Tryd.func28, Tryd.ntmps28
    go_wp2_with fail
    rw [← HW.out]
    refine (HC.out).mono ?_
    rintro e w' ⟨g, c, g1, k1, r1, g2, k2, r2, rfl, hg, hc, N1, N2, hbr⟩
    have c0 := N1.c0
    have c1 := N1.c1
    have c2 := N2.c0
    have c3 := N2.c1
    obtain ⟨e0, e1, e2, e3, e4, e5⟩ := HK.out _ hbr
    have hg2 : g < w'.heap.size := World.block_lt_of_cell? w' _ c0
    have HR := Lib.hid (HS.out.trans (hbr.mono (by rw [HSZ.out]; omega)))
    have HL := Lib.hid (show w.heap.size + 2 < w'.heap.size by have := hbr.size; rw [HSZ.out] at this; omega)
    have hsc := fun (w5 : World) (h5 : w5.heap = w'.heap) => mul_c (some ⟨g1, 0, none⟩) (some ⟨g2, 0, none⟩) k1 k2 k1 k2 r1 r2 N1.len N2.len N1.le N2.le w5 (N1.row.heap h5) (N2.row.heap h5) N1.lim N2.lim
    rw [N1.val, N2.val] at hsc
    have HC := Lib.hid hsc
    clear hsc hg hbr N1 N2
    go_wp2
    go_region_held3 (fun w' => w'.cell? ⟨g, 1, none⟩ = some (.slice (some ⟨g1, 0, none⟩) k1 k1) ∧ w'.cell? ⟨g, 3, none⟩ = some (.slice (some ⟨g2, 0, none⟩) k2 k2)) (first | go_keep | exact ⟨z1, z3⟩) (first | (go_at_call 46; refine (HC.out _ (by rfl)).mono ?_; rintro e w2 ⟨x, r, rfl, hr, hlr, htr, hvr, hbr⟩; obtain ⟨A, cc, rfl, hrc, hrl⟩ := hr; have z1 := (hbr.cell (p := ⟨g, 1, none⟩) hg2).trans c1; have z3 := (hbr.cell (p := ⟨g, 3, none⟩) hg2).trans c3; have p0 := (hbr.cell (p := ⟨w.heap.size, 0, none⟩) (Nat.lt_of_le_of_lt (Nat.le_add_right _ 2) HL.out)).trans e0; have p1 := (hbr.cell (p := ⟨w.heap.size + 1, 0, none⟩) (Nat.lt_of_le_of_lt (Nat.le_add_right _ 1) HL.out)).trans e1; have p2 := (hbr.cell (p := ⟨w.heap.size + 2, 0, none⟩) HL.out).trans e2; have p3 := (hbr.cell (p := ⟨w.heap.size + 2, 1, none⟩) HL.out).trans e3; have p4 := (hbr.frozen (p := ⟨w.heap.size + 2, 0, none⟩) HL.out).trans e4; have p5 := (hbr.frozen (p := ⟨w.heap.size + 2, 1, none⟩) HL.out).trans e5; have HB2 := bel_join HR.out hbr HR.out.size rfl rfl rfl rfl; have hl3 := Nat.lt_of_lt_of_le HL.out hbr.size; clear hbr))
    have hsv : sgn (n1 != n2) (lv r) = ival n1 s1 * ival n2 s2 := by rw [hvr]; exact sgn_mul _ _ _ _
    have HT := Lib.hid (told_c (n1 != n2) A r.length cc r rfl (short_row hlr htr hsv HV.out) hrc _ hrl hlr)
    have HSV := Lib.hid (And.intro hlr hsv)
    clear hvr hsv hlr htr hrl z1 z3 c0 c1 c2 c3 e0 e1 e2 e3 e4 e5
    go_wp2_with fail
    refine (HT.out).mono ?_
    rintro e w3 ⟨rfl, hbt⟩
    have q0 := (hbt.cell (p := ⟨w.heap.size + 2, 0, none⟩) hl3).trans p2
    have q1 := (hbt.cell (p := ⟨w.heap.size + 2, 1, none⟩) hl3).trans p3
    have q2 := (hbt.frozen (p := ⟨w.heap.size + 2, 0, none⟩) hl3).trans p4
    have q3 := (hbt.frozen (p := ⟨w.heap.size + 2, 1, none⟩) hl3).trans p5
    have HB3 := Lib.hid (bel_join HB2 hbt HB2.size rfl rfl rfl rfl)
    clear hbt HB2
    go_wp2
    refine bodyPost_ret (by simp [results, Tryd.results28, go_sem, q0, q1]; try rfl) rfl ?_
    exact ⟨fun h => absurd rfl h, fun _ => by rw [HSV.out.2, lv_abs HSV.out.1 HSV.out.2]; rfl, (HB3.out.setCell (by simp; try omega) _).setCell (by simp; try omega) _⟩
  · have HC := Lib.hid (read2_bad n1 s1 n2 s2 _ 2 w4 d0 d1 d2 d3 hb)
    have hz1 : (bad2 n1 s1 n2 s2 == 0) = false := beq_eq_false_iff_ne.mpr hb
    have hz2 : (bad2 n1 s1 n2 s2 != 0) = true := bne_iff_ne.mpr hb
    have HN := Lib.hid hb
    clear d0 d1 d2 d3 u0 u1 u2 u3 u4 u5 hsz hkk hb4 hw4 hb h1 h2
    go_enter Tryd.func28, Tryd.ntmps28
    go_wp2_with fail
    rw [← HW.out]
    refine (HC.out).mono ?_
    rintro e w' ⟨rfl, hbr⟩
    obtain ⟨e0, e1, e2, e3, e4, e5⟩ := HK.out _ hbr
    have HR := Lib.hid (HS.out.trans (hbr.mono (by rw [HSZ.out]; omega)))
    clear hbr
    go_wp2
    refine bodyPost_ret (by simp [results, Tryd.results28, go_sem, e0, e1, e2, e3, e4, e5]; try rfl) rfl ?_
    exact ⟨fun _ => rfl, fun h => absurd h HN.out, (HR.out.setCell (by simp; try omega) _).setCell (by simp; try omega) _⟩
end Go.Proofs.YtimpimnaknkgpaaDoor
