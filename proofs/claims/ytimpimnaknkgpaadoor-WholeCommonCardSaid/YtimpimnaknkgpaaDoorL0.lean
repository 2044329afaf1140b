import Derived.Test.YtimpimnaknkgpaaDoorR4
import Derived.Test.YtimpimnaknkgpaaDoorZc
namespace Go.Proofs.YtimpimnaknkgpaaDoor
open Go.RowKit Num
set_option linter.unusedVariables false
set_option linter.unusedSimpArgs false

/-- A whole number's sign and magnitude. -/
def pv (v : Int) : Bool × ByteArray := (decide (v < 0), encN (v.natAbs : Int))
def ag (x : Bool × ByteArray) : Value := .agg #[.bool x.1, .string x.2]
theorem putV_pv (v : Int) : putV v = ag (pv v) := rfl
theorem nb_le {v : Int} {k : Nat} (h : v < 256 ^ k) (h0 : 0 ≤ v) : nb v ≤ k := by
  rcases (show v = 0 ∨ 0 < v by omega) with h1 | h1
  · rw [h1, nb_zero]; exact Nat.zero_le _
  · obtain ⟨h2, h3, h4⟩ := nb_spec h1
    refine Nat.le_of_not_lt fun h5 => ?_
    have := Ymono (show k ≤ nb v - 1 by omega)
    omega
theorem size_pv {v : Int} {k : Nat} (h : (v.natAbs : Int) < 256 ^ k) : (pv v).2.size ≤ k := by
  show (encN _).size ≤ k
  rw [encN_size]
  exact nb_le h (by omega)
theorem ival_pv (v : Int) : ival (pv v).1 (pv v).2 = v := by
  unfold ival pv sgn
  rw [nv_encN (by omega)]
  by_cases h : v < 0
  · rw [if_pos (by simpa using h)]; omega
  · rw [if_neg (by simpa using h)]; omega
theorem okI_pv {v : Int} (h : (pv v).2.size ≤ 32000) : okI (pv v).1 (pv v).2 := by
  refine ⟨h, canon_encN _ (by omega), fun hn => ?_⟩
  have hn : v < 0 := by simpa [pv] using hn
  show 0 < (encN _).size
  rw [encN_size]
  have := (nb_spec (v := (v.natAbs : Int)) (by omega)).2.2
  omega
theorem pv_ival {n : Bool} {s : ByteArray} (h : okI n s) : pv (ival n s) = (n, s) := by
  have h0 := (nv_bd s).1
  unfold pv ival
  have e : ((sgn n (nv s)).natAbs : Int) = nv s := sgn_abs h0
  rw [e, encN_nv h.2.1]
  cases n with
  | false => simp [sgn]; omega
  | true =>
    have h1 := h.2.2 rfl
    have h2 : nv s ≠ 0 := by
      intro hz
      have := size_of_canon h.2.1
      rw [hz, nb_zero] at this
      omega
    simp [sgn]
    omega
theorem pv_inj {a b : Int} (h : pv a = pv b) : a = b := by rw [← ival_pv a, h, ival_pv]
theorem bad_pv {a b : Int} (ha : (pv a).2.size ≤ 32000) (hb : (pv b).2.size ≤ 32000) : bad2 (pv a).1 (pv a).2 (pv b).1 (pv b).2 = 0 := bad2_ok.2 ⟨okI_pv ha, okI_pv hb⟩
theorem small_pv {v : Int} (h : (v.natAbs : Int) < 256) : (pv v).2.size ≤ 1 := size_pv (by simpa using h)

/-- What Add, Sub and Mul tell. -/
def binF (f : Int → Int → Int) (a b : Bool × ByteArray) : (Bool × ByteArray) × Int := if bad2 a.1 a.2 b.1 b.2 = 0 then (pv (f (ival a.1 a.2) (ival b.1 b.2)), 0) else ((false, ⟨#[]⟩), bad2 a.1 a.2 b.1 b.2)
theorem binF_ok {f : Int → Int → Int} {a b : Bool × ByteArray} (h : bad2 a.1 a.2 b.1 b.2 = 0) : binF f a b = (pv (f (ival a.1 a.2) (ival b.1 b.2)), 0) := if_pos h
theorem binF_err {f : Int → Int → Int} {a b : Bool × ByteArray} : (binF f a b).2 = bad2 a.1 a.2 b.1 b.2 := by
  unfold binF
  split
  · rename_i h; exact h.symm
  · rfl
theorem bin_of {f : Int → Int → Int} {a b : Bool × ByteArray} {w : World} {e : Ending} {w' : World} (h : BinP f a.1 a.2 b.1 b.2 w e w') : e = .returned (.tuple #[ag (binF f a b).1, .int .i64 (binF f a b).2]) ∧ Below w.heap.size w w' := by
  refine ⟨?_, h.2.2⟩
  unfold binF
  split
  · rename_i h0; exact h.2.1 h0
  · rename_i h0; exact h.1 h0
theorem binF_size {f : Int → Int → Int} {a b : Bool × ByteArray} {k : Nat} (h : ((f (ival a.1 a.2) (ival b.1 b.2)).natAbs : Int) < 256 ^ k) : (binF f a b).1.2.size ≤ k := by
  unfold binF
  split
  · exact size_pv h
  · exact Nat.zero_le _
theorem ival_bd {n : Bool} {s : ByteArray} {k : Nat} (h : s.size ≤ k) : ((ival n s).natAbs : Int) < 256 ^ k := by
  have h0 := (nv_bd s).1
  unfold ival
  rw [sgn_abs h0]
  exact size_pow h
theorem add_bd {a b : Int} {k m : Nat} (ha : (a.natAbs : Int) < 256 ^ k) (hb : (b.natAbs : Int) < 256 ^ k) (hm : k + 1 ≤ m) : ((a + b).natAbs : Int) < 256 ^ m := by
  have h3 := Ymono hm
  rw [Ys] at h3
  generalize (256 : Int) ^ m = u at *
  generalize (256 : Int) ^ k = u at *
  omega
theorem sub_bd {a b : Int} {k m : Nat} (ha : (a.natAbs : Int) < 256 ^ k) (hb : (b.natAbs : Int) < 256 ^ k) (hm : k + 1 ≤ m) : ((a - b).natAbs : Int) < 256 ^ m := by
  have h3 := Ymono hm
  rw [Ys] at h3
  generalize (256 : Int) ^ m = u at *
  generalize (256 : Int) ^ k = u at *
  omega
theorem mul_bd {a b : Int} {k l m : Nat} (ha : (a.natAbs : Int) < 256 ^ k) (hb : (b.natAbs : Int) < 256 ^ l) (hm : k + l ≤ m) : ((a * b).natAbs : Int) < 256 ^ m := by
  have h3 := Ymono hm
  rw [Int.pow_add] at h3
  have hp := Yp k
  rw [Int.natAbs_mul, Int.natCast_mul]
  generalize (256 : Int) ^ m = u at *
  generalize (256 : Int) ^ k = y at *
  generalize (256 : Int) ^ l = z at *
  have h5 : (a.natAbs : Int) * (b.natAbs : Int) ≤ (a.natAbs : Int) * z := Int.mul_le_mul_of_nonneg_left (by omega) (by omega)
  have h6 : (a.natAbs : Int) * z < y * z := Int.mul_lt_mul_of_pos_right ha (by omega)
  omega

set_option maxHeartbeats 1000000 in
set_option maxRecDepth 100000 in
theorem live_c (w : World) : Calls Tryd.prog 12 #[] w fun e w' => e = .returned (.bool true) ∧ Below w.heap.size w w' := by
  have HOF := fun (v : Int) (h1 : -9223372036854775808 ≤ v) (h2 : v ≤ 9223372036854775807) => Lib.hid (of_w v h1 h2)
  have HOR : Hid (∀ (v : Int), -9223372036854775808 ≤ v → v ≤ 9223372036854775807 → ∀ w, Calls Tryd.prog 20 #[.int .i64 v] w fun e w' => e = .returned (ag (pv v)) ∧ Below w.heap.size w w') := Lib.hid of_r
  have O7 := HOF (-7) (by omega) (by omega)
  have O2 := HOF 2 (by omega) (by omega)
  have O12 := HOF (-12) (by omega) (by omega)
  have O18 := HOF 18 (by omega) (by omega)
  simp only [putV_pv] at O7 O2 O12 O18
  have HD : Hid (∀ w, Calls Tryd.prog 13 #[ag (pv (-7)), ag (pv 2)] w fun e w' => e = .returned (.tuple #[ag (pv (-4)), ag (pv 1), .int .i64 0]) ∧ Below w.heap.size w w') := by
    refine Lib.hid fun w => ?_
    have z7 := small_pv (v := -7) (by decide)
    have z2 := small_pv (v := 2) (by decide)
    refine (divw_c (pv (-7)).1 (pv (-7)).2 (pv 2).1 (pv 2).2 (by omega) (by omega) w).mono fun e w' h => ⟨?_, h.2.2.2⟩
    have := h.2.2.1 (bad_pv (by omega) (by omega)) (by show nv (encN _) ≠ 0; rw [nv_encN (by omega)]; decide)
    rw [ival_pv, ival_pv] at this
    exact this
  have HG : Hid (∀ w, Calls Tryd.prog 18 #[ag (pv (-12)), ag (pv 18)] w fun e w' => e = .returned (.tuple #[ag (pv 6), .int .i64 0]) ∧ Below w.heap.size w w') := by
    refine Lib.hid fun w => ?_
    have z7 := small_pv (v := -12) (by decide)
    have z2 := small_pv (v := 18) (by decide)
    refine (gcdw_c (pv (-12)).1 (pv (-12)).2 (pv 18).1 (pv 18).2 (by omega) (by omega) w).mono fun e w' h => ⟨?_, h.2.2⟩
    have := h.2.1 (bad_pv (by omega) (by omega))
    rw [show nv (pv (-12)).2 = 12 from nv_encN (by omega), show nv (pv 18).2 = 18 from nv_encN (by omega)] at this
    exact this
  have HP : Hid (∀ w, Calls Tryd.prog 21 #[.string ⟨#[45, 48, 48, 55]⟩] w fun e w' => e = .returned (.tuple #[.agg #[.bool false, .string ⟨#[]⟩], .int .i64 4]) ∧ Below w.heap.size w w') :=
    Lib.hid fun w => parse_c ⟨#[45, 48, 48, 55]⟩ w
  have HT : Hid (∀ w, Calls Tryd.prog 25 #[ag (pv (-4))] w fun e w' => e = .returned (.tuple #[.string ⟨#[45, 52]⟩, .int .i64 0]) ∧ Below w.heap.size w w') := by
    refine Lib.hid fun w => ?_
    have z4 := small_pv (v := -4) (by decide)
    refine (print_c (pv (-4)).1 (pv (-4)).2 (by omega) w).mono fun e w' h => ⟨?_, h.2⟩
    rw [h.1]
    unfold printV
    rw [if_neg (fun hc => hc (chk_ok.2 (okI_pv (by omega)))), show nv (pv (-4)).2 = 4 from nv_encN (by omega)]
    have : textL (pv (-4)).1 (4 : Int).toNat = [45, 52] := by
      unfold textL
      rw [if_pos (by decide), show (4 : Int).toNat = 4 from rfl, dec_pos (by decide), show 4 / 10 = 0 from rfl, dec_zero]
      rfl
    rw [this]
  clear HOF
  unfold ag at *
  obtain ⟨pb, hpb⟩ : ∃ pb : Int → Bool, ∀ v, (pv v).1 = pb v := ⟨_, fun _ => rfl⟩
  obtain ⟨ps, hps⟩ : ∃ ps : Int → ByteArray, ∀ v, (pv v).2 = ps v := ⟨_, fun _ => rfl⟩
  simp only [hpb, hps] at *
  clear hpb hps
  go_enter Tryd.func12, Tryd.ntmps12
  go_wp2_with fail
  refine (O7.out _).mono ?_
  rintro e w1 ⟨rfl, hb1⟩
  go_wp2_with fail
  refine (O2.out _).mono ?_
  rintro e w2 ⟨rfl, hb2⟩
  go_wp2_with fail
  refine (HD.out _).mono ?_
  rintro e w3 ⟨rfl, hb3⟩
  have HB3 := Lib.hid (hb1.trans ((hb2.mono hb1.size).trans (hb3.mono (Nat.le_trans hb1.size hb2.size))))
  clear hb1 hb2 hb3
  go_wp2_with fail
  obtain ⟨wa, hwa⟩ : ∃ wa, wa = (w3.alloc (.cells #[.bool (pb (-4)), .string (ps (-4))] 24)).alloc (.cells #[.bool (pb 1), .string (ps 1)] 24) := ⟨_, rfl⟩
  have c0 : wa.cell? ⟨w3.heap.size, 0, none⟩ = some (.bool (pb (-4))) := by rw [hwa]; simp [go_sem]
  have c1 : wa.cell? ⟨w3.heap.size, 1, none⟩ = some (.string (ps (-4))) := by rw [hwa]; simp [go_sem]
  have c2 : wa.cell? ⟨w3.heap.size + 1, 0, none⟩ = some (.bool (pb 1)) := by rw [hwa]; simp [go_sem]
  have c3 : wa.cell? ⟨w3.heap.size + 1, 1, none⟩ = some (.string (ps 1)) := by rw [hwa]; simp [go_sem]
  have hsa : wa.heap.size = w3.heap.size + 2 := by rw [hwa]; simp
  have hba : Below w.heap.size w wa := by rw [hwa]; exact (HB3.out.alloc HB3.out.size _).alloc (by simp; exact Nat.le_succ_of_le HB3.out.size) _
  rw [← hwa]
  obtain ⟨q, hq⟩ : ∃ q, w3.heap.size = q := ⟨_, rfl⟩
  rw [hq] at c0 c1 c2 c3 hsa ⊢
  have HBA := Lib.hid (And.intro hba hsa)
  have HC := Lib.hid (And.intro c0 (And.intro c1 (And.intro c2 c3)))
  clear hwa hsa hba hq c0 c1 c2 c3
  refine (O12.out _).mono ?_
  rintro e w4 ⟨rfl, hb4⟩
  go_wp2_with fail
  refine (O18.out _).mono ?_
  rintro e w5 ⟨rfl, hb5⟩
  go_wp2_with fail
  refine (HG.out _).mono ?_
  rintro e w6 ⟨rfl, hb6⟩
  have HB6 := Lib.hid (hb4.trans ((hb5.mono hb4.size).trans (hb6.mono (Nat.le_trans hb4.size hb5.size))))
  clear hb4 hb5 hb6
  go_wp2_with fail
  obtain ⟨wb, hwb⟩ : ∃ wb, wb = w6.alloc (.cells #[.bool (pb 6), .string (ps 6)] 24) := ⟨_, rfl⟩
  have c4 : wb.cell? ⟨w6.heap.size, 0, none⟩ = some (.bool (pb 6)) := by rw [hwb]; simp [go_sem]
  have c5 : wb.cell? ⟨w6.heap.size, 1, none⟩ = some (.string (ps 6)) := by rw [hwb]; simp [go_sem]
  have hsb : wb.heap.size = w6.heap.size + 1 := by rw [hwb]; simp
  have hbb : Below wa.heap.size wa wb := by rw [hwb]; exact HB6.out.alloc HB6.out.size _
  rw [← hwb]
  obtain ⟨g, hg⟩ : ∃ g, w6.heap.size = g := ⟨_, rfl⟩
  rw [hg] at c4 c5 hsb ⊢
  have HBB := Lib.hid (And.intro hbb (And.intro hsb (show q + 2 ≤ g by have := HB6.out.size; rw [HBA.out.2] at this; omega)))
  have HC4 := Lib.hid (And.intro c4 c5)
  clear hwb hsb hbb hg c4 c5
  refine (HP.out _).mono ?_
  rintro e w7 ⟨rfl, hb7⟩
  have hb8 : Below wb.heap.size wb (w7.alloc (.cells #[.bool false, .string ⟨#[]⟩] 24)) := hb7.alloc hb7.size _
  have hb9 : Below wa.heap.size wa (w7.alloc (.cells #[.bool false, .string ⟨#[]⟩] 24)) := HBB.out.1.trans (hb8.mono HBB.out.1.size)
  have hqa : q + 1 < wa.heap.size := by rw [HBA.out.2]; omega
  have hgb : g < wb.heap.size := by rw [HBB.out.2.1]; omega
  have k0 := (hb9.cell (p := ⟨q, 0, none⟩) (by simp; omega)).trans HC.out.1
  have k1 := (hb9.cell (p := ⟨q, 1, none⟩) (by simp; omega)).trans HC.out.2.1
  have k2 := (hb9.cell (p := ⟨q + 1, 0, none⟩) hqa).trans HC.out.2.2.1
  have k3 := (hb9.cell (p := ⟨q + 1, 1, none⟩) hqa).trans HC.out.2.2.2
  have k4 := (hb8.cell (p := ⟨g, 0, none⟩) hgb).trans HC4.out.1
  have k5 := (hb8.cell (p := ⟨g, 1, none⟩) hgb).trans HC4.out.2
  have HB9 := Lib.hid (And.intro (HBA.out.1.trans (hb9.mono HBA.out.1.size)) (And.intro (show q + 1 < w7.heap.size + 1 by have := hb9.size; simp at this; omega) (show g < w7.heap.size + 1 by have := hb8.size; simp at this; omega)))
  clear hb7 hb8 hb9 hqa hgb
  go_wp2_with fail
  refine (HT.out _).mono ?_
  rintro e w8 ⟨rfl, hb8⟩
  have z0 := (hb8.cell (p := ⟨q, 0, none⟩) (by have := HB9.out.2.1; simp; omega)).trans k0
  have z1 := (hb8.cell (p := ⟨q, 1, none⟩) (by have := HB9.out.2.1; simp; omega)).trans k1
  have z2 := (hb8.cell (p := ⟨q + 1, 0, none⟩) (by have := HB9.out.2.1; simp; omega)).trans k2
  have z3 := (hb8.cell (p := ⟨q + 1, 1, none⟩) (by have := HB9.out.2.1; simp; omega)).trans k3
  have z4 := (hb8.cell (p := ⟨g, 0, none⟩) (by have := HB9.out.2.2; simp; omega)).trans k4
  have z5 := (hb8.cell (p := ⟨g, 1, none⟩) (by have := HB9.out.2.2; simp; omega)).trans k5
  have HB10 := Lib.hid (And.intro (HB9.out.1.trans (hb8.mono HB9.out.1.size)) (And.intro (show q + 1 < w8.heap.size by have := hb8.size; have := HB9.out.2.1; simp at *; omega) (show g < w8.heap.size by have := hb8.size; have := HB9.out.2.2; simp at *; omega)))
  clear hb8 k0 k1 k2 k3 k4 k5 HB3 HB6 HBA HBB HC HC4 HB9 O7 O2 O12 O18 HD HG HP HT
  have HLqz := HB10.out.2.1
  have HLgz := HB10.out.2.2
  have HBz := HB10.out.1
  clear HB10
  go_wp2
  go_region_held3 (fun w' => w'.cell? ⟨q, 0, none⟩ = some (.bool (pb (-4))) ∧ w'.cell? ⟨q, 1, none⟩ = some (.string (ps (-4))) ∧ w'.cell? ⟨q + 1, 0, none⟩ = some (.bool (pb 1)) ∧ w'.cell? ⟨q + 1, 1, none⟩ = some (.string (ps 1)) ∧ w'.cell? ⟨g, 0, none⟩ = some (.bool (pb 6)) ∧ w'.cell? ⟨g, 1, none⟩ = some (.string (ps 6))) (first | go_keep | exact ⟨v0, v1, v2, v3, v4, v5⟩ | exact ⟨x0, x1, x2, x3, x4, x5⟩ | exact ⟨y0, y1, y2, y3, y4, y5⟩ | exact ⟨z0, z1, z2, z3, z4, z5⟩) (first | (go_at_call 20; have guardv := x0; clear guardv; go_must (refine (HOR.out _ (by decide) (by decide) _).mono ?_; rintro e wv ⟨rfl, hbr⟩; have v0 := (hbr.cell (p := ⟨q, 0, none⟩) (Nat.lt_of_succ_lt HLqx)).trans x0; have v1 := (hbr.cell (p := ⟨q, 1, none⟩) (Nat.lt_of_succ_lt HLqx)).trans x1; have v2 := (hbr.cell (p := ⟨q + 1, 0, none⟩) HLqx).trans x2; have v3 := (hbr.cell (p := ⟨q + 1, 1, none⟩) HLqx).trans x3; have v4 := (hbr.cell (p := ⟨g, 0, none⟩) HLgx).trans x4; have v5 := (hbr.cell (p := ⟨g, 1, none⟩) HLgx).trans x5; have HLqv := Nat.lt_of_lt_of_le HLqx hbr.size; have HLgv := Nat.lt_of_lt_of_le HLgx hbr.size; have HBv := bel_join HBx hbr HBx.size rfl rfl rfl rfl; clear hbr)) | (go_at_call 20; have guardx := y0; clear guardx; go_must (refine (HOR.out _ (by decide) (by decide) _).mono ?_; rintro e wx ⟨rfl, hbr⟩; have x0 := (hbr.cell (p := ⟨q, 0, none⟩) (Nat.lt_of_succ_lt HLqy)).trans y0; have x1 := (hbr.cell (p := ⟨q, 1, none⟩) (Nat.lt_of_succ_lt HLqy)).trans y1; have x2 := (hbr.cell (p := ⟨q + 1, 0, none⟩) HLqy).trans y2; have x3 := (hbr.cell (p := ⟨q + 1, 1, none⟩) HLqy).trans y3; have x4 := (hbr.cell (p := ⟨g, 0, none⟩) HLgy).trans y4; have x5 := (hbr.cell (p := ⟨g, 1, none⟩) HLgy).trans y5; have HLqx := Nat.lt_of_lt_of_le HLqy hbr.size; have HLgx := Nat.lt_of_lt_of_le HLgy hbr.size; have HBx := bel_join HBy hbr HBy.size rfl rfl rfl rfl; clear hbr)) | (go_at_call 20; have guardy := z0; clear guardy; go_must (refine (HOR.out _ (by decide) (by decide) _).mono ?_; rintro e wy ⟨rfl, hbr⟩; have y0 := (hbr.cell (p := ⟨q, 0, none⟩) (Nat.lt_of_succ_lt HLqz)).trans z0; have y1 := (hbr.cell (p := ⟨q, 1, none⟩) (Nat.lt_of_succ_lt HLqz)).trans z1; have y2 := (hbr.cell (p := ⟨q + 1, 0, none⟩) HLqz).trans z2; have y3 := (hbr.cell (p := ⟨q + 1, 1, none⟩) HLqz).trans z3; have y4 := (hbr.cell (p := ⟨g, 0, none⟩) HLgz).trans z4; have y5 := (hbr.cell (p := ⟨g, 1, none⟩) HLgz).trans z5; have HLqy := Nat.lt_of_lt_of_le HLqz hbr.size; have HLgy := Nat.lt_of_lt_of_le HLgz hbr.size; have HBy := bel_join HBz hbr HBz.size rfl rfl rfl rfl; clear hbr)))
  all_goals go_wp2
  all_goals go_ret
  all_goals first | exact ⟨rfl, HBv⟩ | exact ⟨rfl, HBv.drew⟩ | exact ⟨rfl, bdrN HBv _⟩
end Go.Proofs.YtimpimnaknkgpaaDoor
