import Derived.Test.YtimpimnaknkgpaaDoorN
/- Plain numbers: how a digit of a quotient is found (bits.Div64, and a row by a row). -/
set_option linter.unusedVariables false
namespace Go.Proofs.YtimpimnaknkgpaaDoor.Num
/-- Half a quotient: U32 * b + U1 by Y = Y1 * b + Y0, b = 2^32. -/
structure Half (U32 U1 Y Y1 Y0 : Int) : Prop where
  y : Y = Y1 * 4294967296 + Y0
  y0 : 0 ≤ Y0 ∧ Y0 < 4294967296
  y1 : 2147483648 ≤ Y1 ∧ Y1 < 4294967296
  u : 0 ≤ U32 ∧ U32 < Y
  u1 : 0 ≤ U1 ∧ U1 < 4294967296
structure HalfI (U32 U1 Y Y1 q r : Int) : Prop where
  e : q * Y1 + r = U32
  r0 : 0 ≤ r
  le : (U32 * 4294967296 + U1) / Y ≤ q
  q0 : 0 ≤ q
  q1 : q ≤ 8589934592
variable {U32 U1 Y Y1 Y0 q r : Int}
theorem Half.pos (h : Half U32 U1 Y Y1 Y0) : 0 < Y := by
  have h1 := h.y; have h2 := h.y0; have h3 := h.y1; omega
theorem Half.quo (h : Half U32 U1 Y Y1 Y0) : 0 ≤ (U32 * 4294967296 + U1) / Y :=
  Int.ediv_nonneg (by have := h.u; have := h.u1; omega) (by have := h.pos; omega)
theorem Half.start (h : Half U32 U1 Y Y1 Y0) : HalfI U32 U1 Y Y1 (U32 / Y1) (U32 % Y1) ∧ U32 % Y1 < 4294967296 := by
  have h1 := h.y1
  have h2 := h.u
  have h3 := h.y0
  have hy := h.y
  have hd : Y1 * (U32 / Y1) + U32 % Y1 = U32 := Int.mul_ediv_add_emod _ _
  have hm0 : 0 ≤ U32 % Y1 := Int.emod_nonneg _ (by omega)
  have hm1 : U32 % Y1 < Y1 := Int.emod_lt_of_pos _ (by omega)
  have hq0 : 0 ≤ U32 / Y1 := Int.ediv_nonneg h2.1 (by omega)
  refine ⟨⟨by rw [Int.mul_comm]; exact hd, hm0, ?_, hq0, ?_⟩, by omega⟩
  · apply Int.le_ediv_of_mul_le (by omega)
    have hp := h.pos
    have hn : (U32 * 4294967296 + U1) / Y * Y ≤ U32 * 4294967296 + U1 := Int.ediv_mul_le _ (by omega)
    have hq := h.quo
    generalize (U32 * 4294967296 + U1) / Y = Q at *
    have h5 : Q * Y = Q * Y1 * 4294967296 + Q * Y0 := by rw [hy]; grind
    have h6 : 0 ≤ Q * Y0 := Int.mul_nonneg hq h3.1
    have h7 := h.u1
    rw [h5] at hn
    generalize Q * Y1 = z at *
    omega
  · apply Int.le_of_lt_add_one
    apply Int.ediv_lt_of_lt_mul (by omega)
    have : (4294967296 * 2 + 1) * 2147483648 ≤ (8589934592 + 1) * Y1 := Int.mul_le_mul (by omega) h1.1 (by omega) (by omega)
    omega
theorem HalfI.step (h : Half U32 U1 Y Y1 Y0) (i : HalfI U32 U1 Y Y1 q r) (hr : r < 4294967296) (ht : 4294967296 ≤ q ∨ 4294967296 * r + U1 < q * Y0) : HalfI U32 U1 Y Y1 (q - 1) (r + Y1) := by
  have h1 := h.y1
  have h2 := h.u
  have h3 := h.y0
  have h4 := h.u1
  have hlt : U32 * 4294967296 + U1 < q * Y := by
    rcases ht with ht | ht
    · have : 4294967296 * Y ≤ q * Y := Int.mul_le_mul_of_nonneg_right ht (by omega)
      omega
    · have e1 : q * Y = q * Y1 * 4294967296 + q * Y0 := by rw [h.y]; grind
      have e2 := i.e
      rw [e1]
      generalize q * Y1 = z at *
      omega
  have hle : (U32 * 4294967296 + U1) / Y < q := Int.ediv_lt_of_lt_mul h.pos hlt
  have hq := h.quo
  refine ⟨?_, by have := i.r0; omega, by omega, by omega, by have := i.q1; omega⟩
  have e2 := i.e
  have : (q - 1) * Y1 = q * Y1 - Y1 := by grind
  omega
theorem HalfI.exit (h : Half U32 U1 Y Y1 Y0) (i : HalfI U32 U1 Y Y1 q r) (ht : q * Y0 ≤ 4294967296 * r + U1) : q = (U32 * 4294967296 + U1) / Y := by
  have hle : q ≤ (U32 * 4294967296 + U1) / Y := by
    apply Int.le_ediv_of_mul_le h.pos
    have e1 : q * Y = q * Y1 * 4294967296 + q * Y0 := by rw [h.y]; grind
    have e2 := i.e
    rw [e1]
    generalize q * Y1 = z at *
    omega
  have := i.le
  omega
theorem HalfI.exit2 (h : Half U32 U1 Y Y1 Y0) (i : HalfI U32 U1 Y Y1 q r) (hr : 4294967296 ≤ r) : q = (U32 * 4294967296 + U1) / Y := by
  have h1 := h.y1
  have h2 := h.u
  have h3 := h.y0
  have h4 := h.u1
  have hy := h.y
  have hq : q < 4294967296 := by
    apply Int.lt_of_not_ge
    intro hge
    have : 4294967296 * Y1 ≤ q * Y1 := Int.mul_le_mul_of_nonneg_right hge (by omega)
    have := i.e
    omega
  apply i.exit h
  have := i.q0
  have : q * Y0 ≤ 4294967295 * 4294967295 := Int.mul_le_mul (by omega) (by omega) h3.1 (by omega)
  omega
theorem half_bounds (h : Half U32 U1 Y Y1 Y0) (i : HalfI U32 U1 Y Y1 q r) (hr : r < 4294967296) : (q < 4294967296 → 0 ≤ q * Y0 ∧ q * Y0 < B) ∧ (0 ≤ q * Y1 ∧ q * Y1 < B) ∧ (0 ≤ 4294967296 * r ∧ 4294967296 * r < B) ∧ (0 ≤ 4294967296 * r + U1 ∧ 4294967296 * r + U1 < B) ∧ (0 ≤ r + Y1 ∧ r + Y1 < B) := by
  have h1 := h.y1
  have h2 := h.u
  have h3 := h.y0
  have h4 := h.u1
  have hy := h.y
  have := i.q0
  have := i.r0
  have e := i.e
  rw [B_eq]
  refine ⟨fun hq => ⟨Int.mul_nonneg (by omega) (by omega), ?_⟩, ⟨Int.mul_nonneg (by omega) (by omega), by omega⟩, by omega, by omega, by omega⟩
  have : q * Y0 ≤ 4294967295 * 4294967295 := Int.mul_le_mul (by omega) (by omega) h3.1 (by omega)
  omega
/-- What is left of half a quotient. -/
theorem half_rest (h : Half U32 U1 Y Y1 Y0) : let Q := (U32 * 4294967296 + U1) / Y; 0 ≤ U32 * 4294967296 + U1 - Q * Y ∧ U32 * 4294967296 + U1 - Q * Y < Y ∧ Q < 4294967296 := by
  intro Q
  have hp := h.pos
  have h2 := h.u
  have h4 := h.u1
  have e : Y * Q + (U32 * 4294967296 + U1) % Y = U32 * 4294967296 + U1 := Int.mul_ediv_add_emod _ _
  have m0 : 0 ≤ (U32 * 4294967296 + U1) % Y := Int.emod_nonneg _ (by omega)
  have m1 : (U32 * 4294967296 + U1) % Y < Y := Int.emod_lt_of_pos _ hp
  have e2 : Q * Y = Y * Q := Int.mul_comm _ _
  refine ⟨by omega, by omega, ?_⟩
  apply Int.ediv_lt_of_lt_mul hp
  omega
theorem shift_parts {lo S T : Int} (hS : 0 < S) (hT : 0 < T) (hST : S * T = B) (h0 : 0 ≤ lo ∧ lo < B) : lo * S = lo / T * B + lo * S % B ∧ 0 ≤ lo / T ∧ lo / T < S := by
  have hB : 0 < B := by decide
  have e : lo * S / B = lo / T := by
    rw [← hST, Int.mul_comm lo S, Int.mul_ediv_mul_of_pos _ _ hS]
  have h1 : B * (lo * S / B) + lo * S % B = lo * S := Int.mul_ediv_add_emod _ _
  rw [e] at h1
  refine ⟨by rw [Int.mul_comm (lo / T)]; omega, Int.ediv_nonneg h0.1 (by omega), ?_⟩
  apply Int.ediv_lt_of_lt_mul hT
  rw [hST]; exact h0.2
theorem ediv_of {U y q : Int} (hy : 0 < y) (h1 : q * y ≤ U) (h2 : U < q * y + y) : U / y = q ∧ U % y = U - q * y := by
  have a1 : q ≤ U / y := Int.le_ediv_of_mul_le hy h1
  have a2 : U / y < q + 1 := Int.ediv_lt_of_lt_mul hy (by have : (q + 1) * y = q * y + y := by grind
                                                          omega)
  have e : U / y = q := by omega
  refine ⟨e, ?_⟩
  have : y * (U / y) + U % y = U := Int.mul_ediv_add_emod _ _
  rw [e, Int.mul_comm] at this
  omega
theorem div_compose {hi lo y S U32 U1 U0 Q1 Q0 R : Int} (hS : 0 < S) (hy : 0 < y) (hU : (hi * B + lo) * S = (U32 * 4294967296 + U1) * 4294967296 + U0)
    (hR : R = (U32 * 4294967296 + U1 - Q1 * (y * S)) * 4294967296 + U0 - Q0 * (y * S)) (hR0 : 0 ≤ R) (hR1 : R < y * S) :
    (hi * B + lo) / y = Q1 * 4294967296 + Q0 ∧ (hi * B + lo) % y = R / S := by
  generalize hi * B + lo = U at *
  generalize U32 * 4294967296 + U1 = N at *
  have e1 : R = (U - (Q1 * 4294967296 + Q0) * y) * S := by rw [hR]; grind
  generalize Q1 * 4294967296 + Q0 = q at *
  have g1 : 0 ≤ U - q * y := by
    apply Int.le_of_not_gt
    intro hlt
    have : (U - q * y) * S ≤ (-1) * S := Int.mul_le_mul_of_nonneg_right (by omega) (by omega)
    omega
  have g2 : U - q * y < y := by
    apply Int.lt_of_not_ge
    intro hge
    have : y * S ≤ (U - q * y) * S := Int.mul_le_mul_of_nonneg_right hge (by omega)
    omega
  obtain ⟨h1, h2⟩ := ediv_of (U := U) (q := q) hy (by omega) (by omega)
  refine ⟨h1, ?_⟩
  rw [h2, e1, Int.mul_ediv_cancel _ (by omega)]
/-- One limb of a row, moved up by some bits. -/
theorem shl_step {L a : List Int} {k : Nat} {S T : Int} (hS : 0 < S) (hT : 0 < T) (hST : S * T = B) (hk : k + 1 < L.length) (hL : Lim L) (ha : Lim a)
    (hlow : lg L k < S) (hz : ∀ j, k < j → lg L j = 0) (hv : win L 0 (k + 1) = S * sumB (lg a) k) :
    let x := lg a k; let L2 := (L.set k (lg L k + x * S % B)).set (k + 1) (x / T)
    (0 ≤ lg L k + x * S % B ∧ lg L k + x * S % B < B) ∧ Lim L2 ∧ lg L2 (k + 1) < S ∧ (∀ j, k + 1 < j → lg L2 j = 0) ∧ win L2 0 (k + 1 + 1) = S * sumB (lg a) (k + 1) := by
  intro x L2
  obtain ⟨p1, p2, p3⟩ := shift_parts hS hT hST (ha k)
  have hB : 0 < B := by decide
  have r0 : 0 ≤ x * S % B := Int.emod_nonneg _ (by omega)
  have r1 : x * S % B < B := Int.emod_lt_of_pos _ hB
  have rm : x * S % B % S = 0 := by
    rw [← hST, Int.emod_emod_of_dvd _ (Int.dvd_mul_right S T)]
    exact Int.mul_emod_left _ _
  have l0 := (hL k).1
  have hsum : lg L k + x * S % B < B := by
    have e1 : S * (x * S % B / S) + x * S % B % S = x * S % B := Int.mul_ediv_add_emod _ _
    rw [rm] at e1
    generalize x * S % B / S = z at *
    have : z < T := by
      apply Int.lt_of_not_ge
      intro hge
      have : S * T ≤ S * z := Int.mul_le_mul_of_nonneg_left hge (by omega)
      omega
    have : S * (z + 1) ≤ S * T := Int.mul_le_mul_of_nonneg_left (by omega) (by omega)
    have : S * (z + 1) = S * z + S := by grind
    omega
  have hxT : 0 ≤ x / T ∧ x / T < B := by
    refine ⟨p2, ?_⟩
    have : S * 1 ≤ S * T := Int.mul_le_mul_of_nonneg_left (by omega) (by omega)
    show lg a k / T < B
    omega
  refine ⟨⟨by omega, hsum⟩, (hL.set _ ⟨by omega, hsum⟩).set _ hxT, ?_, ?_, ?_⟩
  · show lg ((L.set k _).set (k + 1) _) (k + 1) < S
    rw [lg_set, if_pos ⟨rfl, by rw [List.length_set]; exact hk⟩]
    exact p3
  · intro j hj
    show lg ((L.set k _).set (k + 1) _) j = 0
    rw [lg_set, if_neg (by omega), lg_set, if_neg (by omega)]
    exact hz j (by omega)
  · have e1 : win L2 0 k = win L 0 k := win_congr fun j hj => by
      show lg ((L.set k _).set (k + 1) _) _ = _
      rw [lg_set, if_neg (by omega), lg_set, if_neg (by omega)]
    have e2 : lg L2 (0 + k) = lg L k + x * S % B := by
      show lg ((L.set k _).set (k + 1) _) _ = _
      rw [lg_set, if_neg (by omega), lg_set, if_pos ⟨by omega, by omega⟩]
    have e3 : lg L2 (0 + (k + 1)) = x / T := by
      show lg ((L.set k _).set (k + 1) _) _ = _
      rw [lg_set, if_pos ⟨by omega, by rw [List.length_set]; exact hk⟩]
    rw [win_s, win_s, e1, e2, e3, Bs]
    rw [win_s, Nat.zero_add] at hv
    show win L 0 k + (lg L k + x * S % B) * B ^ k + x / T * (B ^ k * B) = S * (sumB (lg a) k + x * B ^ k)
    have p1' : x * S = x / T * B + x * S % B := p1
    generalize x * S % B = u at *
    generalize x / T = v at *
    generalize B ^ k = P at *
    generalize sumB (lg a) k = q at *
    generalize win L 0 k = p at *
    generalize lg L k = l at *
    have e4 : S * (q + x * P) = S * q + x * S * P := by grind
    rw [e4, ← hv, p1']
    grind
/-- One limb of a row, moved down by some bits: what it gets of itself and of the one above. -/
theorem shr_step {L a : List Int} {k : Nat} {S T c : Int} (hS : 0 < S) (hT : 0 < T) (hST : S * T = B) (hk : k < L.length) (hL : Lim L) (ha : Lim a)
    (hv : win L 0 k * S = sumB (lg a) k - c + lg a k % S * B ^ k) :
    let d := lg a k / S + lg a (k + 1) * T % B; let L2 := L.set k d
    (0 ≤ lg a k / S ∧ lg a k / S < T ∧ lg a k / S < B) ∧ lg a (k + 1) * T % B % T = 0 ∧ (0 ≤ lg a (k + 1) * T % B ∧ lg a (k + 1) * T % B < B) ∧ Lim L2 ∧ win L2 0 (k + 1) * S = sumB (lg a) (k + 1) - c + lg a (k + 1) % S * B ^ (k + 1) := by
  intro d L2
  have hTS : T * S = B := by rw [Int.mul_comm]; exact hST
  obtain ⟨p1, p2, p3⟩ := shift_parts hT hS hTS (ha (k + 1))
  have hB : 0 < B := by decide
  have r0 : 0 ≤ lg a (k + 1) * T % B := Int.emod_nonneg _ (by omega)
  have r1 : lg a (k + 1) * T % B < B := Int.emod_lt_of_pos _ hB
  have rm : lg a (k + 1) * T % B % T = 0 := by
    rw [← hTS, Int.emod_emod_of_dvd _ (Int.dvd_mul_right T S)]
    exact Int.mul_emod_left _ _
  have q0 : 0 ≤ lg a k / S := Int.ediv_nonneg (ha k).1 (by omega)
  have q1 : lg a k / S < T := by
    apply Int.ediv_lt_of_lt_mul hS
    rw [hTS]; exact (ha k).2
  have hTB : T ≤ B := by
    have : T * 1 ≤ T * S := Int.mul_le_mul_of_nonneg_left (by omega) (by omega)
    omega
  have hsum : d < B := by
    have e1 : T * (lg a (k + 1) * T % B / T) + lg a (k + 1) * T % B % T = lg a (k + 1) * T % B := Int.mul_ediv_add_emod _ _
    rw [rm] at e1
    show lg a k / S + lg a (k + 1) * T % B < B
    generalize lg a (k + 1) * T % B / T = z at *
    have : z < S := by
      apply Int.lt_of_not_ge
      intro hge
      have : T * S ≤ T * z := Int.mul_le_mul_of_nonneg_left hge (by omega)
      omega
    have : T * (z + 1) ≤ T * S := Int.mul_le_mul_of_nonneg_left (by omega) (by omega)
    have : T * (z + 1) = T * z + T := by grind
    omega
  refine ⟨⟨q0, q1, by omega⟩, rm, ⟨r0, r1⟩, hL.set _ ⟨by omega, hsum⟩, ?_⟩
  have e1 : S * (lg a k / S) + lg a k % S = lg a k := Int.mul_ediv_add_emod _ _
  have e2 : S * (lg a (k + 1) / S) + lg a (k + 1) % S = lg a (k + 1) := Int.mul_ediv_add_emod _ _
  have f1 : win L2 0 k = win L 0 k := win_congr fun j hj => by
    show lg (L.set k _) _ = _
    rw [lg_set, if_neg (by omega)]
  have f2 : lg L2 (0 + k) = d := by
    show lg (L.set k _) _ = _
    rw [lg_set, if_pos ⟨by omega, hk⟩]
  rw [win_s, f1, f2, Bs]
  show (win L 0 k + (lg a k / S + lg a (k + 1) * T % B) * B ^ k) * S = sumB (lg a) k + lg a k * B ^ k - c + _
  have e3 : lg a (k + 1) * T % B = lg a (k + 1) * T - lg a (k + 1) / S * B := by omega
  rw [e3]
  generalize lg a k % S = m0 at *
  generalize lg a (k + 1) % S = m1 at *
  generalize lg a k / S = d0 at *
  generalize lg a (k + 1) / S = d1 at *
  generalize lg a k = x at *
  generalize lg a (k + 1) = y at *
  generalize B ^ k = P at *
  generalize win L 0 k = W at *
  generalize sumB (lg a) k = Q at *
  have hx : x = S * d0 + m0 := by omega
  have hy : y = S * d1 + m1 := by omega
  have e4 : (W + (d0 + (y * T - d1 * B)) * P) * S = W * S + (d0 * S) * P + (y * (S * T) - d1 * B * S) * P := by grind
  rw [e4, hv, hST, hx, hy]
  grind
theorem shr_end {L a : List Int} {n : Nat} {S T v : Int} (hS : 0 < S) (hST : S * T = B) (hL : L.length = n) (ha : a.length = n) (hv : lv a = v * S)
    (h : win L 0 n * S = sumB (lg a) n - lg a 0 % S + lg a n % S * B ^ n) : lv L = v := by
  have e1 : win L 0 n = lv L := by rw [← hL]; exact win_zero L
  have e2 : sumB (lg a) n = lv a := by rw [← ha]; rfl
  have e3 : lg a n = 0 := lg_out (by omega)
  rw [e1, e2, e3] at h
  have e4 : lg a 0 % S = 0 := by
    have hm : ∀ m, ∃ z, sumB (lg a) (m + 1) = lg a 0 + z * S := by
      intro m
      induction m with
      | zero => exact ⟨0, by simp [sumB]⟩
      | succ m ih =>
        obtain ⟨z, hz⟩ := ih
        refine ⟨z + lg a (m + 1) * B ^ m * T, ?_⟩
        have : sumB (lg a) (m + 1 + 1) = sumB (lg a) (m + 1) + lg a (m + 1) * B ^ (m + 1) := rfl
        rw [this, hz, Bs, ← hST]
        grind
    have hd : ∃ z, lv a = lg a 0 + z * S := by
      cases hl : a.length with
      | zero => exact ⟨0, by
          unfold lv
          rw [hl, lg_out (by omega)]
          simp [sumB]⟩
      | succ m => unfold lv; rw [hl]; exact hm m
    obtain ⟨z, hz⟩ := hd
    have : lg a 0 = (v - z) * S := by
      have : (v - z) * S = v * S - z * S := by grind
      omega
    rw [this]
    exact Int.mul_emod_left _ _
  rw [e4] at h
  have : lv L * S = v * S := by rw [h, hv]; simp
  exact Int.eq_of_mul_eq_mul_right (by omega) this
theorem win_low (l : List Int) (o m : Nat) : win l o (m + 1) = lg l o + B * win l (o + 1) m := by
  rw [Nat.add_comm m 1, win_split, show B ^ 1 = B from by rw [Int.pow_succ, Int.pow_zero, Int.one_mul]]
  simp [win, sumB]
/-- One digit of a quotient by one limb. -/
theorem short_step {q a : List Int} {k m : Nat} {r x : Int} (hx : 0 < x ∧ x < B) (hr : 0 ≤ r ∧ r < x) (hk : k < q.length) (hq : Lim q) (ha : Lim a)
    (hv : win q (k + 1) m * x + r = win a (k + 1) m) :
    let d := (r * B + lg a k) / x; let r2 := (r * B + lg a k) % x; let q2 := q.set k d
    (0 ≤ d ∧ d < B) ∧ (0 ≤ r2 ∧ r2 < x) ∧ Lim q2 ∧ win q2 k (m + 1) * x + r2 = win a k (m + 1) := by
  intro d r2 q2
  have h0 := ha k
  have n0 : 0 ≤ r * B := Int.mul_nonneg hr.1 (by decide)
  have m1 : (r + 1) * B ≤ x * B := Int.mul_le_mul_of_nonneg_right (by omega) (by decide)
  have m2 : (r + 1) * B = r * B + B := by grind
  have d0 : 0 ≤ d := Int.ediv_nonneg (by omega) (by omega)
  have d1 : d < B := by
    apply Int.ediv_lt_of_lt_mul hx.1
    rw [Int.mul_comm B x]
    omega
  have e1 : x * d + r2 = r * B + lg a k := Int.mul_ediv_add_emod _ _
  refine ⟨⟨d0, d1⟩, ⟨Int.emod_nonneg _ (by omega), Int.emod_lt_of_pos _ hx.1⟩, hq.set _ ⟨d0, d1⟩, ?_⟩
  have f1 : win q2 (k + 1) m = win q (k + 1) m := win_congr fun j hj => by
    show lg (q.set k _) _ = _
    rw [lg_set, if_neg (by omega)]
  have f2 : lg q2 k = d := by
    show lg (q.set k _) _ = _
    rw [lg_set, if_pos ⟨rfl, hk⟩]
  rw [win_low, win_low, f1, f2, ← hv]
  have : (d + B * win q (k + 1) m) * x = x * d + B * (win q (k + 1) m * x) := by grind
  rw [this]
  have : B * (win q (k + 1) m * x + r) = B * (win q (k + 1) m * x) + r * B := by grind
  omega
end Go.Proofs.YtimpimnaknkgpaaDoor.Num
