import Derived.Test.YtimpimnaknkgpaaDoorN2
/- Plain numbers: a row divided by a row, digit by digit. -/
set_option linter.unusedVariables false
namespace Go.Proofs.YtimpimnaknkgpaaDoor.Num
/-- A part of a row. -/
def part (l : List Int) (o m : Nat) : List Int := (l.drop o).take m
theorem part_len {l : List Int} {o m : Nat} (h : o + m ≤ l.length) : (part l o m).length = m := by
  unfold part; rw [List.length_take, List.length_drop]; omega
theorem lg_part (l : List Int) (o m j : Nat) : lg (part l o m) j = if j < m then lg l (o + j) else 0 := by
  unfold part
  rw [lg_take]
  split
  · unfold lg
    rw [List.getD_eq_getElem?_getD, List.getD_eq_getElem?_getD, List.getElem?_drop]
  · rfl
theorem Lim.part {l : List Int} (h : Lim l) (o m : Nat) : Lim (part l o m) := fun j => by
  rw [lg_part]; split
  · exact h _
  · exact ⟨Int.le_refl _, by decide⟩
theorem lv_part {l : List Int} {o m : Nat} (h : o + m ≤ l.length) : lv (part l o m) = win l o m := by
  unfold lv
  rw [part_len h]
  exact sumB_congr fun j hj => by rw [lg_part, if_pos hj]
theorem win_bd {l : List Int} (h : Lim l) (o n : Nat) : 0 ≤ win l o n ∧ win l o n < B ^ n := sumB_bd n fun j => h _
/-- The top limb of a row whose value is at least half of its length's. -/
theorem top_half {l : List Int} {k : Nat} (h : Lim l) (hl : l.length = k + 1) (hv : 9223372036854775808 * B ^ k ≤ lv l) : 9223372036854775808 ≤ lg l k := by
  have e : lv l = sumB (lg l) k + lg l k * B ^ k := by unfold lv; rw [hl]; rfl
  have b := sumB_bd k h
  apply Int.le_of_not_gt
  intro hlt
  have : (lg l k + 1) * B ^ k ≤ 9223372036854775808 * B ^ k := Int.mul_le_mul_of_nonneg_right (by omega) (Int.le_of_lt (Bp k))
  have e2 : (lg l k + 1) * B ^ k = lg l k * B ^ k + B ^ k := by grind
  omega
/-- A row that is as long as its value needs. -/
theorem len_eq {l : List Int} {k : Nat} (h : Lim l) (ht : Tr l) (h1 : lv l < B ^ (k + 1)) (h2 : B ^ k ≤ lv l) : l.length = k + 1 := by
  have a := len_of_lv ht h h1
  have b := (lv_bd h).2
  by_cases e : l.length ≤ k
  · have := Bmono e
    omega
  · omega
/-- The guess is not too small. -/
theorem guess_ge {P D p1 p0 top low : Int} {M : Int} (hM : 0 < M) (hP : P = (p1 * B + p0) * M + low) (hlow : 0 ≤ low ∧ low < M) (hD : top * M ≤ D) (htop : 0 < top) (hp1 : 0 ≤ p1) (hp0 : 0 ≤ p0) (hlt : P < D * B) :
    P / D ≤ (if top ≤ p1 then B - 1 else (p1 * B + p0) / top) := by
  have hDp : 0 < D := by have := Int.mul_pos htop hM; omega
  have hn : 0 ≤ p1 * B + p0 := by have := Int.mul_nonneg hp1 (show 0 ≤ B by decide); omega
  have hP0 : 0 ≤ P := by rw [hP]; have := Int.mul_nonneg hn (Int.le_of_lt hM); omega
  split
  · have : P / D < B := Int.ediv_lt_of_lt_mul hDp (by rw [Int.mul_comm]; exact hlt)
    omega
  · apply Int.le_ediv_of_mul_le htop
    have hQ : 0 ≤ P / D := Int.ediv_nonneg hP0 (by omega)
    have h1 : P / D * D ≤ P := Int.ediv_mul_le _ (by omega)
    have h2 : P / D * (top * M) ≤ P / D * D := Int.mul_le_mul_of_nonneg_left hD hQ
    have e1 : P / D * (top * M) = P / D * top * M := by grind
    generalize P / D * top = z at *
    apply Int.le_of_lt_add_one
    apply Int.lt_of_not_ge
    intro hge
    have h3 : (p1 * B + p0 + 1) * M ≤ z * M := Int.mul_le_mul_of_nonneg_right hge (Int.le_of_lt hM)
    have e2 : (p1 * B + p0 + 1) * M = (p1 * B + p0) * M + M := by grind
    omega
/-- A part of a row taken off: what becomes of the row's value. -/
theorem win_change {L L' : List Int} {i m N : Nat} (hN : i + m ≤ N) (hfar : ∀ j, (j < i ∨ i + m ≤ j) → lg L' j = lg L j) : win L' 0 N - win L 0 N = B ^ i * (win L' i m - win L i m) := by
  obtain ⟨d, rfl⟩ := Nat.exists_eq_add_of_le hN
  rw [win_split L', win_split L, win_split L', win_split L, Nat.zero_add, Nat.zero_add]
  have e1 : win L' 0 i = win L 0 i := win_congr fun j hj => hfar _ (by omega)
  have e2 : win L' (i + m) d = win L (i + m) d := win_congr fun j hj => hfar _ (by omega)
  rw [e1, e2]
  grind
/-- The state of a division: j digits are still to come. -/
structure DivI (R0 D : Int) (k lq j : Nat) (L q : List Int) : Prop where
  len : L.length = lq + k
  lim : Lim L
  qlen : q.length = lq
  qlim : Lim q
  zero : ∀ t, j + k ≤ t → lg L t = 0
  up : win L j k < D
  val : lv L + win q j (lq - j) * (B ^ j * D) = R0
theorem DivI.part {R0 D : Int} {k lq i : Nat} {L q : List Int} (h : DivI R0 D k lq (i + 1) L q) : 0 ≤ win L i (k + 1) ∧ win L i (k + 1) < D * B := by
  rw [win_low]
  have h0 := h.lim i
  have h1 := (win_bd h.lim (i + 1) k).1
  have h2 := h.up
  have h3 : B * (win L (i + 1) k + 1) ≤ B * D := Int.mul_le_mul_of_nonneg_left (by omega) (by decide)
  have e1 : B * (win L (i + 1) k + 1) = B * win L (i + 1) k + B := by grind
  have e2 : D * B = B * D := Int.mul_comm _ _
  have := Int.mul_nonneg (show 0 ≤ B by decide) h1
  omega
theorem DivI.step {R0 D Q : Int} {k lq i : Nat} {L q L' : List Int} (h : DivI R0 D k lq (i + 1) L q) (hD : D < B ^ k) (hi : i < lq) (hQ : 0 ≤ Q ∧ Q < B) (hlen : L'.length = L.length) (hlim : Lim L')
    (hfar : ∀ j, (j < i ∨ i + (k + 1) ≤ j) → lg L' j = lg L j) (hv : win L' i (k + 1) = win L i (k + 1) - Q * D) (hlt : win L' i (k + 1) < D) : DivI R0 D k lq i L' (q.set i Q) := by
  have hk : lg L' (i + k) = 0 := by
    have e := win_s L' i k
    have b := (win_bd hlim i k).1
    have h0 := (hlim (i + k)).1
    apply Int.le_antisymm _ h0
    apply Int.le_of_not_gt
    intro hgt
    have : 1 * B ^ k ≤ lg L' (i + k) * B ^ k := Int.mul_le_mul_of_nonneg_right (by omega) (Int.le_of_lt (Bp k))
    omega
  refine ⟨by rw [hlen]; exact h.len, hlim, by rw [List.length_set]; exact h.qlen, h.qlim.set _ hQ, ?_, ?_, ?_⟩
  · intro t ht
    by_cases e : t = i + k
    · rw [e]; exact hk
    · rw [hfar t (by omega)]
      exact h.zero t (by omega)
  · have e := win_s L' i k
    rw [hk] at e
    omega
  · have hN : i + (k + 1) ≤ lq + k := by omega
    have e1 := win_change hN hfar
    have e2 : win L' 0 (lq + k) = lv L' := by rw [← h.len, ← hlen]; exact win_zero L'
    have e3 : win L 0 (lq + k) = lv L := by rw [← h.len]; exact win_zero L
    rw [e2, e3, hv] at e1
    have e4 : win (q.set i Q) i (lq - i) = Q + B * win q (i + 1) (lq - (i + 1)) := by
      rw [show lq - i = lq - (i + 1) + 1 by omega, win_low, lg_set, if_pos ⟨rfl, by rw [h.qlen]; exact hi⟩]
      rw [win_congr (l := q.set i Q) (l' := q) fun j hj => by rw [lg_set, if_neg (by omega)]]
    have e5 := h.val
    rw [Bs] at e5
    rw [e4]
    generalize win q (i + 1) (lq - (i + 1)) = W at *
    generalize B ^ i = P at *
    generalize win L i (k + 1) = p at *
    have : (Q + B * W) * (P * D) = Q * (P * D) + W * (P * B * D) := by grind
    rw [this]
    have : P * (p - Q * D - p) = -(Q * (P * D)) := by grind
    omega
theorem DivI.done {R0 D : Int} {k lq : Nat} {L q : List Int} (h : DivI R0 D k lq 0 L q) (hD : 0 < D) : lv q = R0 / D ∧ lv L = R0 % D := by
  have e1 : win q 0 (lq - 0) = lv q := by rw [Nat.sub_zero, ← h.qlen]; exact win_zero q
  have e2 : lv L = win L 0 k := by
    rw [← win_zero, h.len]
    exact sumB_zero (by omega) fun j h1 _ => h.zero _ (by omega)
  have e3 := h.val
  have h4 := h.up
  have h5 := (lv_bd h.lim).1
  rw [e1] at e3
  have e6 : lv q * (B ^ 0 * D) = lv q * D := by rw [Int.pow_zero, Int.one_mul]
  rw [e6] at e3
  obtain ⟨g1, g2⟩ := ediv_of (U := R0) (q := lv q) hD (by omega) (by omega)
  exact ⟨g1.symm, by omega⟩
theorem DivI.start {R0 D S v : Int} {k lq n : Nat} {L q : List Int} (hl : L.length = lq + k) (hn : lq + k = n + 1) (hL : Lim L) (hq : q.length = lq) (hqz : Lim q) (hv : lv L = R0) (hR : R0 = S * v) (hva : v < B ^ n) (hS : 0 < S ∧ S ≤ 9223372036854775808)
    (hk : 1 ≤ k) (hD : 9223372036854775808 * B ^ (k - 1) ≤ D) : DivI R0 D k lq lq L q := by
  refine ⟨hl, hL, hq, hqz, fun t ht => lg_out (by omega), ?_, ?_⟩
  · have e1 : lv L = win L 0 lq + B ^ lq * win L lq k := by
      rw [← win_zero, hl, win_split, Nat.zero_add]
    have h0 := (win_bd hL 0 lq).1
    have h1 : S * v < S * B ^ n := Int.mul_lt_mul_of_pos_left hva hS.1
    have h2 : n = lq + (k - 1) := by omega
    rw [h2, Int.pow_add] at h1
    have h3 : B ^ lq * win L lq k < B ^ lq * (S * B ^ (k - 1)) := by
      have : S * (B ^ lq * B ^ (k - 1)) = B ^ lq * (S * B ^ (k - 1)) := by grind
      omega
    have h4 : win L lq k < S * B ^ (k - 1) := Int.lt_of_mul_lt_mul_left h3 (Int.le_of_lt (Bp lq))
    have h5 : S * B ^ (k - 1) ≤ 9223372036854775808 * B ^ (k - 1) := Int.mul_le_mul_of_nonneg_right hS.2 (Int.le_of_lt (Bp _))
    omega
  · rw [Nat.sub_self]; simp [win, sumB]; exact hv
/-- Windowed end of a difference. -/
theorem take_win {L L' l : List Int} {o n : Nat} {b : Int} (hlim : Lim L') (hl : l.length = n) (hb : b = 0 ∨ b = 1) (hle : lv l ≤ win L o n) (hv : win L' o n - b * B ^ n = win L o n - sumB (lg l) (min n n)) : win L' o n = win L o n - lv l := by
  have e : sumB (lg l) (min n n) = lv l := by rw [Nat.min_self]; unfold lv; rw [hl]
  rw [e] at hv
  have h1 := win_bd hlim o n
  rcases hb with rfl | rfl
  · omega
  · omega
/-- A divisor, moved up until its highest bit is set. -/
theorem norm_div {y : List Int} {k1 : Nat} {S T : Int} (hl : y.length = k1 + 1) (hy : Lim y) (hS : 0 < S) (hST : S * T = B) (h1 : 9223372036854775808 ≤ lg y k1 * S) (h2 : lg y k1 * S < B) :
    S * lv y < B ^ (k1 + 1) ∧ 9223372036854775808 * B ^ k1 ≤ S * lv y := by
  have e : lv y = sumB (lg y) k1 + lg y k1 * B ^ k1 := by unfold lv; rw [hl]; rfl
  have b := sumB_bd k1 hy
  have hp := Bp k1
  have ht : lg y k1 + 1 ≤ T := by
    apply Int.le_of_not_gt
    intro hgt
    have : S * T ≤ S * lg y k1 := Int.mul_le_mul_of_nonneg_left (by omega) (by omega)
    have : S * lg y k1 = lg y k1 * S := Int.mul_comm _ _
    omega
  constructor
  · have h3 : S * lv y < S * ((lg y k1 + 1) * B ^ k1) := by
      apply Int.mul_lt_mul_of_pos_left _ hS
      have : (lg y k1 + 1) * B ^ k1 = lg y k1 * B ^ k1 + B ^ k1 := by grind
      omega
    have h4 : S * ((lg y k1 + 1) * B ^ k1) ≤ S * (T * B ^ k1) := Int.mul_le_mul_of_nonneg_left (Int.mul_le_mul_of_nonneg_right ht (by omega)) (by omega)
    have h5 : S * (T * B ^ k1) = B ^ (k1 + 1) := by rw [Bs, ← Int.mul_assoc, hST, Int.mul_comm]
    omega
  · have h3 : S * (lg y k1 * B ^ k1) ≤ S * lv y := Int.mul_le_mul_of_nonneg_left (by omega) (by omega)
    have h4 : S * (lg y k1 * B ^ k1) = lg y k1 * S * B ^ k1 := by grind
    have h5 : 9223372036854775808 * B ^ k1 ≤ lg y k1 * S * B ^ k1 := Int.mul_le_mul_of_nonneg_right h1 (by omega)
    omega
/-- The product of a row and a digit, as it is laid. -/
theorem prod_val {Pr y : List Int} {k1 : Nat} {c q : Int} (hl : Pr.length = k1 + 1 + 1) (hy : y.length = k1 + 1) (hv : win Pr 0 (k1 + 1) + c * B ^ (k1 + 1) = win (List.replicate (k1 + 1 + 1) 0) 0 (k1 + 1) + q * sumB (lg y) (k1 + 1)) :
    lv (Pr.set (k1 + 1) c) = q * lv y := by
  have e0 : win (List.replicate (k1 + 1 + 1) 0) 0 (k1 + 1) = 0 := sumB_zero (m := 0) (by omega) fun j _ _ => lg_replicate _ _
  have e1 : sumB (lg y) (k1 + 1) = lv y := by unfold lv; rw [hy]
  have e2 : lv (Pr.set (k1 + 1) c) = win (Pr.set (k1 + 1) c) 0 (k1 + 1 + 1) := by
    rw [← win_zero, List.length_set, hl]
  rw [e0, e1] at hv
  rw [e2, win_s, Nat.zero_add, lg_set, if_pos ⟨rfl, by omega⟩, win_congr (l := Pr.set (k1 + 1) c) (l' := Pr) fun j hj => by rw [lg_set, if_neg (by omega)], hv]
  simp
end Go.Proofs.YtimpimnaknkgpaaDoor.Num
