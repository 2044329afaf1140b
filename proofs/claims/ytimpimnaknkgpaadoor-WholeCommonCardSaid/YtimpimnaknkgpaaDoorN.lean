/- Plain numbers: values of rows of limbs. No program in sight. -/
set_option linter.unusedVariables false
namespace Go.Proofs.YtimpimnaknkgpaaDoor.Num
def B : Int := 18446744073709551616
theorem B_eq : B = 18446744073709551616 := rfl
def lg (l : List Int) (j : Nat) : Int := l.getD j 0
def Lim (l : List Int) : Prop := ∀ j, 0 ≤ lg l j ∧ lg l j < B
/-- The value of n limbs, told by their places. -/
def sumB (f : Nat → Int) : Nat → Int
  | 0 => 0
  | n + 1 => sumB f n + f n * B ^ n
def win (l : List Int) (o n : Nat) : Int := sumB (fun j => lg l (o + j)) n
theorem sumB_congr {f g : Nat → Int} {n : Nat} (h : ∀ j, j < n → f j = g j) : sumB f n = sumB g n := by
  induction n with
  | zero => rfl
  | succ n ih => unfold sumB; rw [ih (fun j hj => h j (by omega)), h n (by omega)]
theorem lg_set (l : List Int) (j k : Nat) (x : Int) : lg (l.set j x) k = if j = k ∧ j < l.length then x else lg l k := by
  unfold lg
  rw [List.getD_eq_getElem?_getD, List.getD_eq_getElem?_getD, List.getElem?_set]
  by_cases h : j = k
  · subst h
    by_cases h2 : j < l.length
    · simp [h2]
    · simp [h2]
  · simp [h]
theorem lg_out {l : List Int} {j : Nat} (h : l.length ≤ j) : lg l j = 0 := by
  unfold lg
  rw [List.getD_eq_getElem?_getD, List.getElem?_eq_none h]; rfl
theorem Bp (n : Nat) : 0 < B ^ n := Int.pow_pos (by decide)
theorem Bs (n : Nat) : B ^ (n + 1) = B ^ n * B := Int.pow_succ _ _
theorem sumB_bd {f : Nat → Int} (n : Nat) (h : ∀ j, 0 ≤ f j ∧ f j < B) : 0 ≤ sumB f n ∧ sumB f n < B ^ n := by
  induction n with
  | zero => exact ⟨Int.le_refl _, by simp [sumB]⟩
  | succ n ih =>
    unfold sumB
    rw [Bs]
    have h1 := h n
    have h2 := Bp n
    have h3 : 0 ≤ f n * B ^ n := Int.mul_nonneg h1.1 (Int.le_of_lt h2)
    have h4 : f n * B ^ n ≤ (B - 1) * B ^ n := Int.mul_le_mul_of_nonneg_right (by omega) (Int.le_of_lt h2)
    have h5 : (B - 1) * B ^ n = B ^ n * B - B ^ n := by grind
    omega
/-! one limb's difference and sum -/
def subD (x y b : Int) : Int := (x + B - y - b) % B
def subC (x y b : Int) : Int := if x < y + b then 1 else 0
theorem sub_one {x y b : Int} (hx : 0 ≤ x ∧ x < B) (hy : 0 ≤ y ∧ y < B) (hb : b = 0 ∨ b = 1) : 0 ≤ subD x y b ∧ subD x y b < B ∧ (subC x y b = 0 ∨ subC x y b = 1) ∧ subD x y b = x - y - b + subC x y b * B := by
  unfold subD subC
  rw [B_eq] at *
  split <;> omega
def addD (x y c : Int) : Int := (x + y + c) % B
def addC (x y c : Int) : Int := (x + y + c) / B
theorem add_one {x y c : Int} (hx : 0 ≤ x ∧ x < B) (hy : 0 ≤ y ∧ y < B) (hb : c = 0 ∨ c = 1) : 0 ≤ addD x y c ∧ addD x y c < B ∧ (addC x y c = 0 ∨ addC x y c = 1) ∧ addD x y c + addC x y c * B = x + y + c := by
  unfold addD addC
  rw [B_eq] at *
  omega
theorem win_s (l : List Int) (o n : Nat) : win l o (n + 1) = win l o n + lg l (o + n) * B ^ n := rfl
theorem win_congr {l l' : List Int} {o n : Nat} (h : ∀ j, j < n → lg l (o + j) = lg l' (o + j)) : win l o n = win l' o n := sumB_congr h
theorem Lim.set {l : List Int} (h : Lim l) (j : Nat) {x : Int} (hx : 0 ≤ x ∧ x < B) : Lim (l.set j x) := by
  intro k
  rw [lg_set]
  split
  · exact hx
  · exact h k
/-- One round of a difference in place. -/
theorem take_step {L L' l : List Int} {o k m : Nat} {b : Int} (hk : o + k < L'.length) (hL : Lim L') (hl : Lim l)
    (hfar : ∀ j, (j < o ∨ o + k ≤ j) → lg L' j = lg L j) (hb : b = 0 ∨ b = 1) (hm : l.length = m)
    (hv : win L' o k - b * B ^ k = win L o k - sumB (lg l) (min k m)) :
    let x := lg L' (o + k); let y := lg l k; let L2 := L'.set (o + k) (subD x y b); let b2 := subC x y b
    Lim L2 ∧ (∀ j, (j < o ∨ o + (k + 1) ≤ j) → lg L2 j = lg L j) ∧ (b2 = 0 ∨ b2 = 1) ∧ win L2 o (k + 1) - b2 * B ^ (k + 1) = win L o (k + 1) - sumB (lg l) (min (k + 1) m) := by
  intro x y L2 b2
  obtain ⟨h0, h1, h2, h3⟩ := sub_one (x := x) (y := y) (b := b) (hL _) (hl _) hb
  refine ⟨hL.set _ ⟨h0, h1⟩, ?_, h2, ?_⟩
  · intro j hj
    show lg (L'.set (o + k) _) j = _
    rw [lg_set, if_neg (by omega)]
    exact hfar j (by omega)
  · have e1 : win L2 o k = win L' o k := win_congr fun j hj => by
      show lg (L'.set (o + k) _) _ = _
      rw [lg_set, if_neg (by omega)]
    have e2 : lg L2 (o + k) = subD x y b := by
      show lg (L'.set (o + k) _) _ = _
      rw [lg_set, if_pos ⟨rfl, hk⟩]
    have e3 : sumB (lg l) (min (k + 1) m) = sumB (lg l) (min k m) + y * B ^ k := by
      by_cases hkm : k < m
      · rw [show min (k + 1) m = k + 1 by omega, show min k m = k by omega]; rfl
      · rw [show min (k + 1) m = m by omega, show min k m = m by omega]
        have : y = 0 := lg_out (by omega)
        rw [this]; simp
    have e4 : lg L (o + k) = x := (hfar (o + k) (by omega)).symm
    rw [win_s, win_s, e1, e2, e3, e4, Bs]
    show win L' o k + subD x y b * B ^ k - subC x y b * (B ^ k * B) = _
    rw [h3]
    generalize subC x y b = c at *
    generalize win L' o k = p at *
    generalize win L o k = q at *
    generalize sumB (lg l) (min k m) = r at *
    generalize B ^ k = P at *
    grind

/-! one limb's product, and two sums -/
theorem mul_one {x y t c : Int} (hx : 0 ≤ x ∧ x < B) (hy : 0 ≤ y ∧ y < B) (ht : 0 ≤ t ∧ t < B) (hc : 0 ≤ c ∧ c < B) :
    let low := x * y % B; let l1 := addD low t 0; let c1 := addC low t 0; let l2 := addD l1 c 0; let c2 := addC l1 c 0
    (0 ≤ low ∧ low < B) ∧ (0 ≤ l1 ∧ l1 < B) ∧ (0 ≤ x * y / B + c1 ∧ x * y / B + c1 < B) ∧ (0 ≤ l2 ∧ l2 < B) ∧ (0 ≤ x * y / B + c1 + c2 ∧ x * y / B + c1 + c2 < B) ∧ l2 + (x * y / B + c1 + c2) * B = x * y + t + c := by
  intro low l1 c1 l2 c2
  have hB : 0 < B := by decide
  have hlow : 0 ≤ low ∧ low < B := ⟨Int.emod_nonneg _ (by omega), Int.emod_lt_of_pos _ hB⟩
  have hp0 : 0 ≤ x * y := Int.mul_nonneg hx.1 hy.1
  have hp1 : x * y ≤ (B - 1) * (B - 1) := Int.mul_le_mul (by omega) (by omega) hy.1 (by omega)
  have hd : B * (x * y / B) + low = x * y := Int.mul_ediv_add_emod _ _
  have hh : 0 ≤ x * y / B := Int.ediv_nonneg hp0 (by omega)
  obtain ⟨a0, a1, a2, a3⟩ := add_one hlow ht (Or.inl rfl : (0 : Int) = 0 ∨ (0 : Int) = 1)
  obtain ⟨b0, b1, b2, b3⟩ := add_one (x := l1) (y := c) (c := 0) ⟨a0, a1⟩ hc (Or.inl rfl)
  have e1 : (B - 1) * (B - 1) = B * B - 2 * B + 1 := by grind
  have e2 : l1 + (x * y / B + c1) * B = x * y + t := by
    have : (x * y / B + c1) * B = B * (x * y / B) + c1 * B := by grind
    have a3' : l1 + c1 * B = low + t + 0 := a3
    omega
  have e3 : l2 + (x * y / B + c1 + c2) * B = x * y + t + c := by
    have : (x * y / B + c1 + c2) * B = (x * y / B + c1) * B + c2 * B := by grind
    have b3' : l2 + c2 * B = l1 + c + 0 := b3
    omega
  refine ⟨hlow, ⟨a0, a1⟩, ⟨by rcases a2 with h | h <;> omega, ?_⟩, ⟨b0, b1⟩, ⟨by rcases a2 with h | h <;> rcases b2 with h' | h' <;> omega, ?_⟩, e3⟩
  · apply Int.lt_of_not_ge
    intro hge
    have : B * B ≤ (x * y / B + c1) * B := Int.mul_le_mul_of_nonneg_right hge (by omega)
    omega
  · apply Int.lt_of_not_ge
    intro hge
    have : B * B ≤ (x * y / B + c1 + c2) * B := Int.mul_le_mul_of_nonneg_right hge (by omega)
    omega
/-- One round of a row's product with a limb, added in place. -/
theorem addp_step {L L' l : List Int} {o k : Nat} {x c : Int} (hk : o + k < L'.length) (hL : Lim L') (hl : Lim l)
    (hfar : ∀ j, (j < o ∨ o + k ≤ j) → lg L' j = lg L j) (hx : 0 ≤ x ∧ x < B) (hc : 0 ≤ c ∧ c < B)
    (hv : win L' o k + c * B ^ k = win L o k + x * sumB (lg l) k) {d c2 : Int} (hd : 0 ≤ d ∧ d < B) (he : d + c2 * B = x * lg l k + lg L' (o + k) + c) :
    let L2 := L'.set (o + k) d
    Lim L2 ∧ (∀ j, (j < o ∨ o + (k + 1) ≤ j) → lg L2 j = lg L j) ∧ win L2 o (k + 1) + c2 * B ^ (k + 1) = win L o (k + 1) + x * sumB (lg l) (k + 1) := by
  intro L2
  refine ⟨hL.set _ hd, ?_, ?_⟩
  · intro j hj
    show lg (L'.set (o + k) _) j = _
    rw [lg_set, if_neg (by omega)]
    exact hfar j (by omega)
  · have e1 : win L2 o k = win L' o k := win_congr fun j hj => by
      show lg (L'.set (o + k) _) _ = _
      rw [lg_set, if_neg (by omega)]
    have e2 : lg L2 (o + k) = d := by
      show lg (L'.set (o + k) _) _ = _
      rw [lg_set, if_pos ⟨rfl, hk⟩]
    have e4 : lg L (o + k) = lg L' (o + k) := (hfar (o + k) (by omega)).symm
    rw [win_s, win_s, e1, e2, e4, Bs]
    show win L' o k + d * B ^ k + c2 * (B ^ k * B) = win L o k + lg L' (o + k) * B ^ k + x * (sumB (lg l) k + lg l k * B ^ k)
    generalize win L' o k = p at *
    generalize win L o k = q at *
    generalize sumB (lg l) k = r at *
    generalize B ^ k = P at *
    generalize lg L' (o + k) = t at *
    generalize lg l k = y at *
    have : d = x * y + t + c - c2 * B := by omega
    subst this
    grind

/-! a row's value; rows without noughts at the end -/
def lv (l : List Int) : Int := sumB (lg l) l.length
def Tr (l : List Int) : Prop := l.length = 0 ∨ lg l (l.length - 1) ≠ 0
theorem sumB_zero {f : Nat → Int} {m n : Nat} (hmn : m ≤ n) (h : ∀ j, m ≤ j → j < n → f j = 0) : sumB f n = sumB f m := by
  induction n with
  | zero => rw [show m = 0 by omega]
  | succ n ih =>
    by_cases e : m = n + 1
    · rw [e]
    · show sumB f n + f n * B ^ n = _
      rw [h n (by omega) (by omega), ih (by omega) (fun j h1 h2 => h j h1 (by omega))]
      simp
theorem lv_of {l : List Int} {n : Nat} (h : l.length ≤ n) : sumB (lg l) n = lv l := sumB_zero h fun _ h1 _ => lg_out h1
theorem lg_take (l : List Int) (m j : Nat) : lg (l.take m) j = if j < m then lg l j else 0 := by
  unfold lg
  rw [List.getD_eq_getElem?_getD, List.getD_eq_getElem?_getD, List.getElem?_take]
  split <;> rfl
theorem Lim.take {l : List Int} (h : Lim l) (m : Nat) : Lim (l.take m) := by
  intro j
  rw [lg_take]
  split
  · exact h j
  · exact ⟨Int.le_refl _, by decide⟩
theorem lv_bd {l : List Int} (h : Lim l) : 0 ≤ lv l ∧ lv l < B ^ l.length := sumB_bd _ h
theorem lv_nil : lv [] = 0 := rfl
def trimN (l : List Int) : Nat → Nat
  | 0 => 0
  | n + 1 => if lg l n = 0 then trimN l n else n + 1
theorem trimN_le (l : List Int) (n : Nat) : trimN l n ≤ n := by
  induction n with
  | zero => exact Nat.le_refl _
  | succ n ih => unfold trimN; split <;> omega
theorem trimN_s0 {l : List Int} {k : Nat} (h : lg l k = 0) : trimN l (k + 1) = trimN l k := by
  show (if lg l k = 0 then trimN l k else k + 1) = _
  rw [if_pos h]
theorem trimN_s1 {l : List Int} {k : Nat} (h : ¬ lg l k = 0) : trimN l (k + 1) = k + 1 := by
  show (if lg l k = 0 then trimN l k else k + 1) = _
  rw [if_neg h]
theorem trimN_zero (l : List Int) (n : Nat) : ∀ j, trimN l n ≤ j → j < n → lg l j = 0 := by
  induction n with
  | zero => intro j _ h; omega
  | succ n ih =>
    intro j h1 h2
    by_cases hz : lg l n = 0
    · rw [trimN_s0 hz] at h1
      by_cases e : j = n
      · rw [e]; exact hz
      · exact ih j h1 (by omega)
    · rw [trimN_s1 hz] at h1; omega
theorem trimN_top (l : List Int) (n : Nat) : trimN l n = 0 ∨ lg l (trimN l n - 1) ≠ 0 := by
  induction n with
  | zero => exact .inl rfl
  | succ n ih =>
    by_cases hz : lg l n = 0
    · rw [trimN_s0 hz]; exact ih
    · rw [trimN_s1 hz]; exact .inr hz
theorem take_trim_len (l : List Int) : (l.take (trimN l l.length)).length = trimN l l.length := by
  rw [List.length_take]; have := trimN_le l l.length; omega
theorem lv_trim (l : List Int) : lv (l.take (trimN l l.length)) = lv l := by
  unfold lv
  rw [take_trim_len, sumB_zero (trimN_le l l.length) (trimN_zero l l.length)]
  exact sumB_congr fun j hj => by rw [lg_take, if_pos hj]
theorem Tr_trim (l : List Int) : Tr (l.take (trimN l l.length)) := by
  unfold Tr
  rw [take_trim_len]
  rcases trimN_top l l.length with h | h
  · exact .inl h
  · by_cases e : trimN l l.length = 0
    · exact .inl e
    · right
      rw [lg_take, if_pos (by omega)]; exact h
theorem trim_of_Tr {l : List Int} (h : Tr l) : trimN l l.length = l.length := by
  rcases h with h | h
  · rw [h]; rfl
  · cases e : l.length with
    | zero => rfl
    | succ n => rw [e] at h; exact trimN_s1 h

theorem lg_replicate (n j : Nat) : lg (List.replicate n 0) j = 0 := by
  unfold lg
  rw [List.getD_eq_getElem?_getD, List.getElem?_replicate]
  split <;> rfl
theorem Lim_zero (n : Nat) : Lim (List.replicate n 0) := fun j => by rw [lg_replicate]; exact ⟨Int.le_refl _, by decide⟩
theorem win_zero (l : List Int) : win l 0 l.length = lv l := sumB_congr fun j _ => by rw [Nat.zero_add]
/-- One round of a sum. -/
theorem sum_step {L' x y : List Int} {k : Nat} {c : Int} (hk : k < L'.length) (hL : Lim L') (hx : Lim x) (hy : Lim y) (hc : c = 0 ∨ c = 1)
    (hv : win L' 0 k + c * B ^ k = sumB (lg x) k + sumB (lg y) k) :
    let L2 := L'.set k (addD (lg x k) (lg y k) c); let c2 := addC (lg x k) (lg y k) c
    Lim L2 ∧ (c2 = 0 ∨ c2 = 1) ∧ win L2 0 (k + 1) + c2 * B ^ (k + 1) = sumB (lg x) (k + 1) + sumB (lg y) (k + 1) := by
  intro L2 c2
  obtain ⟨a0, a1, a2, a3⟩ := add_one (hx k) (hy k) hc
  refine ⟨hL.set _ ⟨a0, a1⟩, a2, ?_⟩
  have e1 : win L2 0 k = win L' 0 k := win_congr fun j hj => by
    show lg (L'.set k _) _ = _
    rw [lg_set, if_neg (by omega)]
  have e2 : lg L2 (0 + k) = addD (lg x k) (lg y k) c := by
    show lg (L'.set k _) _ = _
    rw [lg_set, if_pos ⟨by omega, hk⟩]
  rw [win_s, e1, e2, Bs]
  show win L' 0 k + addD (lg x k) (lg y k) c * B ^ k + c2 * (B ^ k * B) = sumB (lg x) k + lg x k * B ^ k + (sumB (lg y) k + lg y k * B ^ k)
  have a3' : addD (lg x k) (lg y k) c + c2 * B = lg x k + lg y k + c := a3
  generalize addD (lg x k) (lg y k) c = d at *
  generalize win L' 0 k = p at *
  generalize sumB (lg x) k = q at *
  generalize sumB (lg y) k = r at *
  generalize B ^ k = P at *
  generalize lg x k = u at *
  generalize lg y k = v at *
  have : d = u + v + c - c2 * B := by omega
  subst this
  grind
theorem Bmono {m n : Nat} (h : m ≤ n) : B ^ m ≤ B ^ n := by
  obtain ⟨d, rfl⟩ := Nat.exists_eq_add_of_le h
  rw [Int.pow_add]
  have h1 := Bp m
  have h2 := Bp d
  have : B ^ m * 1 ≤ B ^ m * B ^ d := Int.mul_le_mul_of_nonneg_left (by omega) (by omega)
  omega
/-- A sum's end: nothing is carried out of a row that is one limb longer than both. -/
theorem sum_end {L x y : List Int} {n : Nat} {c : Int} (hL : L.length = n + 1) (hlim : Lim L) (hx : Lim x) (hy : Lim y) (hxn : x.length ≤ n) (hyn : y.length ≤ n) (hc : c = 0 ∨ c = 1)
    (hv : win L 0 (n + 1) + c * B ^ (n + 1) = sumB (lg x) (n + 1) + sumB (lg y) (n + 1)) : lv L = lv x + lv y := by
  rw [lv_of (by omega), lv_of (by omega)] at hv
  have e : win L 0 (n + 1) = lv L := by rw [← hL]; exact win_zero L
  rw [e] at hv
  have b1 := lv_bd hx
  have b2 := lv_bd hy
  have b3 := (lv_bd hlim).1
  have m1 := Bmono hxn
  have m2 := Bmono hyn
  have m3 := Bp n
  rw [Bs] at hv
  have : B ^ n * 2 ≤ B ^ n * B := Int.mul_le_mul_of_nonneg_left (by decide) (by omega)
  rcases hc with rfl | rfl
  · omega
  · omega
theorem len_of_lv {r : List Int} (h : Tr r) (hl : Lim r) {k : Nat} (hv : lv r < B ^ k) : r.length ≤ k := by
  apply Nat.le_of_not_lt
  intro hgt
  rcases h with h | h
  · omega
  · obtain ⟨m, hm⟩ : ∃ m, r.length = m + 1 := ⟨r.length - 1, by omega⟩
    have e : lv r = sumB (lg r) m + lg r m * B ^ m := by unfold lv; rw [hm]; rfl
    rw [hm] at h
    have h1 := (sumB_bd m hl).1
    have h2 := hl m
    have h3 : lg r m ≠ 0 := h
    have h4 := Bp m
    have h5 : 1 * B ^ m ≤ lg r m * B ^ m := Int.mul_le_mul_of_nonneg_right (by omega) (by omega)
    have := Bmono (show k ≤ m by omega)
    omega

/-! order -/
def cmpI (a b : Int) : Int := if a < b then -1 else if b < a then 1 else 0
def ordN (a b : List Int) : Nat → Int
  | 0 => 0
  | n + 1 => if cmpI (lg a n) (lg b n) = 0 then ordN a b n else cmpI (lg a n) (lg b n)
def ordL (a b : List Int) (n m : Nat) : Int := if cmpI n m = 0 then ordN a b n else cmpI n m
theorem ordN_s0 {a b : List Int} {k : Nat} (h : cmpI (lg a k) (lg b k) = 0) : ordN a b (k + 1) = ordN a b k := by
  show (if cmpI (lg a k) (lg b k) = 0 then ordN a b k else _) = _
  rw [if_pos h]
theorem ordN_s1 {a b : List Int} {k : Nat} (h : ¬ cmpI (lg a k) (lg b k) = 0) : ordN a b (k + 1) = cmpI (lg a k) (lg b k) := by
  show (if cmpI (lg a k) (lg b k) = 0 then ordN a b k else _) = _
  rw [if_neg h]
theorem cmpI_self {n m : Nat} (h : cmpI n m = 0) : n = m := by
  unfold cmpI at h
  split at h
  · omega
  · split at h <;> omega

theorem cmpI_lt {a b : Int} (h : a < b) : cmpI a b = -1 := by unfold cmpI; rw [if_pos h]
theorem cmpI_gt {a b : Int} (h : b < a) : cmpI a b = 1 := by unfold cmpI; rw [if_neg (by omega), if_pos h]
theorem cmpI_eq (a : Int) : cmpI a a = 0 := by unfold cmpI; rw [if_neg (by omega), if_neg (by omega)]
theorem cmpI_cases (a b : Int) : (a < b ∧ cmpI a b = -1) ∨ (a = b ∧ cmpI a b = 0) ∨ (b < a ∧ cmpI a b = 1) := by
  by_cases h1 : a < b
  · exact .inl ⟨h1, cmpI_lt h1⟩
  · by_cases h2 : b < a
    · exact .inr (.inr ⟨h2, cmpI_gt h2⟩)
    · have : a = b := by omega
      subst this
      exact .inr (.inl ⟨rfl, cmpI_eq a⟩)
theorem ordN_val {a b : List Int} (ha : Lim a) (hb : Lim b) (n : Nat) : ordN a b n = cmpI (sumB (lg a) n) (sumB (lg b) n) := by
  induction n with
  | zero => rfl
  | succ n ih =>
    have e1 : sumB (lg a) (n + 1) = sumB (lg a) n + lg a n * B ^ n := rfl
    have e2 : sumB (lg b) (n + 1) = sumB (lg b) n + lg b n * B ^ n := rfl
    have b1 := sumB_bd n ha
    have b2 := sumB_bd n hb
    have hp := Bp n
    rw [e1, e2]
    rcases cmpI_cases (lg a n) (lg b n) with ⟨h, hc⟩ | ⟨h, hc⟩ | ⟨h, hc⟩
    · rw [ordN_s1 (by omega), hc]
      have : (lg a n + 1) * B ^ n ≤ lg b n * B ^ n := Int.mul_le_mul_of_nonneg_right (by omega) (by omega)
      have e : (lg a n + 1) * B ^ n = lg a n * B ^ n + B ^ n := by grind
      rw [cmpI_lt (by omega)]
    · rw [ordN_s0 hc, ih, h]
      generalize lg b n * B ^ n = q
      unfold cmpI
      have e1 : (sumB (lg a) n + q < sumB (lg b) n + q) = (sumB (lg a) n < sumB (lg b) n) := by
        apply propext; omega
      have e2 : (sumB (lg b) n + q < sumB (lg a) n + q) = (sumB (lg b) n < sumB (lg a) n) := by
        apply propext; omega
      simp only [e1, e2]
    · rw [ordN_s1 (by omega), hc]
      have : (lg b n + 1) * B ^ n ≤ lg a n * B ^ n := Int.mul_le_mul_of_nonneg_right (by omega) (by omega)
      have e : (lg b n + 1) * B ^ n = lg b n * B ^ n + B ^ n := by grind
      rw [cmpI_gt (by omega)]
theorem lv_lt_of_len {a b : List Int} (ha : Lim a) (hb : Lim b) (tb : Tr b) (h : a.length < b.length) : lv a < lv b := by
  apply Int.lt_of_not_ge
  intro hge
  have := len_of_lv tb hb (k := a.length) (by have := (lv_bd ha).2; omega)
  omega
theorem ordL_val {a b : List Int} (ha : Lim a) (hb : Lim b) (ta : Tr a) (tb : Tr b) : ordL a b a.length b.length = cmpI (lv a) (lv b) := by
  unfold ordL
  rcases cmpI_cases (a.length : Int) (b.length : Int) with ⟨h, hc⟩ | ⟨h, hc⟩ | ⟨h, hc⟩
  · rw [if_neg (by omega), hc, cmpI_lt (lv_lt_of_len ha hb tb (by omega))]
  · rw [if_pos hc, ordN_val ha hb]
    have : a.length = b.length := by omega
    unfold lv
    rw [← this]
  · rw [if_neg (by omega), hc, cmpI_gt (lv_lt_of_len hb ha ta (by omega))]

/-- A difference's end: nothing is borrowed where the greater one comes first. -/
theorem take_end {L a l : List Int} {n : Nat} {b : Int} (hL : L.length = n) (hlim : Lim L) (hla : Lim a) (ha : a.length = n) (hl : Lim l) (hln : l.length ≤ n) (hb : b = 0 ∨ b = 1)
    (hle : lv l ≤ lv a) (hv : win L 0 n - b * B ^ n = win a 0 n - sumB (lg l) (min n l.length)) : lv L = lv a - lv l := by
  have e : win L 0 n = lv L := by rw [← hL]; exact win_zero L
  have e2 : win a 0 n = lv a := by rw [← ha]; exact win_zero a
  rw [e, e2, show min n l.length = l.length by omega, show sumB (lg l) l.length = lv l from rfl] at hv
  have h1 := lv_bd hlim
  rw [hL] at h1
  rcases hb with rfl | rfl
  · omega
  · omega

theorem win_split (l : List Int) (o k m : Nat) : win l o (k + m) = win l o k + B ^ k * win l (o + k) m := by
  induction m with
  | zero => simp [win, sumB]
  | succ m ih =>
    rw [show k + (m + 1) = k + m + 1 by omega, win_s, ih, win_s, Int.pow_add, show o + (k + m) = o + k + m by omega]
    grind
/-- One round of a product. -/
theorem mul_step {L' L2 b : List Int} {k m : Nat} {c x a : Int} (hlen : L2.length = L'.length) (hk : k + m < L'.length) (hlim : Lim L2)
    (hfar : ∀ j, (j < k ∨ k + m ≤ j) → lg L2 j = lg L' j) (hz : ∀ j, k + m ≤ j → lg L' j = 0) (hc : 0 ≤ c ∧ c < B)
    (hv : win L2 k m + c * B ^ m = win L' k m + x * lv b) (ha : win L' 0 (k + m) = a * lv b) :
    let L3 := L2.set (k + m) c
    Lim L3 ∧ (∀ j, k + 1 + m ≤ j → lg L3 j = 0) ∧ win L3 0 (k + 1 + m) = (a + x * B ^ k) * lv b := by
  intro L3
  refine ⟨hlim.set _ hc, fun j hj => ?_, ?_⟩
  · show lg (L2.set _ _) j = 0
    rw [lg_set, if_neg (by omega), hfar j (by omega), hz j (by omega)]
  · have e1 : win L3 0 (k + m) = win L2 0 (k + m) := win_congr fun j hj => by
      show lg (L2.set _ _) _ = _
      rw [lg_set, if_neg (by omega)]
    have e2 : lg L3 (0 + (k + m)) = c := by
      show lg (L2.set _ _) _ = _
      rw [lg_set, if_pos ⟨by omega, by omega⟩]
    have e3 : win L2 0 k = win L' 0 k := win_congr fun j hj => hfar _ (by omega)
    rw [show k + 1 + m = k + m + 1 by omega, win_s, e1, e2, win_split, Int.pow_add, e3, Nat.zero_add]
    rw [win_split, Nat.zero_add] at ha
    generalize win L2 k m = p at *
    generalize win L' k m = q at *
    generalize win L' 0 k = r at *
    generalize B ^ k = P at *
    generalize B ^ m = M at *
    generalize lv b = v at *
    have e4 : P * p + c * (P * M) = P * (p + c * M) := by grind
    have e5 : P * (q + x * v) = P * q + x * P * v := by grind
    have e6 : (a + x * P) * v = a * v + x * P * v := by grind
    rw [e6, ← ha, Int.add_assoc, e4, hv, e5]
    omega
end Go.Proofs.YtimpimnaknkgpaaDoor.Num
