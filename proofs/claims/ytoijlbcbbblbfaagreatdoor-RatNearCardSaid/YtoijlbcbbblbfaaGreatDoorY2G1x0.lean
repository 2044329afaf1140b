/- Plain numbers: values of rows of limbs. No program in sight. -/
set_option linter.unusedVariables false
namespace Go.Proofs.YtoijlbcbbblbfaaGreatDoor.Num
def B : Int := 18446744073709551616
theorem B_eq : B = 18446744073709551616 := rfl
def lg (l : List Int) (j : Nat) : Int := l.getD j 0
def Lim (l : List Int) : Prop := ∀ j, 0 ≤ lg l j ∧ lg l j < B
/-- The value of n limbs, told by their places. -/
def sumB (f : Nat → Int) : Nat → Int
 | 0 => 0
 | n + 1 => sumB f n + f n * B ^ n
def win (l : List Int) (o n : Nat) : Int := sumB (fun j => lg l (o + j)) n
theorem sumB_congr {f g : Nat → Int} {n : Nat} (h : ∀ j, j < n → f j = g j) : sumB f n = sumB g n := by
 induction n with
 | zero => rfl
 | succ n ih => unfold sumB; rw [ih (fun j hj => h j (by omega)), h n (by omega)]
theorem lg_set (l : List Int) (j k : Nat) (x : Int) : lg (l.set j x) k = if j = k ∧ j < l.length then x else lg l k := by
 unfold lg
 rw [List.getD_eq_getElem?_getD, List.getD_eq_getElem?_getD, List.getElem?_set]
 by_cases h : j = k
 ·subst h
  by_cases h2 : j < l.length
  ·simp [h2]
  ·simp [h2]
 ·simp [h]
theorem lg_out {l : List Int} {j : Nat} (h : l.length ≤ j) : lg l j = 0 := by
 unfold lg
 rw [List.getD_eq_getElem?_getD, List.getElem?_eq_none h]; rfl
theorem Bp (n : Nat) : 0 < B ^ n := Int.pow_pos (by decide)
theorem Bs (n : Nat) : B ^ (n + 1) = B ^ n * B := Int.pow_succ _ _
theorem sumB_bd {f : Nat → Int} (n : Nat) (h : ∀ j, 0 ≤ f j ∧ f j < B) : 0 ≤ sumB f n ∧ sumB f n < B ^ n := by
 induction n with
 | zero => exact ⟨Int.le_refl _, by simp [sumB]⟩
 | succ n ih =>
  unfold sumB
  rw [Bs]
  have h1 := h n
  have h2 := Bp n
  have h3 : 0 ≤ f n * B ^ n := Int.mul_nonneg h1.1 (Int.le_of_lt h2)
  have h4 : f n * B ^ n ≤ (B - 1) * B ^ n := Int.mul_le_mul_of_nonneg_right (by omega) (Int.le_of_lt h2)
  have h5 : (B - 1) * B ^ n = B ^ n * B - B ^ n := by grind
  omega
/-! one limb's difference and sum -/
def subD (x y b : Int) : Int := (x + B - y - b) % B
def subC (x y b : Int) : Int := if x < y + b then 1 else 0
theorem sub_one {x y b : Int} (hx : 0 ≤ x ∧ x < B) (hy : 0 ≤ y ∧ y < B) (hb : b = 0 ∨ b = 1) : 0 ≤ subD x y b ∧ subD x y b < B ∧ (subC x y b = 0 ∨ subC x y b = 1) ∧ subD x y b = x - y - b + subC x y b * B := by
 unfold subD subC
 rw [B_eq] at *
 split <;> omega
def addD (x y c : Int) : Int := (x + y + c) % B
def addC (x y c : Int) : Int := (x + y + c) / B
theorem add_one {x y c : Int} (hx : 0 ≤ x ∧ x < B) (hy : 0 ≤ y ∧ y < B) (hb : c = 0 ∨ c = 1) : 0 ≤ addD x y c ∧ addD x y c < B ∧ (addC x y c = 0 ∨ addC x y c = 1) ∧ addD x y c + addC x y c * B = x + y + c := by
 unfold addD addC
 rw [B_eq] at *
 omega
theorem win_s (l : List Int) (o n : Nat) : win l o (n + 1) = win l o n + lg l (o + n) * B ^ n := rfl
theorem win_congr {l l' : List Int} {o n : Nat} (h : ∀ j, j < n → lg l (o + j) = lg l' (o + j)) : win l o n = win l' o n := sumB_congr h
theorem Lim.set {l : List Int} (h : Lim l) (j : Nat) {x : Int} (hx : 0 ≤ x ∧ x < B) : Lim (l.set j x) := by
 intro k
 rw [lg_set]
 split
 ·exact hx
 ·exact h k
/-- One round of a difference in place. -/
theorem take_step {L L' l : List Int} {o k m : Nat} {b : Int} (hk : o + k < L'.length) (hL : Lim L') (hl : Lim l)
  (hfar : ∀ j, (j < o ∨ o + k ≤ j) → lg L' j = lg L j) (hb : b = 0 ∨ b = 1) (hm : l.length = m)
  (hv : win L' o k - b * B ^ k = win L o k - sumB (lg l) (min k m)) :
  let x := lg L' (o + k); let y := lg l k; let L2 := L'.set (o + k) (subD x y b); let b2 := subC x y b
  Lim L2 ∧ (∀ j, (j < o ∨ o + (k + 1) ≤ j) → lg L2 j = lg L j) ∧ (b2 = 0 ∨ b2 = 1) ∧ win L2 o (k + 1) - b2 * B ^ (k + 1) = win L o (k + 1) - sumB (lg l) (min (k + 1) m) := by
 intro x y L2 b2
 obtain ⟨h0, h1, h2, h3⟩ := sub_one (x := x) (y := y) (b := b) (hL _) (hl _) hb
 refine ⟨hL.set _ ⟨h0, h1⟩, ?_, h2, ?_⟩
 ·intro j hj
  show lg (L'.set (o + k) _) j = _
  rw [lg_set, if_neg (by omega)]
  exact hfar j (by omega)
 ·have e1 : win L2 o k = win L' o k := win_congr fun j hj => by
   show lg (L'.set (o + k) _) _ = _
   rw [lg_set, if_neg (by omega)]
  have e2 : lg L2 (o + k) = subD x y b := by
   show lg (L'.set (o + k) _) _ = _
   rw [lg_set, if_pos ⟨rfl, hk⟩]
  have e3 : sumB (lg l) (min (k + 1) m) = sumB (lg l) (min k m) + y * B ^ k := by
   by_cases hkm : k < m
   ·rw [show min (k + 1) m = k + 1 by omega, show min k m = k by omega]; rfl
   ·rw [show min (k + 1) m = m by omega, show min k m = m by omega]
    have : y = 0 := lg_out (by omega)
    rw [this]; simp
  have e4 : lg L (o + k) = x := (hfar (o + k) (by omega)).symm
  rw [win_s, win_s, e1, e2, e3, e4, Bs]
  show win L' o k + subD x y b * B ^ k - subC x y b * (B ^ k * B) = _
  rw [h3]
  generalize subC x y b = c at *
  generalize win L' o k = p at *
  generalize win L o k = q at *
  generalize sumB (lg l) (min k m) = r at *
  generalize B ^ k = P at *
  grind

/-! one limb's product, and two sums -/
theorem mul_one {x y t c : Int} (hx : 0 ≤ x ∧ x < B) (hy : 0 ≤ y ∧ y < B) (ht : 0 ≤ t ∧ t < B) (hc : 0 ≤ c ∧ c < B) :
  let low := x * y % B; let l1 := addD low t 0; let c1 := addC low t 0; let l2 := addD l1 c 0; let c2 := addC l1 c 0
  (0 ≤ low ∧ low < B) ∧ (0 ≤ l1 ∧ l1 < B) ∧ (0 ≤ x * y / B + c1 ∧ x * y / B + c1 < B) ∧ (0 ≤ l2 ∧ l2 < B) ∧ (0 ≤ x * y / B + c1 + c2 ∧ x * y / B + c1 + c2 < B) ∧ l2 + (x * y / B + c1 + c2) * B = x * y + t + c := by
 intro low l1 c1 l2 c2
 have hB : 0 < B := by decide
 have hlow : 0 ≤ low ∧ low < B := ⟨Int.emod_nonneg _ (by omega), Int.emod_lt_of_pos _ hB⟩
 have hp0 : 0 ≤ x * y := Int.mul_nonneg hx.1 hy.1
 have hp1 : x * y ≤ (B - 1) * (B - 1) := Int.mul_le_mul (by omega) (by omega) hy.1 (by omega)
 have hd : B * (x * y / B) + low = x * y := Int.mul_ediv_add_emod _ _
 have hh : 0 ≤ x * y / B := Int.ediv_nonneg hp0 (by omega)
 obtain ⟨a0, a1, a2, a3⟩ := add_one hlow ht (Or.inl rfl : (0 : Int) = 0 ∨ (0 : Int) = 1)
 obtain ⟨b0, b1, b2, b3⟩ := add_one (x := l1) (y := c) (c := 0) ⟨a0, a1⟩ hc (Or.inl rfl)
 have e1 : (B - 1) * (B - 1) = B * B - 2 * B + 1 := by grind
 have e2 : l1 + (x * y / B + c1) * B = x * y + t := by
  have : (x * y / B + c1) * B = B * (x * y / B) + c1 * B := by grind
  have a3' : l1 + c1 * B = low + t + 0 := a3
  omega
 have e3 : l2 + (x * y / B + c1 + c2) * B = x * y + t + c := by
  have : (x * y / B + c1 + c2) * B = (x * y / B + c1) * B + c2 * B := by grind
  have b3' : l2 + c2 * B = l1 + c + 0 := b3
  omega
 refine ⟨hlow, ⟨a0, a1⟩, ⟨by rcases a2 with h | h <;> omega, ?_⟩, ⟨b0, b1⟩, ⟨by rcases a2 with h | h <;> rcases b2 with h' | h' <;> omega, ?_⟩, e3⟩
 ·apply Int.lt_of_not_ge
  intro hge
  have : B * B ≤ (x * y / B + c1) * B := Int.mul_le_mul_of_nonneg_right hge (by omega)
  omega
 ·apply Int.lt_of_not_ge
  intro hge
  have : B * B ≤ (x * y / B + c1 + c2) * B := Int.mul_le_mul_of_nonneg_right hge (by omega)
  omega
/-- One round of a row's product with a limb, added in place. -/
theorem addp_step {L L' l : List Int} {o k : Nat} {x c : Int} (hk : o + k < L'.length) (hL : Lim L') (hl : Lim l)
  (hfar : ∀ j, (j < o ∨ o + k ≤ j) → lg L' j = lg L j) (hx : 0 ≤ x ∧ x < B) (hc : 0 ≤ c ∧ c < B)
  (hv : win L' o k + c * B ^ k = win L o k + x * sumB (lg l) k) {d c2 : Int} (hd : 0 ≤ d ∧ d < B) (he : d + c2 * B = x * lg l k + lg L' (o + k) + c) :
  let L2 := L'.set (o + k) d
  Lim L2 ∧ (∀ j, (j < o ∨ o + (k + 1) ≤ j) → lg L2 j = lg L j) ∧ win L2 o (k + 1) + c2 * B ^ (k + 1) = win L o (k + 1) + x * sumB (lg l) (k + 1) := by
 intro L2
 refine ⟨hL.set _ hd, ?_, ?_⟩
 ·intro j hj
  show lg (L'.set (o + k) _) j = _
  rw [lg_set, if_neg (by omega)]
  exact hfar j (by omega)
 ·have e1 : win L2 o k = win L' o k := win_congr fun j hj => by
   show lg (L'.set (o + k) _) _ = _
   rw [lg_set, if_neg (by omega)]
  have e2 : lg L2 (o + k) = d := by
   show lg (L'.set (o + k) _) _ = _
   rw [lg_set, if_pos ⟨rfl, hk⟩]
  have e4 : lg L (o + k) = lg L' (o + k) := (hfar (o + k) (by omega)).symm
  rw [win_s, win_s, e1, e2, e4, Bs]
  show win L' o k + d * B ^ k + c2 * (B ^ k * B) = win L o k + lg L' (o + k) * B ^ k + x * (sumB (lg l) k + lg l k * B ^ k)
  generalize win L' o k = p at *
  generalize win L o k = q at *
  generalize sumB (lg l) k = r at *
  generalize B ^ k = P at *
  generalize lg L' (o + k) = t at *
  generalize lg l k = y at *
  have : d = x * y + t + c - c2 * B := by omega
  subst this
  grind

/-! a row's value; rows without noughts at the end -/
def lv (l : List Int) : Int := sumB (lg l) l.length
def Tr (l : List Int) : Prop := l.length = 0 ∨ lg l (l.length - 1) ≠ 0
theorem sumB_zero {f : Nat → Int} {m n : Nat} (hmn : m ≤ n) (h : ∀ j, m ≤ j → j < n → f j = 0) : sumB f n = sumB f m := by
 induction n with
 | zero => rw [show m = 0 by omega]
 | succ n ih =>
  by_cases e : m = n + 1
  ·rw [e]
  ·show sumB f n + f n * B ^ n = _
   rw [h n (by omega) (by omega), ih (by omega) (fun j h1 h2 => h j h1 (by omega))]
   simp
theorem lv_of {l : List Int} {n : Nat} (h : l.length ≤ n) : sumB (lg l) n = lv l := sumB_zero h fun _ h1 _ => lg_out h1
theorem lg_take (l : List Int) (m j : Nat) : lg (l.take m) j = if j < m then lg l j else 0 := by
 unfold lg
 rw [List.getD_eq_getElem?_getD, List.getD_eq_getElem?_getD, List.getElem?_take]
 split <;> rfl
theorem Lim.take {l : List Int} (h : Lim l) (m : Nat) : Lim (l.take m) := by
 intro j
 rw [lg_take]
 split
 ·exact h j
 ·exact ⟨Int.le_refl _, by decide⟩
theorem lv_bd {l : List Int} (h : Lim l) : 0 ≤ lv l ∧ lv l < B ^ l.length := sumB_bd _ h
theorem lv_nil : lv [] = 0 := rfl
def trimN (l : List Int) : Nat → Nat
 | 0 => 0
 | n + 1 => if lg l n = 0 then trimN l n else n + 1
theorem trimN_le (l : List Int) (n : Nat) : trimN l n ≤ n := by
 induction n with
 | zero => exact Nat.le_refl _
 | succ n ih => unfold trimN; split <;> omega
theorem trimN_s0 {l : List Int} {k : Nat} (h : lg l k = 0) : trimN l (k + 1) = trimN l k := by
 show (if lg l k = 0 then trimN l k else k + 1) = _
 rw [if_pos h]
theorem trimN_s1 {l : List Int} {k : Nat} (h : ¬ lg l k = 0) : trimN l (k + 1) = k + 1 := by
 show (if lg l k = 0 then trimN l k else k + 1) = _
 rw [if_neg h]
theorem trimN_zero (l : List Int) (n : Nat) : ∀ j, trimN l n ≤ j → j < n → lg l j = 0 := by
 induction n with
 | zero => intro j _ h; omega
 | succ n ih =>
  intro j h1 h2
  by_cases hz : lg l n = 0
  ·rw [trimN_s0 hz] at h1
   by_cases e : j = n
   ·rw [e]; exact hz
   ·exact ih j h1 (by omega)
  ·rw [trimN_s1 hz] at h1; omega
theorem trimN_top (l : List Int) (n : Nat) : trimN l n = 0 ∨ lg l (trimN l n - 1) ≠ 0 := by
 induction n with
 | zero => exact .inl rfl
 | succ n ih =>
  by_cases hz : lg l n = 0
  ·rw [trimN_s0 hz]; exact ih
  ·rw [trimN_s1 hz]; exact .inr hz
theorem take_trim_len (l : List Int) : (l.take (trimN l l.length)).length = trimN l l.length := by
 rw [List.length_take]; have := trimN_le l l.length; omega
theorem lv_trim (l : List Int) : lv (l.take (trimN l l.length)) = lv l := by
 unfold lv
 rw [take_trim_len, sumB_zero (trimN_le l l.length) (trimN_zero l l.length)]
 exact sumB_congr fun j hj => by rw [lg_take, if_pos hj]
theorem Tr_trim (l : List Int) : Tr (l.take (trimN l l.length)) := by
 unfold Tr
 rw [take_trim_len]
 rcases trimN_top l l.length with h | h
 ·exact .inl h
 ·by_cases e : trimN l l.length = 0
  ·exact .inl e
  ·right
   rw [lg_take, if_pos (by omega)]; exact h
theorem trim_of_Tr {l : List Int} (h : Tr l) : trimN l l.length = l.length := by
 rcases h with h | h
 ·rw [h]; rfl
 ·cases e : l.length with
  | zero => rfl
  | succ n => rw [e] at h; exact trimN_s1 h

theorem lg_replicate (n j : Nat) : lg (List.replicate n 0) j = 0 := by
 unfold lg
 rw [List.getD_eq_getElem?_getD, List.getElem?_replicate]
 split <;> rfl
theorem Lim_zero (n : Nat) : Lim (List.replicate n 0) := fun j => by rw [lg_replicate]; exact ⟨Int.le_refl _, by decide⟩
theorem win_zero (l : List Int) : win l 0 l.length = lv l := sumB_congr fun j _ => by rw [Nat.zero_add]
/-- One round of a sum. -/
theorem sum_step {L' x y : List Int} {k : Nat} {c : Int} (hk : k < L'.length) (hL : Lim L') (hx : Lim x) (hy : Lim y) (hc : c = 0 ∨ c = 1)
  (hv : win L' 0 k + c * B ^ k = sumB (lg x) k + sumB (lg y) k) :
  let L2 := L'.set k (addD (lg x k) (lg y k) c); let c2 := addC (lg x k) (lg y k) c
  Lim L2 ∧ (c2 = 0 ∨ c2 = 1) ∧ win L2 0 (k + 1) + c2 * B ^ (k + 1) = sumB (lg x) (k + 1) + sumB (lg y) (k + 1) := by
 intro L2 c2
 obtain ⟨a0, a1, a2, a3⟩ := add_one (hx k) (hy k) hc
 refine ⟨hL.set _ ⟨a0, a1⟩, a2, ?_⟩
 have e1 : win L2 0 k = win L' 0 k := win_congr fun j hj => by
  show lg (L'.set k _) _ = _
  rw [lg_set, if_neg (by omega)]
 have e2 : lg L2 (0 + k) = addD (lg x k) (lg y k) c := by
  show lg (L'.set k _) _ = _
  rw [lg_set, if_pos ⟨by omega, hk⟩]
 rw [win_s, e1, e2, Bs]
 show win L' 0 k + addD (lg x k) (lg y k) c * B ^ k + c2 * (B ^ k * B) = sumB (lg x) k + lg x k * B ^ k + (sumB (lg y) k + lg y k * B ^ k)
 have a3' : addD (lg x k) (lg y k) c + c2 * B = lg x k + lg y k + c := a3
 generalize addD (lg x k) (lg y k) c = d at *
 generalize win L' 0 k = p at *
 generalize sumB (lg x) k = q at *
 generalize sumB (lg y) k = r at *
 generalize B ^ k = P at *
 generalize lg x k = u at *
 generalize lg y k = v at *
 have : d = u + v + c - c2 * B := by omega
 subst this
 grind
theorem Bmono {m n : Nat} (h : m ≤ n) : B ^ m ≤ B ^ n := by
 obtain ⟨d, rfl⟩ := Nat.exists_eq_add_of_le h
 rw [Int.pow_add]
 have h1 := Bp m
 have h2 := Bp d
 have : B ^ m * 1 ≤ B ^ m * B ^ d := Int.mul_le_mul_of_nonneg_left (by omega) (by omega)
 omega
/-- A sum's end: nothing is carried out of a row that is one limb longer than both. -/
theorem sum_end {L x y : List Int} {n : Nat} {c : Int} (hL : L.length = n + 1) (hlim : Lim L) (hx : Lim x) (hy : Lim y) (hxn : x.length ≤ n) (hyn : y.length ≤ n) (hc : c = 0 ∨ c = 1)
  (hv : win L 0 (n + 1) + c * B ^ (n + 1) = sumB (lg x) (n + 1) + sumB (lg y) (n + 1)) : lv L = lv x + lv y := by
 rw [lv_of (by omega), lv_of (by omega)] at hv
 have e : win L 0 (n + 1) = lv L := by rw [← hL]; exact win_zero L
 rw [e] at hv
 have b1 := lv_bd hx
 have b2 := lv_bd hy
 have b3 := (lv_bd hlim).1
 have m1 := Bmono hxn
 have m2 := Bmono hyn
 have m3 := Bp n
 rw [Bs] at hv
 have : B ^ n * 2 ≤ B ^ n * B := Int.mul_le_mul_of_nonneg_left (by decide) (by omega)
 rcases hc with rfl | rfl
 ·omega
 ·omega
theorem len_of_lv {r : List Int} (h : Tr r) (hl : Lim r) {k : Nat} (hv : lv r < B ^ k) : r.length ≤ k := by
 apply Nat.le_of_not_lt
 intro hgt
 rcases h with h | h
 ·omega
 ·obtain ⟨m, hm⟩ : ∃ m, r.length = m + 1 := ⟨r.length - 1, by omega⟩
  have e : lv r = sumB (lg r) m + lg r m * B ^ m := by unfold lv; rw [hm]; rfl
  rw [hm] at h
  have h1 := (sumB_bd m hl).1
  have h2 := hl m
  have h3 : lg r m ≠ 0 := h
  have h4 := Bp m
  have h5 : 1 * B ^ m ≤ lg r m * B ^ m := Int.mul_le_mul_of_nonneg_right (by omega) (by omega)
  have := Bmono (show k ≤ m by omega)
  omega

/-! order -/
def cmpI (a b : Int) : Int := if a < b then -1 else if b < a then 1 else 0
def ordN (a b : List Int) : Nat → Int
 | 0 => 0
 | n + 1 => if cmpI (lg a n) (lg b n) = 0 then ordN a b n else cmpI (lg a n) (lg b n)
def ordL (a b : List Int) (n m : Nat) : Int := if cmpI n m = 0 then ordN a b n else cmpI n m
theorem ordN_s0 {a b : List Int} {k : Nat} (h : cmpI (lg a k) (lg b k) = 0) : ordN a b (k + 1) = ordN a b k := by
 show (if cmpI (lg a k) (lg b k) = 0 then ordN a b k else _) = _
 rw [if_pos h]
theorem ordN_s1 {a b : List Int} {k : Nat} (h : ¬ cmpI (lg a k) (lg b k) = 0) : ordN a b (k + 1) = cmpI (lg a k) (lg b k) := by
 show (if cmpI (lg a k) (lg b k) = 0 then ordN a b k else _) = _
 rw [if_neg h]
theorem cmpI_self {n m : Nat} (h : cmpI n m = 0) : n = m := by
 unfold cmpI at h
 split at h
 ·omega
 ·split at h <;> omega

theorem cmpI_lt {a b : Int} (h : a < b) : cmpI a b = -1 := by unfold cmpI; rw [if_pos h]
theorem cmpI_gt {a b : Int} (h : b < a) : cmpI a b = 1 := by unfold cmpI; rw [if_neg (by omega), if_pos h]
theorem cmpI_eq (a : Int) : cmpI a a = 0 := by unfold cmpI; rw [if_neg (by omega), if_neg (by omega)]
theorem cmpI_cases (a b : Int) : (a < b ∧ cmpI a b = -1) ∨ (a = b ∧ cmpI a b = 0) ∨ (b < a ∧ cmpI a b = 1) := by
 by_cases h1 : a < b
 ·exact .inl ⟨h1, cmpI_lt h1⟩
 ·by_cases h2 : b < a
  ·exact .inr (.inr ⟨h2, cmpI_gt h2⟩)
  ·have : a = b := by omega
   subst this
   exact .inr (.inl ⟨rfl, cmpI_eq a⟩)
theorem ordN_val {a b : List Int} (ha : Lim a) (hb : Lim b) (n : Nat) : ordN a b n = cmpI (sumB (lg a) n) (sumB (lg b) n) := by
 induction n with
 | zero => rfl
 | succ n ih =>
  have e1 : sumB (lg a) (n + 1) = sumB (lg a) n + lg a n * B ^ n := rfl
  have e2 : sumB (lg b) (n + 1) = sumB (lg b) n + lg b n * B ^ n := rfl
  have b1 := sumB_bd n ha
  have b2 := sumB_bd n hb
  have hp := Bp n
  rw [e1, e2]
  rcases cmpI_cases (lg a n) (lg b n) with ⟨h, hc⟩ | ⟨h, hc⟩ | ⟨h, hc⟩
  ·rw [ordN_s1 (by omega), hc]
   have : (lg a n + 1) * B ^ n ≤ lg b n * B ^ n := Int.mul_le_mul_of_nonneg_right (by omega) (by omega)
   have e : (lg a n + 1) * B ^ n = lg a n * B ^ n + B ^ n := by grind
   rw [cmpI_lt (by omega)]
  ·rw [ordN_s0 hc, ih, h]
   generalize lg b n * B ^ n = q
   unfold cmpI
   have e1 : (sumB (lg a) n + q < sumB (lg b) n + q) = (sumB (lg a) n < sumB (lg b) n) := by
    apply propext; omega
   have e2 : (sumB (lg b) n + q < sumB (lg a) n + q) = (sumB (lg b) n < sumB (lg a) n) := by
    apply propext; omega
   simp only [e1, e2]
  ·rw [ordN_s1 (by omega), hc]
   have : (lg b n + 1) * B ^ n ≤ lg a n * B ^ n := Int.mul_le_mul_of_nonneg_right (by omega) (by omega)
   have e : (lg b n + 1) * B ^ n = lg b n * B ^ n + B ^ n := by grind
   rw [cmpI_gt (by omega)]
theorem lv_lt_of_len {a b : List Int} (ha : Lim a) (hb : Lim b) (tb : Tr b) (h : a.length < b.length) : lv a < lv b := by
 apply Int.lt_of_not_ge
 intro hge
 have := len_of_lv tb hb (k := a.length) (by have := (lv_bd ha).2; omega)
 omega
theorem ordL_val {a b : List Int} (ha : Lim a) (hb : Lim b) (ta : Tr a) (tb : Tr b) : ordL a b a.length b.length = cmpI (lv a) (lv b) := by
 unfold ordL
 rcases cmpI_cases (a.length : Int) (b.length : Int) with ⟨h, hc⟩ | ⟨h, hc⟩ | ⟨h, hc⟩
 ·rw [if_neg (by omega), hc, cmpI_lt (lv_lt_of_len ha hb tb (by omega))]
 ·rw [if_pos hc, ordN_val ha hb]
  have : a.length = b.length := by omega
  unfold lv
  rw [← this]
 ·rw [if_neg (by omega), hc, cmpI_gt (lv_lt_of_len hb ha ta (by omega))]

/-- A difference's end: nothing is borrowed where the greater one comes first. -/
theorem take_end {L a l : List Int} {n : Nat} {b : Int} (hL : L.length = n) (hlim : Lim L) (hla : Lim a) (ha : a.length = n) (hl : Lim l) (hln : l.length ≤ n) (hb : b = 0 ∨ b = 1)
  (hle : lv l ≤ lv a) (hv : win L 0 n - b * B ^ n = win a 0 n - sumB (lg l) (min n l.length)) : lv L = lv a - lv l := by
 have e : win L 0 n = lv L := by rw [← hL]; exact win_zero L
 have e2 : win a 0 n = lv a := by rw [← ha]; exact win_zero a
 rw [e, e2, show min n l.length = l.length by omega, show sumB (lg l) l.length = lv l from rfl] at hv
 have h1 := lv_bd hlim
 rw [hL] at h1
 rcases hb with rfl | rfl
 ·omega
 ·omega

theorem win_split (l : List Int) (o k m : Nat) : win l o (k + m) = win l o k + B ^ k * win l (o + k) m := by
 induction m with
 | zero => simp [win, sumB]
 | succ m ih =>
  rw [show k + (m + 1) = k + m + 1 by omega, win_s, ih, win_s, Int.pow_add, show o + (k + m) = o + k + m by omega]
  grind
/-- One round of a product. -/
theorem mul_step {L' L2 b : List Int} {k m : Nat} {c x a : Int} (hlen : L2.length = L'.length) (hk : k + m < L'.length) (hlim : Lim L2)
  (hfar : ∀ j, (j < k ∨ k + m ≤ j) → lg L2 j = lg L' j) (hz : ∀ j, k + m ≤ j → lg L' j = 0) (hc : 0 ≤ c ∧ c < B)
  (hv : win L2 k m + c * B ^ m = win L' k m + x * lv b) (ha : win L' 0 (k + m) = a * lv b) :
  let L3 := L2.set (k + m) c
  Lim L3 ∧ (∀ j, k + 1 + m ≤ j → lg L3 j = 0) ∧ win L3 0 (k + 1 + m) = (a + x * B ^ k) * lv b := by
 intro L3
 refine ⟨hlim.set _ hc, fun j hj => ?_, ?_⟩
 ·show lg (L2.set _ _) j = 0
  rw [lg_set, if_neg (by omega), hfar j (by omega), hz j (by omega)]
 ·have e1 : win L3 0 (k + m) = win L2 0 (k + m) := win_congr fun j hj => by
   show lg (L2.set _ _) _ = _
   rw [lg_set, if_neg (by omega)]
  have e2 : lg L3 (0 + (k + m)) = c := by
   show lg (L2.set _ _) _ = _
   rw [lg_set, if_pos ⟨by omega, by omega⟩]
  have e3 : win L2 0 k = win L' 0 k := win_congr fun j hj => hfar _ (by omega)
  rw [show k + 1 + m = k + m + 1 by omega, win_s, e1, e2, win_split, Int.pow_add, e3, Nat.zero_add]
  rw [win_split, Nat.zero_add] at ha
  generalize win L2 k m = p at *
  generalize win L' k m = q at *
  generalize win L' 0 k = r at *
  generalize B ^ k = P at *
  generalize B ^ m = M at *
  generalize lv b = v at *
  have e4 : P * p + c * (P * M) = P * (p + c * M) := by grind
  have e5 : P * (q + x * v) = P * q + x * P * v := by grind
  have e6 : (a + x * P) * v = a * v + x * P * v := by grind
  rw [e6, ← ha, Int.add_assoc, e4, hv, e5]
  omega
end Go.Proofs.YtoijlbcbbblbfaaGreatDoor.Num

/- Plain numbers: how a digit of a quotient is found (bits.Div64, and a row by a row). -/
set_option linter.unusedVariables false
namespace Go.Proofs.YtoijlbcbbblbfaaGreatDoor.Num
/-- Half a quotient: U32 * b + U1 by Y = Y1 * b + Y0, b = 2^32. -/
structure Half (U32 U1 Y Y1 Y0 : Int) : Prop where
 y : Y = Y1 * 4294967296 + Y0
 y0 : 0 ≤ Y0 ∧ Y0 < 4294967296
 y1 : 2147483648 ≤ Y1 ∧ Y1 < 4294967296
 u : 0 ≤ U32 ∧ U32 < Y
 u1 : 0 ≤ U1 ∧ U1 < 4294967296
structure HalfI (U32 U1 Y Y1 q r : Int) : Prop where
 e : q * Y1 + r = U32
 r0 : 0 ≤ r
 le : (U32 * 4294967296 + U1) / Y ≤ q
 q0 : 0 ≤ q
 q1 : q ≤ 8589934592
variable {U32 U1 Y Y1 Y0 q r : Int}
theorem Half.pos (h : Half U32 U1 Y Y1 Y0) : 0 < Y := by
 have h1 := h.y; have h2 := h.y0; have h3 := h.y1; omega
theorem Half.quo (h : Half U32 U1 Y Y1 Y0) : 0 ≤ (U32 * 4294967296 + U1) / Y :=
 Int.ediv_nonneg (by have := h.u; have := h.u1; omega) (by have := h.pos; omega)
theorem Half.start (h : Half U32 U1 Y Y1 Y0) : HalfI U32 U1 Y Y1 (U32 / Y1) (U32 % Y1) ∧ U32 % Y1 < 4294967296 := by
 have h1 := h.y1
 have h2 := h.u
 have h3 := h.y0
 have hy := h.y
 have hd : Y1 * (U32 / Y1) + U32 % Y1 = U32 := Int.mul_ediv_add_emod _ _
 have hm0 : 0 ≤ U32 % Y1 := Int.emod_nonneg _ (by omega)
 have hm1 : U32 % Y1 < Y1 := Int.emod_lt_of_pos _ (by omega)
 have hq0 : 0 ≤ U32 / Y1 := Int.ediv_nonneg h2.1 (by omega)
 refine ⟨⟨by rw [Int.mul_comm]; exact hd, hm0, ?_, hq0, ?_⟩, by omega⟩
 ·apply Int.le_ediv_of_mul_le (by omega)
  have hp := h.pos
  have hn : (U32 * 4294967296 + U1) / Y * Y ≤ U32 * 4294967296 + U1 := Int.ediv_mul_le _ (by omega)
  have hq := h.quo
  generalize (U32 * 4294967296 + U1) / Y = Q at *
  have h5 : Q * Y = Q * Y1 * 4294967296 + Q * Y0 := by rw [hy]; grind
  have h6 : 0 ≤ Q * Y0 := Int.mul_nonneg hq h3.1
  have h7 := h.u1
  rw [h5] at hn
  generalize Q * Y1 = z at *
  omega
 ·apply Int.le_of_lt_add_one
  apply Int.ediv_lt_of_lt_mul (by omega)
  have : (4294967296 * 2 + 1) * 2147483648 ≤ (8589934592 + 1) * Y1 := Int.mul_le_mul (by omega) h1.1 (by omega) (by omega)
  omega
theorem HalfI.step (h : Half U32 U1 Y Y1 Y0) (i : HalfI U32 U1 Y Y1 q r) (hr : r < 4294967296) (ht : 4294967296 ≤ q ∨ 4294967296 * r + U1 < q * Y0) : HalfI U32 U1 Y Y1 (q - 1) (r + Y1) := by
 have h1 := h.y1
 have h2 := h.u
 have h3 := h.y0
 have h4 := h.u1
 have hlt : U32 * 4294967296 + U1 < q * Y := by
  rcases ht with ht | ht
  ·have : 4294967296 * Y ≤ q * Y := Int.mul_le_mul_of_nonneg_right ht (by omega)
   omega
  ·have e1 : q * Y = q * Y1 * 4294967296 + q * Y0 := by rw [h.y]; grind
   have e2 := i.e
   rw [e1]
   generalize q * Y1 = z at *
   omega
 have hle : (U32 * 4294967296 + U1) / Y < q := Int.ediv_lt_of_lt_mul h.pos hlt
 have hq := h.quo
 refine ⟨?_, by have := i.r0; omega, by omega, by omega, by have := i.q1; omega⟩
 have e2 := i.e
 have : (q - 1) * Y1 = q * Y1 - Y1 := by grind
 omega
theorem HalfI.exit (h : Half U32 U1 Y Y1 Y0) (i : HalfI U32 U1 Y Y1 q r) (ht : q * Y0 ≤ 4294967296 * r + U1) : q = (U32 * 4294967296 + U1) / Y := by
 have hle : q ≤ (U32 * 4294967296 + U1) / Y := by
  apply Int.le_ediv_of_mul_le h.pos
  have e1 : q * Y = q * Y1 * 4294967296 + q * Y0 := by rw [h.y]; grind
  have e2 := i.e
  rw [e1]
  generalize q * Y1 = z at *
  omega
 have := i.le
 omega
theorem HalfI.exit2 (h : Half U32 U1 Y Y1 Y0) (i : HalfI U32 U1 Y Y1 q r) (hr : 4294967296 ≤ r) : q = (U32 * 4294967296 + U1) / Y := by
 have h1 := h.y1
 have h2 := h.u
 have h3 := h.y0
 have h4 := h.u1
 have hy := h.y
 have hq : q < 4294967296 := by
  apply Int.lt_of_not_ge
  intro hge
  have : 4294967296 * Y1 ≤ q * Y1 := Int.mul_le_mul_of_nonneg_right hge (by omega)
  have := i.e
  omega
 apply i.exit h
 have := i.q0
 have : q * Y0 ≤ 4294967295 * 4294967295 := Int.mul_le_mul (by omega) (by omega) h3.1 (by omega)
 omega
theorem half_bounds (h : Half U32 U1 Y Y1 Y0) (i : HalfI U32 U1 Y Y1 q r) (hr : r < 4294967296) : (q < 4294967296 → 0 ≤ q * Y0 ∧ q * Y0 < B) ∧ (0 ≤ q * Y1 ∧ q * Y1 < B) ∧ (0 ≤ 4294967296 * r ∧ 4294967296 * r < B) ∧ (0 ≤ 4294967296 * r + U1 ∧ 4294967296 * r + U1 < B) ∧ (0 ≤ r + Y1 ∧ r + Y1 < B) := by
 have h1 := h.y1
 have h2 := h.u
 have h3 := h.y0
 have h4 := h.u1
 have hy := h.y
 have := i.q0
 have := i.r0
 have e := i.e
 rw [B_eq]
 refine ⟨fun hq => ⟨Int.mul_nonneg (by omega) (by omega), ?_⟩, ⟨Int.mul_nonneg (by omega) (by omega), by omega⟩, by omega, by omega, by omega⟩
 have : q * Y0 ≤ 4294967295 * 4294967295 := Int.mul_le_mul (by omega) (by omega) h3.1 (by omega)
 omega
/-- What is left of half a quotient. -/
theorem half_rest (h : Half U32 U1 Y Y1 Y0) : let Q := (U32 * 4294967296 + U1) / Y; 0 ≤ U32 * 4294967296 + U1 - Q * Y ∧ U32 * 4294967296 + U1 - Q * Y < Y ∧ Q < 4294967296 := by
 intro Q
 have hp := h.pos
 have h2 := h.u
 have h4 := h.u1
 have e : Y * Q + (U32 * 4294967296 + U1) % Y = U32 * 4294967296 + U1 := Int.mul_ediv_add_emod _ _
 have m0 : 0 ≤ (U32 * 4294967296 + U1) % Y := Int.emod_nonneg _ (by omega)
 have m1 : (U32 * 4294967296 + U1) % Y < Y := Int.emod_lt_of_pos _ hp
 have e2 : Q * Y = Y * Q := Int.mul_comm _ _
 refine ⟨by omega, by omega, ?_⟩
 apply Int.ediv_lt_of_lt_mul hp
 omega
theorem shift_parts {lo S T : Int} (hS : 0 < S) (hT : 0 < T) (hST : S * T = B) (h0 : 0 ≤ lo ∧ lo < B) : lo * S = lo / T * B + lo * S % B ∧ 0 ≤ lo / T ∧ lo / T < S := by
 have hB : 0 < B := by decide
 have e : lo * S / B = lo / T := by
  rw [← hST, Int.mul_comm lo S, Int.mul_ediv_mul_of_pos _ _ hS]
 have h1 : B * (lo * S / B) + lo * S % B = lo * S := Int.mul_ediv_add_emod _ _
 rw [e] at h1
 refine ⟨by rw [Int.mul_comm (lo / T)]; omega, Int.ediv_nonneg h0.1 (by omega), ?_⟩
 apply Int.ediv_lt_of_lt_mul hT
 rw [hST]; exact h0.2
theorem ediv_of {U y q : Int} (hy : 0 < y) (h1 : q * y ≤ U) (h2 : U < q * y + y) : U / y = q ∧ U % y = U - q * y := by
 have a1 : q ≤ U / y := Int.le_ediv_of_mul_le hy h1
 have a2 : U / y < q + 1 := Int.ediv_lt_of_lt_mul hy (by have : (q + 1) * y = q * y + y := (by grind); omega)
 have e : U / y = q := by omega
 refine ⟨e, ?_⟩
 have : y * (U / y) + U % y = U := Int.mul_ediv_add_emod _ _
 rw [e, Int.mul_comm] at this
 omega
theorem div_compose {hi lo y S U32 U1 U0 Q1 Q0 R : Int} (hS : 0 < S) (hy : 0 < y) (hU : (hi * B + lo) * S = (U32 * 4294967296 + U1) * 4294967296 + U0)
  (hR : R = (U32 * 4294967296 + U1 - Q1 * (y * S)) * 4294967296 + U0 - Q0 * (y * S)) (hR0 : 0 ≤ R) (hR1 : R < y * S) :
  (hi * B + lo) / y = Q1 * 4294967296 + Q0 ∧ (hi * B + lo) % y = R / S := by
 generalize hi * B + lo = U at *
 generalize U32 * 4294967296 + U1 = N at *
 have e1 : R = (U - (Q1 * 4294967296 + Q0) * y) * S := by rw [hR]; grind
 generalize Q1 * 4294967296 + Q0 = q at *
 have g1 : 0 ≤ U - q * y := by
  apply Int.le_of_not_gt
  intro hlt
  have : (U - q * y) * S ≤ (-1) * S := Int.mul_le_mul_of_nonneg_right (by omega) (by omega)
  omega
 have g2 : U - q * y < y := by
  apply Int.lt_of_not_ge
  intro hge
  have : y * S ≤ (U - q * y) * S := Int.mul_le_mul_of_nonneg_right hge (by omega)
  omega
 obtain ⟨h1, h2⟩ := ediv_of (U := U) (q := q) hy (by omega) (by omega)
 refine ⟨h1, ?_⟩
 rw [h2, e1, Int.mul_ediv_cancel _ (by omega)]
/-- One limb of a row, moved up by some bits. -/
theorem shl_step {L a : List Int} {k : Nat} {S T : Int} (hS : 0 < S) (hT : 0 < T) (hST : S * T = B) (hk : k + 1 < L.length) (hL : Lim L) (ha : Lim a)
  (hlow : lg L k < S) (hz : ∀ j, k < j → lg L j = 0) (hv : win L 0 (k + 1) = S * sumB (lg a) k) :
  let x := lg a k; let L2 := (L.set k (lg L k + x * S % B)).set (k + 1) (x / T)
  (0 ≤ lg L k + x * S % B ∧ lg L k + x * S % B < B) ∧ Lim L2 ∧ lg L2 (k + 1) < S ∧ (∀ j, k + 1 < j → lg L2 j = 0) ∧ win L2 0 (k + 1 + 1) = S * sumB (lg a) (k + 1) := by
 intro x L2
 obtain ⟨p1, p2, p3⟩ := shift_parts hS hT hST (ha k)
 have hB : 0 < B := by decide
 have r0 : 0 ≤ x * S % B := Int.emod_nonneg _ (by omega)
 have r1 : x * S % B < B := Int.emod_lt_of_pos _ hB
 have rm : x * S % B % S = 0 := by
  rw [← hST, Int.emod_emod_of_dvd _ (Int.dvd_mul_right S T)]
  exact Int.mul_emod_left _ _
 have l0 := (hL k).1
 have hsum : lg L k + x * S % B < B := by
  have e1 : S * (x * S % B / S) + x * S % B % S = x * S % B := Int.mul_ediv_add_emod _ _
  rw [rm] at e1
  generalize x * S % B / S = z at *
  have : z < T := by
   apply Int.lt_of_not_ge
   intro hge
   have : S * T ≤ S * z := Int.mul_le_mul_of_nonneg_left hge (by omega)
   omega
  have : S * (z + 1) ≤ S * T := Int.mul_le_mul_of_nonneg_left (by omega) (by omega)
  have : S * (z + 1) = S * z + S := by grind
  omega
 have hxT : 0 ≤ x / T ∧ x / T < B := by
  refine ⟨p2, ?_⟩
  have : S * 1 ≤ S * T := Int.mul_le_mul_of_nonneg_left (by omega) (by omega)
  show lg a k / T < B
  omega
 refine ⟨⟨by omega, hsum⟩, (hL.set _ ⟨by omega, hsum⟩).set _ hxT, ?_, ?_, ?_⟩
 ·show lg ((L.set k _).set (k + 1) _) (k + 1) < S
  rw [lg_set, if_pos ⟨rfl, by rw [List.length_set]; exact hk⟩]
  exact p3
 ·intro j hj
  show lg ((L.set k _).set (k + 1) _) j = 0
  rw [lg_set, if_neg (by omega), lg_set, if_neg (by omega)]
  exact hz j (by omega)
 ·have e1 : win L2 0 k = win L 0 k := win_congr fun j hj => by
   show lg ((L.set k _).set (k + 1) _) _ = _
   rw [lg_set, if_neg (by omega), lg_set, if_neg (by omega)]
  have e2 : lg L2 (0 + k) = lg L k + x * S % B := by
   show lg ((L.set k _).set (k + 1) _) _ = _
   rw [lg_set, if_neg (by omega), lg_set, if_pos ⟨by omega, by omega⟩]
  have e3 : lg L2 (0 + (k + 1)) = x / T := by
   show lg ((L.set k _).set (k + 1) _) _ = _
   rw [lg_set, if_pos ⟨by omega, by rw [List.length_set]; exact hk⟩]
  rw [win_s, win_s, e1, e2, e3, Bs]
  rw [win_s, Nat.zero_add] at hv
  show win L 0 k + (lg L k + x * S % B) * B ^ k + x / T * (B ^ k * B) = S * (sumB (lg a) k + x * B ^ k)
  have p1' : x * S = x / T * B + x * S % B := p1
  generalize x * S % B = u at *
  generalize x / T = v at *
  generalize B ^ k = P at *
  generalize sumB (lg a) k = q at *
  generalize win L 0 k = p at *
  generalize lg L k = l at *
  have e4 : S * (q + x * P) = S * q + x * S * P := by grind
  rw [e4, ← hv, p1']
  grind
/-- One limb of a row, moved down by some bits: what it gets of itself and of the one above. -/
theorem shr_step {L a : List Int} {k : Nat} {S T c : Int} (hS : 0 < S) (hT : 0 < T) (hST : S * T = B) (hk : k < L.length) (hL : Lim L) (ha : Lim a)
  (hv : win L 0 k * S = sumB (lg a) k - c + lg a k % S * B ^ k) :
  let d := lg a k / S + lg a (k + 1) * T % B; let L2 := L.set k d
  (0 ≤ lg a k / S ∧ lg a k / S < T ∧ lg a k / S < B) ∧ lg a (k + 1) * T % B % T = 0 ∧ (0 ≤ lg a (k + 1) * T % B ∧ lg a (k + 1) * T % B < B) ∧ Lim L2 ∧ win L2 0 (k + 1) * S = sumB (lg a) (k + 1) - c + lg a (k + 1) % S * B ^ (k + 1) := by
 intro d L2
 have hTS : T * S = B := by rw [Int.mul_comm]; exact hST
 obtain ⟨p1, p2, p3⟩ := shift_parts hT hS hTS (ha (k + 1))
 have hB : 0 < B := by decide
 have r0 : 0 ≤ lg a (k + 1) * T % B := Int.emod_nonneg _ (by omega)
 have r1 : lg a (k + 1) * T % B < B := Int.emod_lt_of_pos _ hB
 have rm : lg a (k + 1) * T % B % T = 0 := by
  rw [← hTS, Int.emod_emod_of_dvd _ (Int.dvd_mul_right T S)]
  exact Int.mul_emod_left _ _
 have q0 : 0 ≤ lg a k / S := Int.ediv_nonneg (ha k).1 (by omega)
 have q1 : lg a k / S < T := by
  apply Int.ediv_lt_of_lt_mul hS
  rw [hTS]; exact (ha k).2
 have hTB : T ≤ B := by
  have : T * 1 ≤ T * S := Int.mul_le_mul_of_nonneg_left (by omega) (by omega)
  omega
 have hsum : d < B := by
  have e1 : T * (lg a (k + 1) * T % B / T) + lg a (k + 1) * T % B % T = lg a (k + 1) * T % B := Int.mul_ediv_add_emod _ _
  rw [rm] at e1
  show lg a k / S + lg a (k + 1) * T % B < B
  generalize lg a (k + 1) * T % B / T = z at *
  have : z < S := by
   apply Int.lt_of_not_ge
   intro hge
   have : T * S ≤ T * z := Int.mul_le_mul_of_nonneg_left hge (by omega)
   omega
  have : T * (z + 1) ≤ T * S := Int.mul_le_mul_of_nonneg_left (by omega) (by omega)
  have : T * (z + 1) = T * z + T := by grind
  omega
 refine ⟨⟨q0, q1, by omega⟩, rm, ⟨r0, r1⟩, hL.set _ ⟨by omega, hsum⟩, ?_⟩
 have e1 : S * (lg a k / S) + lg a k % S = lg a k := Int.mul_ediv_add_emod _ _
 have e2 : S * (lg a (k + 1) / S) + lg a (k + 1) % S = lg a (k + 1) := Int.mul_ediv_add_emod _ _
 have f1 : win L2 0 k = win L 0 k := win_congr fun j hj => by
  show lg (L.set k _) _ = _
  rw [lg_set, if_neg (by omega)]
 have f2 : lg L2 (0 + k) = d := by
  show lg (L.set k _) _ = _
  rw [lg_set, if_pos ⟨by omega, hk⟩]
 rw [win_s, f1, f2, Bs]
 show (win L 0 k + (lg a k / S + lg a (k + 1) * T % B) * B ^ k) * S = sumB (lg a) k + lg a k * B ^ k - c + _
 have e3 : lg a (k + 1) * T % B = lg a (k + 1) * T - lg a (k + 1) / S * B := by omega
 rw [e3]
 generalize lg a k % S = m0 at *
 generalize lg a (k + 1) % S = m1 at *
 generalize lg a k / S = d0 at *
 generalize lg a (k + 1) / S = d1 at *
 generalize lg a k = x at *
 generalize lg a (k + 1) = y at *
 generalize B ^ k = P at *
 generalize win L 0 k = W at *
 generalize sumB (lg a) k = Q at *
 have hx : x = S * d0 + m0 := by omega
 have hy : y = S * d1 + m1 := by omega
 have e4 : (W + (d0 + (y * T - d1 * B)) * P) * S = W * S + (d0 * S) * P + (y * (S * T) - d1 * B * S) * P := by grind
 rw [e4, hv, hST, hx, hy]
 grind
theorem shr_end {L a : List Int} {n : Nat} {S T v : Int} (hS : 0 < S) (hST : S * T = B) (hL : L.length = n) (ha : a.length = n) (hv : lv a = v * S)
  (h : win L 0 n * S = sumB (lg a) n - lg a 0 % S + lg a n % S * B ^ n) : lv L = v := by
 have e1 : win L 0 n = lv L := by rw [← hL]; exact win_zero L
 have e2 : sumB (lg a) n = lv a := by rw [← ha]; rfl
 have e3 : lg a n = 0 := lg_out (by omega)
 rw [e1, e2, e3] at h
 have e4 : lg a 0 % S = 0 := by
  have hm : ∀ m, ∃ z, sumB (lg a) (m + 1) = lg a 0 + z * S := by
   intro m
   induction m with
   | zero => exact ⟨0, by simp [sumB]⟩
   | succ m ih =>
    obtain ⟨z, hz⟩ := ih
    refine ⟨z + lg a (m + 1) * B ^ m * T, ?_⟩
    have : sumB (lg a) (m + 1 + 1) = sumB (lg a) (m + 1) + lg a (m + 1) * B ^ (m + 1) := rfl
    rw [this, hz, Bs, ← hST]
    grind
  have hd : ∃ z, lv a = lg a 0 + z * S := by
   cases hl : a.length with
   | zero => exact ⟨0, by
     unfold lv
     rw [hl, lg_out (by omega)]
     simp [sumB]⟩
   | succ m => unfold lv; rw [hl]; exact hm m
  obtain ⟨z, hz⟩ := hd
  have : lg a 0 = (v - z) * S := by
   have : (v - z) * S = v * S - z * S := by grind
   omega
  rw [this]
  exact Int.mul_emod_left _ _
 rw [e4] at h
 have : lv L * S = v * S := by rw [h, hv]; simp
 exact Int.eq_of_mul_eq_mul_right (by omega) this
theorem win_low (l : List Int) (o m : Nat) : win l o (m + 1) = lg l o + B * win l (o + 1) m := by
 rw [Nat.add_comm m 1, win_split, show B ^ 1 = B from by rw [Int.pow_succ, Int.pow_zero, Int.one_mul]]
 simp [win, sumB]
/-- One digit of a quotient by one limb. -/
theorem short_step {q a : List Int} {k m : Nat} {r x : Int} (hx : 0 < x ∧ x < B) (hr : 0 ≤ r ∧ r < x) (hk : k < q.length) (hq : Lim q) (ha : Lim a)
  (hv : win q (k + 1) m * x + r = win a (k + 1) m) :
  let d := (r * B + lg a k) / x; let r2 := (r * B + lg a k) % x; let q2 := q.set k d
  (0 ≤ d ∧ d < B) ∧ (0 ≤ r2 ∧ r2 < x) ∧ Lim q2 ∧ win q2 k (m + 1) * x + r2 = win a k (m + 1) := by
 intro d r2 q2
 have h0 := ha k
 have n0 : 0 ≤ r * B := Int.mul_nonneg hr.1 (by decide)
 have m1 : (r + 1) * B ≤ x * B := Int.mul_le_mul_of_nonneg_right (by omega) (by decide)
 have m2 : (r + 1) * B = r * B + B := by grind
 have d0 : 0 ≤ d := Int.ediv_nonneg (by omega) (by omega)
 have d1 : d < B := by
  apply Int.ediv_lt_of_lt_mul hx.1
  rw [Int.mul_comm B x]
  omega
 have e1 : x * d + r2 = r * B + lg a k := Int.mul_ediv_add_emod _ _
 refine ⟨⟨d0, d1⟩, ⟨Int.emod_nonneg _ (by omega), Int.emod_lt_of_pos _ hx.1⟩, hq.set _ ⟨d0, d1⟩, ?_⟩
 have f1 : win q2 (k + 1) m = win q (k + 1) m := win_congr fun j hj => by
  show lg (q.set k _) _ = _
  rw [lg_set, if_neg (by omega)]
 have f2 : lg q2 k = d := by
  show lg (q.set k _) _ = _
  rw [lg_set, if_pos ⟨rfl, hk⟩]
 rw [win_low, win_low, f1, f2, ← hv]
 have : (d + B * win q (k + 1) m) * x = x * d + B * (win q (k + 1) m * x) := by grind
 rw [this]
 have : B * (win q (k + 1) m * x + r) = B * (win q (k + 1) m * x) + r * B := by grind
 omega
end Go.Proofs.YtoijlbcbbblbfaaGreatDoor.Num

/- Plain numbers: a row divided by a row, digit by digit. -/
set_option linter.unusedVariables false
namespace Go.Proofs.YtoijlbcbbblbfaaGreatDoor.Num
/-- A part of a row. -/
def part (l : List Int) (o m : Nat) : List Int := (l.drop o).take m
theorem part_len {l : List Int} {o m : Nat} (h : o + m ≤ l.length) : (part l o m).length = m := by
 unfold part; rw [List.length_take, List.length_drop]; omega
theorem lg_part (l : List Int) (o m j : Nat) : lg (part l o m) j = if j < m then lg l (o + j) else 0 := by
 unfold part
 rw [lg_take]
 split
 ·unfold lg
  rw [List.getD_eq_getElem?_getD, List.getD_eq_getElem?_getD, List.getElem?_drop]
 ·rfl
theorem Lim.part {l : List Int} (h : Lim l) (o m : Nat) : Lim (part l o m) := fun j => by
 rw [lg_part]; split
 ·exact h _
 ·exact ⟨Int.le_refl _, by decide⟩
theorem lv_part {l : List Int} {o m : Nat} (h : o + m ≤ l.length) : lv (part l o m) = win l o m := by
 unfold lv
 rw [part_len h]
 exact sumB_congr fun j hj => by rw [lg_part, if_pos hj]
theorem win_bd {l : List Int} (h : Lim l) (o n : Nat) : 0 ≤ win l o n ∧ win l o n < B ^ n := sumB_bd n fun j => h _
/-- The top limb of a row whose value is at least half of its length's. -/
theorem top_half {l : List Int} {k : Nat} (h : Lim l) (hl : l.length = k + 1) (hv : 9223372036854775808 * B ^ k ≤ lv l) : 9223372036854775808 ≤ lg l k := by
 have e : lv l = sumB (lg l) k + lg l k * B ^ k := by unfold lv; rw [hl]; rfl
 have b := sumB_bd k h
 apply Int.le_of_not_gt
 intro hlt
 have : (lg l k + 1) * B ^ k ≤ 9223372036854775808 * B ^ k := Int.mul_le_mul_of_nonneg_right (by omega) (Int.le_of_lt (Bp k))
 have e2 : (lg l k + 1) * B ^ k = lg l k * B ^ k + B ^ k := by grind
 omega
/-- A row that is as long as its value needs. -/
theorem len_eq {l : List Int} {k : Nat} (h : Lim l) (ht : Tr l) (h1 : lv l < B ^ (k + 1)) (h2 : B ^ k ≤ lv l) : l.length = k + 1 := by
 have a := len_of_lv ht h h1
 have b := (lv_bd h).2
 by_cases e : l.length ≤ k
 ·have := Bmono e
  omega
 ·omega
/-- The guess is not too small. -/
theorem guess_ge {P D p1 p0 top low : Int} {M : Int} (hM : 0 < M) (hP : P = (p1 * B + p0) * M + low) (hlow : 0 ≤ low ∧ low < M) (hD : top * M ≤ D) (htop : 0 < top) (hp1 : 0 ≤ p1) (hp0 : 0 ≤ p0) (hlt : P < D * B) :
  P / D ≤ (if top ≤ p1 then B - 1 else (p1 * B + p0) / top) := by
 have hDp : 0 < D := by have := Int.mul_pos htop hM; omega
 have hn : 0 ≤ p1 * B + p0 := by have := Int.mul_nonneg hp1 (show 0 ≤ B by decide); omega
 have hP0 : 0 ≤ P := by rw [hP]; have := Int.mul_nonneg hn (Int.le_of_lt hM); omega
 split
 ·have : P / D < B := Int.ediv_lt_of_lt_mul hDp (by rw [Int.mul_comm]; exact hlt)
  omega
 ·apply Int.le_ediv_of_mul_le htop
  have hQ : 0 ≤ P / D := Int.ediv_nonneg hP0 (by omega)
  have h1 : P / D * D ≤ P := Int.ediv_mul_le _ (by omega)
  have h2 : P / D * (top * M) ≤ P / D * D := Int.mul_le_mul_of_nonneg_left hD hQ
  have e1 : P / D * (top * M) = P / D * top * M := by grind
  generalize P / D * top = z at *
  apply Int.le_of_lt_add_one
  apply Int.lt_of_not_ge
  intro hge
  have h3 : (p1 * B + p0 + 1) * M ≤ z * M := Int.mul_le_mul_of_nonneg_right hge (Int.le_of_lt hM)
  have e2 : (p1 * B + p0 + 1) * M = (p1 * B + p0) * M + M := by grind
  omega
/-- A part of a row taken off: what becomes of the row's value. -/
theorem win_change {L L' : List Int} {i m N : Nat} (hN : i + m ≤ N) (hfar : ∀ j, (j < i ∨ i + m ≤ j) → lg L' j = lg L j) : win L' 0 N - win L 0 N = B ^ i * (win L' i m - win L i m) := by
 obtain ⟨d, rfl⟩ := Nat.exists_eq_add_of_le hN
 rw [win_split L', win_split L, win_split L', win_split L, Nat.zero_add, Nat.zero_add]
 have e1 : win L' 0 i = win L 0 i := win_congr fun j hj => hfar _ (by omega)
 have e2 : win L' (i + m) d = win L (i + m) d := win_congr fun j hj => hfar _ (by omega)
 rw [e1, e2]
 grind
/-- The state of a division: j digits are still to come. -/
structure DivI (R0 D : Int) (k lq j : Nat) (L q : List Int) : Prop where
 len : L.length = lq + k
 lim : Lim L
 qlen : q.length = lq
 qlim : Lim q
 zero : ∀ t, j + k ≤ t → lg L t = 0
 up : win L j k < D
 val : lv L + win q j (lq - j) * (B ^ j * D) = R0
theorem DivI.part {R0 D : Int} {k lq i : Nat} {L q : List Int} (h : DivI R0 D k lq (i + 1) L q) : 0 ≤ win L i (k + 1) ∧ win L i (k + 1) < D * B := by
 rw [win_low]
 have h0 := h.lim i
 have h1 := (win_bd h.lim (i + 1) k).1
 have h2 := h.up
 have h3 : B * (win L (i + 1) k + 1) ≤ B * D := Int.mul_le_mul_of_nonneg_left (by omega) (by decide)
 have e1 : B * (win L (i + 1) k + 1) = B * win L (i + 1) k + B := by grind
 have e2 : D * B = B * D := Int.mul_comm _ _
 have := Int.mul_nonneg (show 0 ≤ B by decide) h1
 omega
theorem DivI.step {R0 D Q : Int} {k lq i : Nat} {L q L' : List Int} (h : DivI R0 D k lq (i + 1) L q) (hD : D < B ^ k) (hi : i < lq) (hQ : 0 ≤ Q ∧ Q < B) (hlen : L'.length = L.length) (hlim : Lim L')
  (hfar : ∀ j, (j < i ∨ i + (k + 1) ≤ j) → lg L' j = lg L j) (hv : win L' i (k + 1) = win L i (k + 1) - Q * D) (hlt : win L' i (k + 1) < D) : DivI R0 D k lq i L' (q.set i Q) := by
 have hk : lg L' (i + k) = 0 := by
  have e := win_s L' i k
  have b := (win_bd hlim i k).1
  have h0 := (hlim (i + k)).1
  apply Int.le_antisymm _ h0
  apply Int.le_of_not_gt
  intro hgt
  have : 1 * B ^ k ≤ lg L' (i + k) * B ^ k := Int.mul_le_mul_of_nonneg_right (by omega) (Int.le_of_lt (Bp k))
  omega
 refine ⟨by rw [hlen]; exact h.len, hlim, by rw [List.length_set]; exact h.qlen, h.qlim.set _ hQ, ?_, ?_, ?_⟩
 ·intro t ht
  by_cases e : t = i + k
  ·rw [e]; exact hk
  ·rw [hfar t (by omega)]
   exact h.zero t (by omega)
 ·have e := win_s L' i k
  rw [hk] at e
  omega
 ·have hN : i + (k + 1) ≤ lq + k := by omega
  have e1 := win_change hN hfar
  have e2 : win L' 0 (lq + k) = lv L' := by rw [← h.len, ← hlen]; exact win_zero L'
  have e3 : win L 0 (lq + k) = lv L := by rw [← h.len]; exact win_zero L
  rw [e2, e3, hv] at e1
  have e4 : win (q.set i Q) i (lq - i) = Q + B * win q (i + 1) (lq - (i + 1)) := by
   rw [show lq - i = lq - (i + 1) + 1 by omega, win_low, lg_set, if_pos ⟨rfl, by rw [h.qlen]; exact hi⟩]
   rw [win_congr (l := q.set i Q) (l' := q) fun j hj => by rw [lg_set, if_neg (by omega)]]
  have e5 := h.val
  rw [Bs] at e5
  rw [e4]
  generalize win q (i + 1) (lq - (i + 1)) = W at *
  generalize B ^ i = P at *
  generalize win L i (k + 1) = p at *
  have : (Q + B * W) * (P * D) = Q * (P * D) + W * (P * B * D) := by grind
  rw [this]
  have : P * (p - Q * D - p) = -(Q * (P * D)) := by grind
  omega
theorem DivI.done {R0 D : Int} {k lq : Nat} {L q : List Int} (h : DivI R0 D k lq 0 L q) (hD : 0 < D) : lv q = R0 / D ∧ lv L = R0 % D := by
 have e1 : win q 0 (lq - 0) = lv q := by rw [Nat.sub_zero, ← h.qlen]; exact win_zero q
 have e2 : lv L = win L 0 k := by
  rw [← win_zero, h.len]
  exact sumB_zero (by omega) fun j h1 _ => h.zero _ (by omega)
 have e3 := h.val
 have h4 := h.up
 have h5 := (lv_bd h.lim).1
 rw [e1] at e3
 have e6 : lv q * (B ^ 0 * D) = lv q * D := by rw [Int.pow_zero, Int.one_mul]
 rw [e6] at e3
 obtain ⟨g1, g2⟩ := ediv_of (U := R0) (q := lv q) hD (by omega) (by omega)
 exact ⟨g1.symm, by omega⟩
theorem DivI.start {R0 D S v : Int} {k lq n : Nat} {L q : List Int} (hl : L.length = lq + k) (hn : lq + k = n + 1) (hL : Lim L) (hq : q.length = lq) (hqz : Lim q) (hv : lv L = R0) (hR : R0 = S * v) (hva : v < B ^ n) (hS : 0 < S ∧ S ≤ 9223372036854775808)
  (hk : 1 ≤ k) (hD : 9223372036854775808 * B ^ (k - 1) ≤ D) : DivI R0 D k lq lq L q := by
 refine ⟨hl, hL, hq, hqz, fun t ht => lg_out (by omega), ?_, ?_⟩
 ·have e1 : lv L = win L 0 lq + B ^ lq * win L lq k := by
   rw [← win_zero, hl, win_split, Nat.zero_add]
  have h0 := (win_bd hL 0 lq).1
  have h1 : S * v < S * B ^ n := Int.mul_lt_mul_of_pos_left hva hS.1
  have h2 : n = lq + (k - 1) := by omega
  rw [h2, Int.pow_add] at h1
  have h3 : B ^ lq * win L lq k < B ^ lq * (S * B ^ (k - 1)) := by
   have : S * (B ^ lq * B ^ (k - 1)) = B ^ lq * (S * B ^ (k - 1)) := by grind
   omega
  have h4 : win L lq k < S * B ^ (k - 1) := Int.lt_of_mul_lt_mul_left h3 (Int.le_of_lt (Bp lq))
  have h5 : S * B ^ (k - 1) ≤ 9223372036854775808 * B ^ (k - 1) := Int.mul_le_mul_of_nonneg_right hS.2 (Int.le_of_lt (Bp _))
  omega
 ·rw [Nat.sub_self]; simp [win, sumB]; exact hv
/-- Windowed end of a difference. -/
theorem take_win {L L' l : List Int} {o n : Nat} {b : Int} (hlim : Lim L') (hl : l.length = n) (hb : b = 0 ∨ b = 1) (hle : lv l ≤ win L o n) (hv : win L' o n - b * B ^ n = win L o n - sumB (lg l) (min n n)) : win L' o n = win L o n - lv l := by
 have e : sumB (lg l) (min n n) = lv l := by rw [Nat.min_self]; unfold lv; rw [hl]
 rw [e] at hv
 have h1 := win_bd hlim o n
 rcases hb with rfl | rfl
 ·omega
 ·omega
/-- A divisor, moved up until its highest bit is set. -/
theorem norm_div {y : List Int} {k1 : Nat} {S T : Int} (hl : y.length = k1 + 1) (hy : Lim y) (hS : 0 < S) (hST : S * T = B) (h1 : 9223372036854775808 ≤ lg y k1 * S) (h2 : lg y k1 * S < B) :
  S * lv y < B ^ (k1 + 1) ∧ 9223372036854775808 * B ^ k1 ≤ S * lv y := by
 have e : lv y = sumB (lg y) k1 + lg y k1 * B ^ k1 := by unfold lv; rw [hl]; rfl
 have b := sumB_bd k1 hy
 have hp := Bp k1
 have ht : lg y k1 + 1 ≤ T := by
  apply Int.le_of_not_gt
  intro hgt
  have : S * T ≤ S * lg y k1 := Int.mul_le_mul_of_nonneg_left (by omega) (by omega)
  have : S * lg y k1 = lg y k1 * S := Int.mul_comm _ _
  omega
 constructor
 ·have h3 : S * lv y < S * ((lg y k1 + 1) * B ^ k1) := by
   apply Int.mul_lt_mul_of_pos_left _ hS
   have : (lg y k1 + 1) * B ^ k1 = lg y k1 * B ^ k1 + B ^ k1 := by grind
   omega
  have h4 : S * ((lg y k1 + 1) * B ^ k1) ≤ S * (T * B ^ k1) := Int.mul_le_mul_of_nonneg_left (Int.mul_le_mul_of_nonneg_right ht (by omega)) (by omega)
  have h5 : S * (T * B ^ k1) = B ^ (k1 + 1) := by rw [Bs, ← Int.mul_assoc, hST, Int.mul_comm]
  omega
 ·have h3 : S * (lg y k1 * B ^ k1) ≤ S * lv y := Int.mul_le_mul_of_nonneg_left (by omega) (by omega)
  have h4 : S * (lg y k1 * B ^ k1) = lg y k1 * S * B ^ k1 := by grind
  have h5 : 9223372036854775808 * B ^ k1 ≤ lg y k1 * S * B ^ k1 := Int.mul_le_mul_of_nonneg_right h1 (by omega)
  omega
/-- The product of a row and a digit, as it is laid. -/
theorem prod_val {Pr y : List Int} {k1 : Nat} {c q : Int} (hl : Pr.length = k1 + 1 + 1) (hy : y.length = k1 + 1) (hv : win Pr 0 (k1 + 1) + c * B ^ (k1 + 1) = win (List.replicate (k1 + 1 + 1) 0) 0 (k1 + 1) + q * sumB (lg y) (k1 + 1)) :
  lv (Pr.set (k1 + 1) c) = q * lv y := by
 have e0 : win (List.replicate (k1 + 1 + 1) 0) 0 (k1 + 1) = 0 := sumB_zero (m := 0) (by omega) fun j _ _ => lg_replicate _ _
 have e1 : sumB (lg y) (k1 + 1) = lv y := by unfold lv; rw [hy]
 have e2 : lv (Pr.set (k1 + 1) c) = win (Pr.set (k1 + 1) c) 0 (k1 + 1 + 1) := by
  rw [← win_zero, List.length_set, hl]
 rw [e0, e1] at hv
 rw [e2, win_s, Nat.zero_add, lg_set, if_pos ⟨rfl, by omega⟩, win_congr (l := Pr.set (k1 + 1) c) (l' := Pr) fun j hj => by rw [lg_set, if_neg (by omega)], hv]
 simp
end Go.Proofs.YtoijlbcbbblbfaaGreatDoor.Num

/- Plain numbers: bytes, the highest first, as numbers. -/
set_option linter.unusedVariables false
namespace Go.Proofs.YtoijlbcbbblbfaaGreatDoor.Num
def sumY (f : Nat → Int) : Nat → Int
 | 0 => 0
 | n + 1 => sumY f n + f n * 256 ^ n
/-- Byte i of a text, from its end on. -/
def byt (s : ByteArray) (i : Nat) : Int := if h : i < s.size then ((s[s.size - 1 - i]'(by omega)).toNat : Int) else 0
theorem byt_bd (s : ByteArray) (i : Nat) : 0 ≤ byt s i ∧ byt s i < 256 := by
 unfold byt
 split
 ·have := (s[s.size - 1 - i]'(by omega)).toNat_lt
  omega
 ·omega
/-- The number of a text of bytes. -/
def nv (s : ByteArray) : Int := sumY (byt s) s.size
theorem Yp (n : Nat) : (0 : Int) < 256 ^ n := Int.pow_pos (by decide)
theorem Ys (n : Nat) : (256 : Int) ^ (n + 1) = 256 ^ n * 256 := Int.pow_succ _ _
theorem Ymono {m n : Nat} (h : m ≤ n) : (256 : Int) ^ m ≤ 256 ^ n := by
 obtain ⟨d, rfl⟩ := Nat.exists_eq_add_of_le h
 rw [Int.pow_add]
 have h1 := Yp m
 have h2 := Yp d
 have : (256 : Int) ^ m * 1 ≤ 256 ^ m * 256 ^ d := Int.mul_le_mul_of_nonneg_left (by omega) (by omega)
 omega
theorem YB (n : Nat) : (256 : Int) ^ (8 * n) = B ^ n := by
 rw [Int.pow_mul]; rfl
theorem Y2 (n : Nat) : (256 : Int) ^ n = 2 ^ (8 * n) := by
 rw [Int.pow_mul]; rfl
theorem sumY_bd {f : Nat → Int} (n : Nat) (h : ∀ j, 0 ≤ f j ∧ f j < 256) : 0 ≤ sumY f n ∧ sumY f n < 256 ^ n := by
 induction n with
 | zero => exact ⟨Int.le_refl _, by simp [sumY]⟩
 | succ n ih =>
  unfold sumY
  rw [Ys]
  have h1 := h n
  have h2 := Yp n
  have h3 : 0 ≤ f n * 256 ^ n := Int.mul_nonneg h1.1 (Int.le_of_lt h2)
  have h4 : f n * 256 ^ n ≤ (256 - 1) * 256 ^ n := Int.mul_le_mul_of_nonneg_right (by omega) (Int.le_of_lt h2)
  have h5 : (256 - 1 : Int) * 256 ^ n = 256 ^ n * 256 - 256 ^ n := by grind
  omega
theorem sumY_congr {f g : Nat → Int} {n : Nat} (h : ∀ j, j < n → f j = g j) : sumY f n = sumY g n := by
 induction n with
 | zero => rfl
 | succ n ih => unfold sumY; rw [ih (fun j hj => h j (by omega)), h n (by omega)]
theorem nv_bd (s : ByteArray) : 0 ≤ nv s ∧ nv s < 256 ^ s.size := sumY_bd _ (byt_bd s)
theorem lv_set {L : List Int} {j : Nat} {x : Int} (hj : j < L.length) : lv (L.set j x) = lv L + (x - lg L j) * B ^ j := by
 have h := win_change (L := L) (L' := L.set j x) (i := j) (m := 1) (N := L.length) (by omega) (fun t ht => by rw [lg_set, if_neg (by omega)])
 have e1 : win (L.set j x) 0 L.length = lv (L.set j x) := by
  have := win_zero (L.set j x); rw [List.length_set] at this; exact this
 rw [e1, win_zero] at h
 have w1 : ∀ l : List Int, win l j 1 = lg l j := fun l => by
  rw [win_s, Int.pow_zero, Int.mul_one, Nat.add_zero]
  exact Int.zero_add _
 have e2 : win (L.set j x) j 1 = x := by rw [w1, lg_set, if_pos ⟨rfl, hj⟩]
 have e3 : win L j 1 = lg L j := w1 L
 rw [e2, e3] at h
 have : (x - lg L j) * B ^ j = B ^ j * (x - lg L j) := Int.mul_comm _ _
 omega
/-- The state of a reading: k bytes are read. -/
structure OfI (f : Nat → Int) (N k : Nat) (L : List Int) : Prop where
 len : L.length = N
 lim : Lim L
 low : lg L (k / 8) < 256 ^ (k % 8)
 zero : ∀ j, k / 8 < j → lg L j = 0
 val : lv L = sumY f k
theorem OfI.step {f : Nat → Int} {N k : Nat} {L : List Int} (h : OfI f N k L) (hf : ∀ j, 0 ≤ f j ∧ f j < 256) (hk : k / 8 < N) :
  (0 ≤ f k * 256 ^ (k % 8) ∧ f k * 256 ^ (k % 8) < B ∧ lg L (k / 8) + f k * 256 ^ (k % 8) < B) ∧ OfI f N (k + 1) (L.set (k / 8) (lg L (k / 8) + f k * 256 ^ (k % 8))) := by
 have hl0 := (h.lim (k / 8)).1
 have hfk := hf k
 have hlow := h.low
 have hp := Yp (k % 8)
 have h3 : 0 ≤ f k * 256 ^ (k % 8) := Int.mul_nonneg hfk.1 (Int.le_of_lt hp)
 have h4 : f k * 256 ^ (k % 8) ≤ (256 - 1) * 256 ^ (k % 8) := Int.mul_le_mul_of_nonneg_right (by omega) (Int.le_of_lt hp)
 have h5 : (256 - 1 : Int) * 256 ^ (k % 8) = 256 ^ (k % 8 + 1) - 256 ^ (k % 8) := by rw [Ys]; grind
 have h6 : (256 : Int) ^ (k % 8 + 1) ≤ B := by
  exact Ymono (n := 8) (by omega)
 have hval : lv (L.set (k / 8) (lg L (k / 8) + f k * 256 ^ (k % 8))) = sumY f (k + 1) := by
  rw [lv_set (by rw [h.len]; exact hk), h.val]
  show _ = sumY f k + f k * 256 ^ k
  have e : (256 : Int) ^ k = 256 ^ (k % 8) * B ^ (k / 8) := by
   rw [← YB, ← Int.pow_add]; congr 1; omega
  rw [e]
  grind
 refine ⟨⟨h3, by omega, by omega⟩, ⟨by rw [List.length_set]; exact h.len, h.lim.set _ ⟨by omega, by omega⟩, ?_, ?_, hval⟩⟩
 ·by_cases e : (k + 1) / 8 = k / 8
  ·rw [e, lg_set, if_pos ⟨rfl, by rw [h.len]; exact hk⟩, show (k + 1) % 8 = k % 8 + 1 by omega]
   omega
  ·rw [lg_set, if_neg (by omega), h.zero _ (by omega)]
   exact Yp _
 ·intro j hj
  rw [lg_set, if_neg (by omega)]
  exact h.zero j (by omega)
theorem OfI.start (f : Nat → Int) (N : Nat) : OfI f N 0 (List.replicate N 0) :=
 ⟨by simp, Lim_zero _, by rw [lg_replicate]; exact Yp _, fun j _ => lg_replicate _ _, sumB_zero (m := 0) (by omega) fun j _ _ => lg_replicate _ _⟩
/-- What is read of a text whose first byte is not 0 has no nought at its end. -/
theorem OfI.top {f : Nat → Int} {n : Nat} {L : List Int} (h : OfI f ((n + 7) / 8) n L) (hf : ∀ j, 0 ≤ f j ∧ f j < 256) (htop : 0 < n → f (n - 1) ≠ 0) : Tr L := by
 cases n with
 | zero => exact .inl (by rw [h.len])
 | succ n =>
  have hl := h.len
  have hN : (n + 1 + 7) / 8 = n / 8 + 1 := by omega
  right
  rw [hl, hN, Nat.add_sub_cancel]
  intro hz
  have e1 : lv L = sumB (lg L) (n / 8) := by
   unfold lv; rw [hl, hN]
   show sumB (lg L) (n / 8) + lg L (n / 8) * B ^ (n / 8) = _
   rw [hz, Int.zero_mul, Int.add_zero]
  have e2 := h.val
  have b := sumB_bd (n / 8) h.lim
  have : sumY f (n + 1) = sumY f n + f n * 256 ^ n := rfl
  have h0 := (sumY_bd n hf).1
  have hne := htop (by omega)
  rw [Nat.add_sub_cancel] at hne
  have hf0 := hf n
  have h1 : 1 * 256 ^ n ≤ f n * 256 ^ n := Int.mul_le_mul_of_nonneg_right (by omega) (Int.le_of_lt (Yp n))
  have h2 : B ^ (n / 8) ≤ 256 ^ n := by
   rw [← YB]
   exact Ymono (by omega)
  omega
end Go.Proofs.YtoijlbcbbblbfaaGreatDoor.Num

/- Plain numbers: the text of bytes of a number, and that there is only one. -/
set_option linter.unusedVariables false
namespace Go.Proofs.YtoijlbcbbblbfaaGreatDoor.Num
/-- How many bytes a number has. -/
def nbN (v : Nat) : Nat := if h : v = 0 then 0 else nbN (v / 256) + 1
termination_by v
decreasing_by omega
theorem nbN_zero : nbN 0 = 0 := by unfold nbN; rfl
theorem nbN_pos {v : Nat} (h : v ≠ 0) : nbN v = nbN (v / 256) + 1 := by
 rw [nbN, dif_neg h]
theorem nbN_spec (v : Nat) (h : v ≠ 0) : 256 ^ (nbN v - 1) ≤ v ∧ v < 256 ^ nbN v ∧ 1 ≤ nbN v := by
 induction v using Nat.strongRecOn with
 | _ v ih =>
  rw [nbN_pos h, Nat.add_sub_cancel]
  by_cases h0 : v / 256 = 0
  ·rw [h0, nbN_zero]
   refine ⟨by omega, by omega, by omega⟩
  ·obtain ⟨a, b, c⟩ := ih (v / 256) (by omega) h0
   obtain ⟨m, hm⟩ : ∃ m, nbN (v / 256) = m + 1 := ⟨nbN (v / 256) - 1, by omega⟩
   rw [hm] at a b ⊢
   rw [Nat.add_sub_cancel] at a
   rw [Nat.pow_succ] at b ⊢
   rw [Nat.pow_succ 256 (m + 1), Nat.pow_succ]
   omega
theorem nbN_uniq {v n : Nat} (h1 : 256 ^ n ≤ v) (h2 : v < 256 ^ (n + 1)) : nbN v = n + 1 := by
 have h0 : v ≠ 0 := by have := Nat.pow_pos (a := 256) (n := n) (by omega); omega
 obtain ⟨a, b, c⟩ := nbN_spec v h0
 have l1 : nbN v ≤ n + 1 := by
  apply Nat.le_of_not_lt
  intro hgt
  have := Nat.pow_le_pow_right (show 0 < 256 by omega) (show n + 1 ≤ nbN v - 1 by omega)
  omega
 have l2 : n + 1 ≤ nbN v := by
  apply Nat.le_of_not_lt
  intro hgt
  have := Nat.pow_le_pow_right (show 0 < 256 by omega) (show nbN v ≤ n by omega)
  omega
 omega
def nb (v : Int) : Nat := nbN v.toNat
theorem pwc (n : Nat) : ((256 ^ n : Nat) : Int) = (256 : Int) ^ n := by rw [Int.natCast_pow]; rfl
theorem nb_of {v : Int} {n : Nat} (h1 : 256 ^ n ≤ v) (h2 : v < 256 ^ (n + 1)) : nb v = n + 1 := by
 have h0 : 0 < v := by have := Yp n; omega
 obtain ⟨m, rfl⟩ := Int.eq_ofNat_of_zero_le (Int.le_of_lt h0)
 unfold nb
 rw [Int.toNat_natCast]
 apply nbN_uniq
 ·rw [← pwc] at h1; exact Int.ofNat_le.mp h1
 ·rw [← pwc] at h2; exact Int.ofNat_lt.mp h2
theorem nb_spec {v : Int} (h : 0 < v) : 256 ^ (nb v - 1) ≤ v ∧ v < 256 ^ nb v ∧ 1 ≤ nb v := by
 obtain ⟨m, rfl⟩ := Int.eq_ofNat_of_zero_le (Int.le_of_lt h)
 unfold nb
 rw [Int.toNat_natCast]
 obtain ⟨a, b, c⟩ := nbN_spec m (by omega)
 exact ⟨by rw [← pwc]; exact Int.ofNat_le.mpr a, by rw [← pwc]; exact Int.ofNat_lt.mpr b, c⟩
theorem nb_zero : nb 0 = 0 := nbN_zero
/-- Digit i of a number, to the base 256. -/
def dgt (v : Int) (i : Nat) : Int := v / 256 ^ i % 256
theorem dgt_bd (v : Int) (i : Nat) : 0 ≤ dgt v i ∧ dgt v i < 256 := ⟨Int.emod_nonneg _ (by decide), Int.emod_lt_of_pos _ (by decide)⟩
theorem sumY_dgt (v : Int) (n : Nat) : sumY (dgt v) n = v % 256 ^ n := by
 induction n with
 | zero => rw [Int.pow_zero]; show (0 : Int) = v % 1; omega
 | succ n ih =>
  show sumY (dgt v) n + dgt v n * 256 ^ n = _
  rw [ih, Ys]
  unfold dgt
  have hp := Yp n
  have e1 := Int.mul_ediv_add_emod v (256 ^ n)
  have e2 := Int.mul_ediv_add_emod (v / 256 ^ n) 256
  have b1 := Int.emod_nonneg v (show (256 : Int) ^ n ≠ 0 by omega)
  have b2 := Int.emod_lt_of_pos v hp
  have b3 := Int.emod_nonneg (v / 256 ^ n) (show (256 : Int) ≠ 0 by decide)
  have b4 := Int.emod_lt_of_pos (v / 256 ^ n) (show (0 : Int) < 256 by decide)
  generalize v % 256 ^ n = r at *
  generalize v / 256 ^ n % 256 = d at *
  generalize v / 256 ^ n / 256 = h at *
  generalize v / 256 ^ n = q at *
  generalize (256 : Int) ^ n = P at *
  have e3 : v = (P * 256) * h + (r + d * P) := by
   rw [← e1, ← e2]; grind
  have h1 : 0 ≤ d * P := Int.mul_nonneg b3 (by omega)
  have h2 : d * P ≤ 255 * P := Int.mul_le_mul_of_nonneg_right (by omega) (by omega)
  rw [e3, Int.add_comm ((P * 256) * h), Int.add_mul_emod_self_left, Int.emod_eq_of_lt (by omega) (by omega)]
/-- The one text of bytes of a number. -/
def encN (v : Int) : ByteArray := ⟨((List.range (nb v)).map fun j => UInt8.ofNat (dgt v (nb v - 1 - j)).toNat).toArray⟩
theorem encN_size (v : Int) : (encN v).size = nb v := by
 unfold encN
 show (List.toArray _).size = _
 simp
theorem ofNat_toNat_lt {n : Nat} (h : n < 256) : (UInt8.ofNat n).toNat = n := by
 rw [UInt8.toNat_ofNat']; omega
theorem byt_encN {v : Int} {i : Nat} (hi : i < nb v) : byt (encN v) i = dgt v i := by
 have hs := encN_size v
 unfold byt
 rw [dif_pos (by omega)]
 have hb := dgt_bd v i
 have e : ((encN v)[(encN v).size - 1 - i]'(by omega)) = UInt8.ofNat (dgt v (nb v - 1 - (nb v - 1 - i))).toNat := by
  show ((encN v).data)[(encN v).size - 1 - i]'_ = _
  simp [encN_size]
  unfold encN
  simp
 rw [e, show nb v - 1 - (nb v - 1 - i) = i by omega, ofNat_toNat_lt (by omega)]
 omega
theorem nv_encN {v : Int} (h : 0 ≤ v) : nv (encN v) = v := by
 unfold nv
 rw [encN_size, sumY_congr (g := dgt v) fun j hj => byt_encN hj, sumY_dgt]
 by_cases h0 : v = 0
 ·subst h0; rw [nb_zero]; rfl
 ·exact Int.emod_eq_of_lt h (nb_spec (by omega)).2.1
theorem encN_zero : encN 0 = ⟨#[]⟩ := by
 unfold encN
 rw [nb_zero]
 rfl
/-- A text of bytes that begins with no 0. -/
def Canon (s : ByteArray) : Prop := 0 < s.size → byt s (s.size - 1) ≠ 0
theorem canon_encN (v : Int) (h : 0 ≤ v) : Canon (encN v) := by
 intro hs
 rw [encN_size] at hs ⊢
 have hv : 0 < v := by
  apply Int.lt_of_not_ge
  intro hge
  have : v = 0 := by omega
  rw [this, nb_zero] at hs
  omega
 obtain ⟨a, b, c⟩ := nb_spec hv
 rw [byt_encN (by omega)]
 obtain ⟨m, hm⟩ : ∃ m, nb v = m + 1 := ⟨nb v - 1, by omega⟩
 rw [hm] at a b ⊢
 rw [Nat.add_sub_cancel] at a ⊢
 unfold dgt
 have hq1 : 1 ≤ v / 256 ^ m := Int.le_ediv_of_mul_le (Yp m) (by omega)
 have hq2 : v / 256 ^ m < 256 := Int.ediv_lt_of_lt_mul (Yp m) (by rw [Ys, Int.mul_comm] at b; rw [Int.mul_comm]; rw [Int.mul_comm]; omega)
 rw [Int.emod_eq_of_lt (by omega) hq2]
 omega
theorem size_of_canon {s : ByteArray} (h : Canon s) : s.size = nb (nv s) := by
 rcases Nat.eq_zero_or_pos s.size with h0 | h0
 ·have : nv s = 0 := by unfold nv; rw [h0]; rfl
  rw [this, nb_zero, h0]
 ·obtain ⟨m, hm⟩ : ∃ m, s.size = m + 1 := ⟨s.size - 1, by omega⟩
  have ht := h h0
  rw [hm, Nat.add_sub_cancel] at ht
  have e : nv s = sumY (byt s) m + byt s m * 256 ^ m := by unfold nv; rw [hm]; rfl
  have b := sumY_bd m (byt_bd s)
  have hb := byt_bd s m
  have h1 : 1 * 256 ^ m ≤ byt s m * 256 ^ m := Int.mul_le_mul_of_nonneg_right (by omega) (Int.le_of_lt (Yp m))
  rw [hm]
  exact (nb_of (by omega) (by rw [← hm]; exact (nv_bd s).2)).symm
theorem sumY_inj {f g : Nat → Int} {n : Nat} (hf : ∀ j, 0 ≤ f j ∧ f j < 256) (hg : ∀ j, 0 ≤ g j ∧ g j < 256) (h : sumY f n = sumY g n) : ∀ j, j < n → f j = g j := by
 induction n with
 | zero => intro j hj; omega
 | succ n ih =>
  have e1 : sumY f (n + 1) = sumY f n + f n * 256 ^ n := rfl
  have e2 : sumY g (n + 1) = sumY g n + g n * 256 ^ n := rfl
  rw [e1, e2] at h
  have a := sumY_bd n hf
  have b := sumY_bd n hg
  have hp := Yp n
  have hn : f n = g n := by
   rcases Int.lt_trichotomy (f n) (g n) with h' | h' | h'
   ·have : (f n + 1) * 256 ^ n ≤ g n * 256 ^ n := Int.mul_le_mul_of_nonneg_right (by omega) (by omega)
    have e : (f n + 1) * 256 ^ n = f n * 256 ^ n + 256 ^ n := by grind
    omega
   ·exact h'
   ·have : (g n + 1) * 256 ^ n ≤ f n * 256 ^ n := Int.mul_le_mul_of_nonneg_right (by omega) (by omega)
    have e : (g n + 1) * 256 ^ n = g n * 256 ^ n + 256 ^ n := by grind
    omega
  intro j hj
  by_cases e : j = n
  ·rw [e]; exact hn
  ·exact ih (by rw [hn] at h; omega) j (by omega)
/-- Two texts that begin with no 0 and tell one number are one. -/
theorem canon_uniq {s t : ByteArray} (hs : Canon s) (ht : Canon t) (h : nv s = nv t) : s = t := by
 have e1 := size_of_canon hs
 have e2 := size_of_canon ht
 have e : s.size = t.size := by rw [e1, e2, h]
 have hd : s.data = t.data := by
  apply Array.ext
  ·exact e
  ·intro i h1 h2
   have hi1 : i < s.size := h1
   have hi2 : i < t.size := h2
   have hj := sumY_inj (n := s.size) (byt_bd s) (byt_bd t) (by
    have : nv t = sumY (byt t) s.size := by unfold nv; rw [e]
    rw [← this]; exact h) (s.size - 1 - i) (by omega)
   unfold byt at hj
   rw [dif_pos (by omega), dif_pos (by omega)] at hj
   have k1 : s.size - 1 - (s.size - 1 - i) = i := by omega
   have k2 : t.size - 1 - (s.size - 1 - i) = i := by omega
   have hj' : (s[s.size - 1 - (s.size - 1 - i)]'(by omega)).toNat = (t[t.size - 1 - (s.size - 1 - i)]'(by omega)).toNat := by exact_mod_cast hj
   simp only [k1, k2] at hj'
   exact UInt8.toNat_inj.mp hj'
 cases s; cases t; simp at hd; rw [hd]
theorem encN_nv {s : ByteArray} (h : Canon s) : encN (nv s) = s :=
 canon_uniq (canon_encN _ (nv_bd s).1) h (nv_encN (nv_bd s).1)
/-- A byte of a row of limbs is that of its value. -/
theorem dgt_lv {l : List Int} (hl : Lim l) (i : Nat) : dgt (lv l) i = lg l (i / 8) / 256 ^ (i % 8) % 256 := by
 unfold dgt
 have e1 : lv l = win l 0 (i / 8) + B ^ (i / 8) * win l (i / 8) (l.length + 1) := by
  have : lv l = win l 0 (i / 8 + (l.length + 1)) := by
   unfold win
   rw [sumB_congr (g := lg l) fun j _ => by rw [Nat.zero_add]]
   exact (lv_of (by omega)).symm
  rw [this, win_split, Nat.zero_add]
 have b := win_bd hl 0 (i / 8)
 have e2 : (256 : Int) ^ i = B ^ (i / 8) * 256 ^ (i % 8) := by
  rw [← YB, ← Int.pow_add]; congr 1; omega
 have hp := Bp (i / 8)
 rw [e2, ← Int.ediv_ediv_of_nonneg (by omega)]
 have e3 : lv l / B ^ (i / 8) = win l (i / 8) (l.length + 1) := by
  rw [e1, Int.add_mul_ediv_left _ _ (by omega), Int.ediv_eq_zero_of_lt b.1 b.2, Int.zero_add]
 rw [e3, win_low]
 have hB : B = 256 ^ (i % 8) * (256 ^ (7 - i % 8) * 256) := by
  rw [← Ys, ← Int.pow_add, show i % 8 + (7 - i % 8 + 1) = 8 by omega]; rfl
 have e4 : lg l (i / 8) + B * win l (i / 8 + 1) l.length = lg l (i / 8) + 256 ^ (i % 8) * (256 ^ (7 - i % 8) * 256 * win l (i / 8 + 1) l.length) := by
  rw [hB]; grind
 have hy := Yp (i % 8)
 rw [e4, Int.add_mul_ediv_left _ _ (by omega)]
 have e5 : (256 : Int) ^ (7 - i % 8) * 256 * win l (i / 8 + 1) l.length = 256 * (256 ^ (7 - i % 8) * win l (i / 8 + 1) l.length) := by grind
 rw [e5, Int.add_mul_emod_self_left]
/-- How many bytes a row's value has. -/
theorem nb_lv {l : List Int} {p s : Nat} (hl : Lim l) (hp : l.length = p + 1) (hs : s ≤ 63) (h1 : 9223372036854775808 ≤ lg l p * 2 ^ s) (h2 : lg l p * 2 ^ s < B) : nb (lv l) = 8 * (p + 1) - s / 8 := by
 have e : lv l = sumB (lg l) p + lg l p * B ^ p := by unfold lv; rw [hp]; rfl
 have b := sumB_bd p hl
 have hq := Bp p
 have t0 := hl p
 have hpw : (0 : Int) < 2 ^ s := Int.pow_pos (by decide)
 obtain ⟨c, r, hr, hsc⟩ : ∃ c r : Nat, r < 8 ∧ s = 8 * c + r := ⟨s / 8, s % 8, by omega, by omega⟩
 have hc : s / 8 = c := by omega
 have e2 : (2 : Int) ^ s = 256 ^ c * 2 ^ r := by rw [hsc, Int.pow_add, Y2]
 have hr1 : (1 : Int) ≤ 2 ^ r := by have : (0 : Int) < 2 ^ r := Int.pow_pos (by decide); omega
 have hr2 : (2 : Int) ^ r ≤ 128 := by
  have h7 : r = 0 ∨ r = 1 ∨ r = 2 ∨ r = 3 ∨ r = 4 ∨ r = 5 ∨ r = 6 ∨ r = 7 := by omega
  rcases h7 with rfl | rfl | rfl | rfl | rfl | rfl | rfl | rfl <;> decide
 have hcp := Yp c
 have hB : B = 256 ^ c * 256 ^ (8 - c) := by rw [← Int.pow_add, show c + (8 - c) = 8 by omega]; rfl
 have u1 : lg l p < 256 ^ (8 - c) := by
  have : 256 ^ c * lg l p < 256 ^ c * 256 ^ (8 - c) := by
   rw [← hB]
   have h3 : 256 ^ c * lg l p * 1 ≤ 256 ^ c * lg l p * 2 ^ r := Int.mul_le_mul_of_nonneg_left hr1 (Int.mul_nonneg (by omega) t0.1)
   have h4 : 256 ^ c * lg l p * 2 ^ r = lg l p * 2 ^ s := by rw [e2]; grind
   omega
  exact Int.lt_of_mul_lt_mul_left this (Int.le_of_lt hcp)
 have u2 : 256 ^ (7 - c) ≤ lg l p := by
  apply Int.le_of_not_gt
  intro hlt
  have h3 : lg l p * 2 ^ s ≤ (256 ^ (7 - c) - 1) * 2 ^ s := Int.mul_le_mul_of_nonneg_right (by omega) (by omega)
  have h4 : (256 ^ (7 - c) : Int) * 2 ^ s = 256 ^ 7 * 2 ^ r := by
   rw [e2, ← Int.mul_assoc, ← Int.pow_add, show 7 - c + c = 7 by omega]
  have h5 : ((256 : Int) ^ (7 - c) - 1) * 2 ^ s = 256 ^ (7 - c) * 2 ^ s - 2 ^ s := by grind
  have h6 : (256 : Int) ^ 7 * 2 ^ r ≤ 256 ^ 7 * 128 := Int.mul_le_mul_of_nonneg_left hr2 (by decide)
  have h7 : (256 : Int) ^ 7 * 128 = 9223372036854775808 := by decide
  omega
 rw [hc, show 8 * (p + 1) - c = 8 * p + (7 - c) + 1 by omega]
 apply nb_of
 ·rw [Int.pow_add, YB]
  have : B ^ p * 256 ^ (7 - c) ≤ B ^ p * lg l p := Int.mul_le_mul_of_nonneg_left u2 (by omega)
  have : B ^ p * lg l p = lg l p * B ^ p := Int.mul_comm _ _
  omega
 ·rw [show 8 * p + (7 - c) + 1 = 8 * p + (8 - c) by omega, Int.pow_add, YB]
  have : (lg l p + 1) * B ^ p ≤ 256 ^ (8 - c) * B ^ p := Int.mul_le_mul_of_nonneg_right (by omega) (by omega)
  have e6 : (lg l p + 1) * B ^ p = lg l p * B ^ p + B ^ p := by grind
  have : B ^ p * 256 ^ (8 - c) = 256 ^ (8 - c) * B ^ p := Int.mul_comm _ _
  omega
end Go.Proofs.YtoijlbcbbblbfaaGreatDoor.Num
