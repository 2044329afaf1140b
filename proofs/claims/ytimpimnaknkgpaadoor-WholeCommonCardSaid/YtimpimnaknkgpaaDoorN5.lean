import Derived.Test.YtimpimnaknkgpaaDoorN4
/- Plain numbers: the text of bytes of a number, and that there is only one. -/
set_option linter.unusedVariables false
namespace Go.Proofs.YtimpimnaknkgpaaDoor.Num
/-- How many bytes a number has. -/
def nbN (v : Nat) : Nat := if h : v = 0 then 0 else nbN (v / 256) + 1
termination_by v
decreasing_by omega
theorem nbN_zero : nbN 0 = 0 := by unfold nbN; rfl
theorem nbN_pos {v : Nat} (h : v ≠ 0) : nbN v = nbN (v / 256) + 1 := by
  rw [nbN, dif_neg h]
theorem nbN_spec (v : Nat) (h : v ≠ 0) : 256 ^ (nbN v - 1) ≤ v ∧ v < 256 ^ nbN v ∧ 1 ≤ nbN v := by
  induction v using Nat.strongRecOn with
  | _ v ih =>
    rw [nbN_pos h, Nat.add_sub_cancel]
    by_cases h0 : v / 256 = 0
    · rw [h0, nbN_zero]
      refine ⟨by omega, by omega, by omega⟩
    · obtain ⟨a, b, c⟩ := ih (v / 256) (by omega) h0
      obtain ⟨m, hm⟩ : ∃ m, nbN (v / 256) = m + 1 := ⟨nbN (v / 256) - 1, by omega⟩
      rw [hm] at a b ⊢
      rw [Nat.add_sub_cancel] at a
      rw [Nat.pow_succ] at b ⊢
      rw [Nat.pow_succ 256 (m + 1), Nat.pow_succ]
      omega
theorem nbN_uniq {v n : Nat} (h1 : 256 ^ n ≤ v) (h2 : v < 256 ^ (n + 1)) : nbN v = n + 1 := by
  have h0 : v ≠ 0 := by have := Nat.pow_pos (a := 256) (n := n) (by omega); omega
  obtain ⟨a, b, c⟩ := nbN_spec v h0
  have l1 : nbN v ≤ n + 1 := by
    apply Nat.le_of_not_lt
    intro hgt
    have := Nat.pow_le_pow_right (show 0 < 256 by omega) (show n + 1 ≤ nbN v - 1 by omega)
    omega
  have l2 : n + 1 ≤ nbN v := by
    apply Nat.le_of_not_lt
    intro hgt
    have := Nat.pow_le_pow_right (show 0 < 256 by omega) (show nbN v ≤ n by omega)
    omega
  omega
def nb (v : Int) : Nat := nbN v.toNat
theorem pwc (n : Nat) : ((256 ^ n : Nat) : Int) = (256 : Int) ^ n := by rw [Int.natCast_pow]; rfl
theorem nb_of {v : Int} {n : Nat} (h1 : 256 ^ n ≤ v) (h2 : v < 256 ^ (n + 1)) : nb v = n + 1 := by
  have h0 : 0 < v := by have := Yp n; omega
  obtain ⟨m, rfl⟩ := Int.eq_ofNat_of_zero_le (Int.le_of_lt h0)
  unfold nb
  rw [Int.toNat_natCast]
  apply nbN_uniq
  · rw [← pwc] at h1; exact Int.ofNat_le.mp h1
  · rw [← pwc] at h2; exact Int.ofNat_lt.mp h2
theorem nb_spec {v : Int} (h : 0 < v) : 256 ^ (nb v - 1) ≤ v ∧ v < 256 ^ nb v ∧ 1 ≤ nb v := by
  obtain ⟨m, rfl⟩ := Int.eq_ofNat_of_zero_le (Int.le_of_lt h)
  unfold nb
  rw [Int.toNat_natCast]
  obtain ⟨a, b, c⟩ := nbN_spec m (by omega)
  exact ⟨by rw [← pwc]; exact Int.ofNat_le.mpr a, by rw [← pwc]; exact Int.ofNat_lt.mpr b, c⟩
theorem nb_zero : nb 0 = 0 := nbN_zero
/-- Digit i of a number, to the base 256. -/
def dgt (v : Int) (i : Nat) : Int := v / 256 ^ i % 256
theorem dgt_bd (v : Int) (i : Nat) : 0 ≤ dgt v i ∧ dgt v i < 256 := ⟨Int.emod_nonneg _ (by decide), Int.emod_lt_of_pos _ (by decide)⟩
theorem sumY_dgt (v : Int) (n : Nat) : sumY (dgt v) n = v % 256 ^ n := by
  induction n with
  | zero => rw [Int.pow_zero]; show (0 : Int) = v % 1; omega
  | succ n ih =>
    show sumY (dgt v) n + dgt v n * 256 ^ n = _
    rw [ih, Ys]
    unfold dgt
    have hp := Yp n
    have e1 := Int.mul_ediv_add_emod v (256 ^ n)
    have e2 := Int.mul_ediv_add_emod (v / 256 ^ n) 256
    have b1 := Int.emod_nonneg v (show (256 : Int) ^ n ≠ 0 by omega)
    have b2 := Int.emod_lt_of_pos v hp
    have b3 := Int.emod_nonneg (v / 256 ^ n) (show (256 : Int) ≠ 0 by decide)
    have b4 := Int.emod_lt_of_pos (v / 256 ^ n) (show (0 : Int) < 256 by decide)
    generalize v % 256 ^ n = r at *
    generalize v / 256 ^ n % 256 = d at *
    generalize v / 256 ^ n / 256 = h at *
    generalize v / 256 ^ n = q at *
    generalize (256 : Int) ^ n = P at *
    have e3 : v = (P * 256) * h + (r + d * P) := by
      rw [← e1, ← e2]; grind
    have h1 : 0 ≤ d * P := Int.mul_nonneg b3 (by omega)
    have h2 : d * P ≤ 255 * P := Int.mul_le_mul_of_nonneg_right (by omega) (by omega)
    rw [e3, Int.add_comm ((P * 256) * h), Int.add_mul_emod_self_left, Int.emod_eq_of_lt (by omega) (by omega)]
/-- The one text of bytes of a number. -/
def encN (v : Int) : ByteArray := ⟨((List.range (nb v)).map fun j => UInt8.ofNat (dgt v (nb v - 1 - j)).toNat).toArray⟩
theorem encN_size (v : Int) : (encN v).size = nb v := by
  unfold encN
  show (List.toArray _).size = _
  simp
theorem ofNat_toNat_lt {n : Nat} (h : n < 256) : (UInt8.ofNat n).toNat = n := by
  rw [UInt8.toNat_ofNat']; omega
theorem byt_encN {v : Int} {i : Nat} (hi : i < nb v) : byt (encN v) i = dgt v i := by
  have hs := encN_size v
  unfold byt
  rw [dif_pos (by omega)]
  have hb := dgt_bd v i
  have e : ((encN v)[(encN v).size - 1 - i]'(by omega)) = UInt8.ofNat (dgt v (nb v - 1 - (nb v - 1 - i))).toNat := by
    show ((encN v).data)[(encN v).size - 1 - i]'_ = _
    simp [encN_size]
    unfold encN
    simp
  rw [e, show nb v - 1 - (nb v - 1 - i) = i by omega, ofNat_toNat_lt (by omega)]
  omega
theorem nv_encN {v : Int} (h : 0 ≤ v) : nv (encN v) = v := by
  unfold nv
  rw [encN_size, sumY_congr (g := dgt v) fun j hj => byt_encN hj, sumY_dgt]
  by_cases h0 : v = 0
  · subst h0; rw [nb_zero]; rfl
  · exact Int.emod_eq_of_lt h (nb_spec (by omega)).2.1
theorem encN_zero : encN 0 = ⟨#[]⟩ := by
  unfold encN
  rw [nb_zero]
  rfl
/-- A text of bytes that begins with no 0. -/
def Canon (s : ByteArray) : Prop := 0 < s.size → byt s (s.size - 1) ≠ 0
theorem canon_encN (v : Int) (h : 0 ≤ v) : Canon (encN v) := by
  intro hs
  rw [encN_size] at hs ⊢
  have hv : 0 < v := by
    apply Int.lt_of_not_ge
    intro hge
    have : v = 0 := by omega
    rw [this, nb_zero] at hs
    omega
  obtain ⟨a, b, c⟩ := nb_spec hv
  rw [byt_encN (by omega)]
  obtain ⟨m, hm⟩ : ∃ m, nb v = m + 1 := ⟨nb v - 1, by omega⟩
  rw [hm] at a b ⊢
  rw [Nat.add_sub_cancel] at a ⊢
  unfold dgt
  have hq1 : 1 ≤ v / 256 ^ m := Int.le_ediv_of_mul_le (Yp m) (by omega)
  have hq2 : v / 256 ^ m < 256 := Int.ediv_lt_of_lt_mul (Yp m) (by rw [Ys, Int.mul_comm] at b; rw [Int.mul_comm]; rw [Int.mul_comm]; omega)
  rw [Int.emod_eq_of_lt (by omega) hq2]
  omega
theorem size_of_canon {s : ByteArray} (h : Canon s) : s.size = nb (nv s) := by
  rcases Nat.eq_zero_or_pos s.size with h0 | h0
  · have : nv s = 0 := by unfold nv; rw [h0]; rfl
    rw [this, nb_zero, h0]
  · obtain ⟨m, hm⟩ : ∃ m, s.size = m + 1 := ⟨s.size - 1, by omega⟩
    have ht := h h0
    rw [hm, Nat.add_sub_cancel] at ht
    have e : nv s = sumY (byt s) m + byt s m * 256 ^ m := by unfold nv; rw [hm]; rfl
    have b := sumY_bd m (byt_bd s)
    have hb := byt_bd s m
    have h1 : 1 * 256 ^ m ≤ byt s m * 256 ^ m := Int.mul_le_mul_of_nonneg_right (by omega) (Int.le_of_lt (Yp m))
    rw [hm]
    exact (nb_of (by omega) (by rw [← hm]; exact (nv_bd s).2)).symm
theorem sumY_inj {f g : Nat → Int} {n : Nat} (hf : ∀ j, 0 ≤ f j ∧ f j < 256) (hg : ∀ j, 0 ≤ g j ∧ g j < 256) (h : sumY f n = sumY g n) : ∀ j, j < n → f j = g j := by
  induction n with
  | zero => intro j hj; omega
  | succ n ih =>
    have e1 : sumY f (n + 1) = sumY f n + f n * 256 ^ n := rfl
    have e2 : sumY g (n + 1) = sumY g n + g n * 256 ^ n := rfl
    rw [e1, e2] at h
    have a := sumY_bd n hf
    have b := sumY_bd n hg
    have hp := Yp n
    have hn : f n = g n := by
      rcases Int.lt_trichotomy (f n) (g n) with h' | h' | h'
      · have : (f n + 1) * 256 ^ n ≤ g n * 256 ^ n := Int.mul_le_mul_of_nonneg_right (by omega) (by omega)
        have e : (f n + 1) * 256 ^ n = f n * 256 ^ n + 256 ^ n := by grind
        omega
      · exact h'
      · have : (g n + 1) * 256 ^ n ≤ f n * 256 ^ n := Int.mul_le_mul_of_nonneg_right (by omega) (by omega)
        have e : (g n + 1) * 256 ^ n = g n * 256 ^ n + 256 ^ n := by grind
        omega
    intro j hj
    by_cases e : j = n
    · rw [e]; exact hn
    · exact ih (by rw [hn] at h; omega) j (by omega)
/-- Two texts that begin with no 0 and tell one number are one. -/
theorem canon_uniq {s t : ByteArray} (hs : Canon s) (ht : Canon t) (h : nv s = nv t) : s = t := by
  have e1 := size_of_canon hs
  have e2 := size_of_canon ht
  have e : s.size = t.size := by rw [e1, e2, h]
  have hd : s.data = t.data := by
    apply Array.ext
    · exact e
    · intro i h1 h2
      have hi1 : i < s.size := h1
      have hi2 : i < t.size := h2
      have hj := sumY_inj (n := s.size) (byt_bd s) (byt_bd t) (by
        have : nv t = sumY (byt t) s.size := by unfold nv; rw [e]
        rw [← this]; exact h) (s.size - 1 - i) (by omega)
      unfold byt at hj
      rw [dif_pos (by omega), dif_pos (by omega)] at hj
      have k1 : s.size - 1 - (s.size - 1 - i) = i := by omega
      have k2 : t.size - 1 - (s.size - 1 - i) = i := by omega
      have hj' : (s[s.size - 1 - (s.size - 1 - i)]'(by omega)).toNat = (t[t.size - 1 - (s.size - 1 - i)]'(by omega)).toNat := by exact_mod_cast hj
      simp only [k1, k2] at hj'
      exact UInt8.toNat_inj.mp hj'
  cases s; cases t; simp at hd; rw [hd]
theorem encN_nv {s : ByteArray} (h : Canon s) : encN (nv s) = s :=
  canon_uniq (canon_encN _ (nv_bd s).1) h (nv_encN (nv_bd s).1)
/-- A byte of a row of limbs is that of its value. -/
theorem dgt_lv {l : List Int} (hl : Lim l) (i : Nat) : dgt (lv l) i = lg l (i / 8) / 256 ^ (i % 8) % 256 := by
  unfold dgt
  have e1 : lv l = win l 0 (i / 8) + B ^ (i / 8) * win l (i / 8) (l.length + 1) := by
    have : lv l = win l 0 (i / 8 + (l.length + 1)) := by
      unfold win
      rw [sumB_congr (g := lg l) fun j _ => by rw [Nat.zero_add]]
      exact (lv_of (by omega)).symm
    rw [this, win_split, Nat.zero_add]
  have b := win_bd hl 0 (i / 8)
  have e2 : (256 : Int) ^ i = B ^ (i / 8) * 256 ^ (i % 8) := by
    rw [← YB, ← Int.pow_add]; congr 1; omega
  have hp := Bp (i / 8)
  rw [e2, ← Int.ediv_ediv_of_nonneg (by omega)]
  have e3 : lv l / B ^ (i / 8) = win l (i / 8) (l.length + 1) := by
    rw [e1, Int.add_mul_ediv_left _ _ (by omega), Int.ediv_eq_zero_of_lt b.1 b.2, Int.zero_add]
  rw [e3, win_low]
  have hB : B = 256 ^ (i % 8) * (256 ^ (7 - i % 8) * 256) := by
    rw [← Ys, ← Int.pow_add, show i % 8 + (7 - i % 8 + 1) = 8 by omega]; rfl
  have e4 : lg l (i / 8) + B * win l (i / 8 + 1) l.length = lg l (i / 8) + 256 ^ (i % 8) * (256 ^ (7 - i % 8) * 256 * win l (i / 8 + 1) l.length) := by
    rw [hB]; grind
  have hy := Yp (i % 8)
  rw [e4, Int.add_mul_ediv_left _ _ (by omega)]
  have e5 : (256 : Int) ^ (7 - i % 8) * 256 * win l (i / 8 + 1) l.length = 256 * (256 ^ (7 - i % 8) * win l (i / 8 + 1) l.length) := by grind
  rw [e5, Int.add_mul_emod_self_left]
/-- How many bytes a row's value has. -/
theorem nb_lv {l : List Int} {p s : Nat} (hl : Lim l) (hp : l.length = p + 1) (hs : s ≤ 63) (h1 : 9223372036854775808 ≤ lg l p * 2 ^ s) (h2 : lg l p * 2 ^ s < B) : nb (lv l) = 8 * (p + 1) - s / 8 := by
  have e : lv l = sumB (lg l) p + lg l p * B ^ p := by unfold lv; rw [hp]; rfl
  have b := sumB_bd p hl
  have hq := Bp p
  have t0 := hl p
  have hpw : (0 : Int) < 2 ^ s := Int.pow_pos (by decide)
  obtain ⟨c, r, hr, hsc⟩ : ∃ c r : Nat, r < 8 ∧ s = 8 * c + r := ⟨s / 8, s % 8, by omega, by omega⟩
  have hc : s / 8 = c := by omega
  have e2 : (2 : Int) ^ s = 256 ^ c * 2 ^ r := by rw [hsc, Int.pow_add, Y2]
  have hr1 : (1 : Int) ≤ 2 ^ r := by have : (0 : Int) < 2 ^ r := Int.pow_pos (by decide); omega
  have hr2 : (2 : Int) ^ r ≤ 128 := by
    have h7 : r = 0 ∨ r = 1 ∨ r = 2 ∨ r = 3 ∨ r = 4 ∨ r = 5 ∨ r = 6 ∨ r = 7 := by omega
    rcases h7 with rfl | rfl | rfl | rfl | rfl | rfl | rfl | rfl <;> decide
  have hcp := Yp c
  have hB : B = 256 ^ c * 256 ^ (8 - c) := by rw [← Int.pow_add, show c + (8 - c) = 8 by omega]; rfl
  have u1 : lg l p < 256 ^ (8 - c) := by
    have : 256 ^ c * lg l p < 256 ^ c * 256 ^ (8 - c) := by
      rw [← hB]
      have h3 : 256 ^ c * lg l p * 1 ≤ 256 ^ c * lg l p * 2 ^ r := Int.mul_le_mul_of_nonneg_left hr1 (Int.mul_nonneg (by omega) t0.1)
      have h4 : 256 ^ c * lg l p * 2 ^ r = lg l p * 2 ^ s := by rw [e2]; grind
      omega
    exact Int.lt_of_mul_lt_mul_left this (Int.le_of_lt hcp)
  have u2 : 256 ^ (7 - c) ≤ lg l p := by
    apply Int.le_of_not_gt
    intro hlt
    have h3 : lg l p * 2 ^ s ≤ (256 ^ (7 - c) - 1) * 2 ^ s := Int.mul_le_mul_of_nonneg_right (by omega) (by omega)
    have h4 : (256 ^ (7 - c) : Int) * 2 ^ s = 256 ^ 7 * 2 ^ r := by
      rw [e2, ← Int.mul_assoc, ← Int.pow_add, show 7 - c + c = 7 by omega]
    have h5 : ((256 : Int) ^ (7 - c) - 1) * 2 ^ s = 256 ^ (7 - c) * 2 ^ s - 2 ^ s := by grind
    have h6 : (256 : Int) ^ 7 * 2 ^ r ≤ 256 ^ 7 * 128 := Int.mul_le_mul_of_nonneg_left hr2 (by decide)
    have h7 : (256 : Int) ^ 7 * 128 = 9223372036854775808 := by decide
    omega
  rw [hc, show 8 * (p + 1) - c = 8 * p + (7 - c) + 1 by omega]
  apply nb_of
  · rw [Int.pow_add, YB]
    have : B ^ p * 256 ^ (7 - c) ≤ B ^ p * lg l p := Int.mul_le_mul_of_nonneg_left u2 (by omega)
    have : B ^ p * lg l p = lg l p * B ^ p := Int.mul_comm _ _
    omega
  · rw [show 8 * p + (7 - c) + 1 = 8 * p + (8 - c) by omega, Int.pow_add, YB]
    have : (lg l p + 1) * B ^ p ≤ 256 ^ (8 - c) * B ^ p := Int.mul_le_mul_of_nonneg_right (by omega) (by omega)
    have e6 : (lg l p + 1) * B ^ p = lg l p * B ^ p + B ^ p := by grind
    have : B ^ p * 256 ^ (8 - c) = 256 ^ (8 - c) * B ^ p := Int.mul_comm _ _
    omega
end Go.Proofs.YtimpimnaknkgpaaDoor.Num
