import Derived.Test.YtimpimnaknkgpaaDoorN3
/- Plain numbers: bytes, the highest first, as numbers. -/
set_option linter.unusedVariables false
namespace Go.Proofs.YtimpimnaknkgpaaDoor.Num
def sumY (f : Nat → Int) : Nat → Int
  | 0 => 0
  | n + 1 => sumY f n + f n * 256 ^ n
/-- Byte i of a text, from its end on. -/
def byt (s : ByteArray) (i : Nat) : Int := if h : i < s.size then ((s[s.size - 1 - i]'(by omega)).toNat : Int) else 0
theorem byt_bd (s : ByteArray) (i : Nat) : 0 ≤ byt s i ∧ byt s i < 256 := by
  unfold byt
  split
  · have := (s[s.size - 1 - i]'(by omega)).toNat_lt
    omega
  · omega
/-- The number of a text of bytes. -/
def nv (s : ByteArray) : Int := sumY (byt s) s.size
theorem Yp (n : Nat) : (0 : Int) < 256 ^ n := Int.pow_pos (by decide)
theorem Ys (n : Nat) : (256 : Int) ^ (n + 1) = 256 ^ n * 256 := Int.pow_succ _ _
theorem Ymono {m n : Nat} (h : m ≤ n) : (256 : Int) ^ m ≤ 256 ^ n := by
  obtain ⟨d, rfl⟩ := Nat.exists_eq_add_of_le h
  rw [Int.pow_add]
  have h1 := Yp m
  have h2 := Yp d
  have : (256 : Int) ^ m * 1 ≤ 256 ^ m * 256 ^ d := Int.mul_le_mul_of_nonneg_left (by omega) (by omega)
  omega
theorem YB (n : Nat) : (256 : Int) ^ (8 * n) = B ^ n := by
  rw [Int.pow_mul]; rfl
theorem Y2 (n : Nat) : (256 : Int) ^ n = 2 ^ (8 * n) := by
  rw [Int.pow_mul]; rfl
theorem sumY_bd {f : Nat → Int} (n : Nat) (h : ∀ j, 0 ≤ f j ∧ f j < 256) : 0 ≤ sumY f n ∧ sumY f n < 256 ^ n := by
  induction n with
  | zero => exact ⟨Int.le_refl _, by simp [sumY]⟩
  | succ n ih =>
    unfold sumY
    rw [Ys]
    have h1 := h n
    have h2 := Yp n
    have h3 : 0 ≤ f n * 256 ^ n := Int.mul_nonneg h1.1 (Int.le_of_lt h2)
    have h4 : f n * 256 ^ n ≤ (256 - 1) * 256 ^ n := Int.mul_le_mul_of_nonneg_right (by omega) (Int.le_of_lt h2)
    have h5 : (256 - 1 : Int) * 256 ^ n = 256 ^ n * 256 - 256 ^ n := by grind
    omega
theorem sumY_congr {f g : Nat → Int} {n : Nat} (h : ∀ j, j < n → f j = g j) : sumY f n = sumY g n := by
  induction n with
  | zero => rfl
  | succ n ih => unfold sumY; rw [ih (fun j hj => h j (by omega)), h n (by omega)]
theorem nv_bd (s : ByteArray) : 0 ≤ nv s ∧ nv s < 256 ^ s.size := sumY_bd _ (byt_bd s)
theorem lv_set {L : List Int} {j : Nat} {x : Int} (hj : j < L.length) : lv (L.set j x) = lv L + (x - lg L j) * B ^ j := by
  have h := win_change (L := L) (L' := L.set j x) (i := j) (m := 1) (N := L.length) (by omega) (fun t ht => by rw [lg_set, if_neg (by omega)])
  have e1 : win (L.set j x) 0 L.length = lv (L.set j x) := by
    have := win_zero (L.set j x); rw [List.length_set] at this; exact this
  rw [e1, win_zero] at h
  have w1 : ∀ l : List Int, win l j 1 = lg l j := fun l => by
    rw [win_s, Int.pow_zero, Int.mul_one, Nat.add_zero]
    exact Int.zero_add _
  have e2 : win (L.set j x) j 1 = x := by rw [w1, lg_set, if_pos ⟨rfl, hj⟩]
  have e3 : win L j 1 = lg L j := w1 L
  rw [e2, e3] at h
  have : (x - lg L j) * B ^ j = B ^ j * (x - lg L j) := Int.mul_comm _ _
  omega
/-- The state of a reading: k bytes are read. -/
structure OfI (f : Nat → Int) (N k : Nat) (L : List Int) : Prop where
  len : L.length = N
  lim : Lim L
  low : lg L (k / 8) < 256 ^ (k % 8)
  zero : ∀ j, k / 8 < j → lg L j = 0
  val : lv L = sumY f k
theorem OfI.step {f : Nat → Int} {N k : Nat} {L : List Int} (h : OfI f N k L) (hf : ∀ j, 0 ≤ f j ∧ f j < 256) (hk : k / 8 < N) :
    (0 ≤ f k * 256 ^ (k % 8) ∧ f k * 256 ^ (k % 8) < B ∧ lg L (k / 8) + f k * 256 ^ (k % 8) < B) ∧ OfI f N (k + 1) (L.set (k / 8) (lg L (k / 8) + f k * 256 ^ (k % 8))) := by
  have hl0 := (h.lim (k / 8)).1
  have hfk := hf k
  have hlow := h.low
  have hp := Yp (k % 8)
  have h3 : 0 ≤ f k * 256 ^ (k % 8) := Int.mul_nonneg hfk.1 (Int.le_of_lt hp)
  have h4 : f k * 256 ^ (k % 8) ≤ (256 - 1) * 256 ^ (k % 8) := Int.mul_le_mul_of_nonneg_right (by omega) (Int.le_of_lt hp)
  have h5 : (256 - 1 : Int) * 256 ^ (k % 8) = 256 ^ (k % 8 + 1) - 256 ^ (k % 8) := by rw [Ys]; grind
  have h6 : (256 : Int) ^ (k % 8 + 1) ≤ B := by
    exact Ymono (n := 8) (by omega)
  have hval : lv (L.set (k / 8) (lg L (k / 8) + f k * 256 ^ (k % 8))) = sumY f (k + 1) := by
    rw [lv_set (by rw [h.len]; exact hk), h.val]
    show _ = sumY f k + f k * 256 ^ k
    have e : (256 : Int) ^ k = 256 ^ (k % 8) * B ^ (k / 8) := by
      rw [← YB, ← Int.pow_add]; congr 1; omega
    rw [e]
    grind
  refine ⟨⟨h3, by omega, by omega⟩, ⟨by rw [List.length_set]; exact h.len, h.lim.set _ ⟨by omega, by omega⟩, ?_, ?_, hval⟩⟩
  · by_cases e : (k + 1) / 8 = k / 8
    · rw [e, lg_set, if_pos ⟨rfl, by rw [h.len]; exact hk⟩, show (k + 1) % 8 = k % 8 + 1 by omega]
      omega
    · rw [lg_set, if_neg (by omega), h.zero _ (by omega)]
      exact Yp _
  · intro j hj
    rw [lg_set, if_neg (by omega)]
    exact h.zero j (by omega)
theorem OfI.start (f : Nat → Int) (N : Nat) : OfI f N 0 (List.replicate N 0) :=
  ⟨by simp, Lim_zero _, by rw [lg_replicate]; exact Yp _, fun j _ => lg_replicate _ _, sumB_zero (m := 0) (by omega) fun j _ _ => lg_replicate _ _⟩
/-- What is read of a text whose first byte is not 0 has no nought at its end. -/
theorem OfI.top {f : Nat → Int} {n : Nat} {L : List Int} (h : OfI f ((n + 7) / 8) n L) (hf : ∀ j, 0 ≤ f j ∧ f j < 256) (htop : 0 < n → f (n - 1) ≠ 0) : Tr L := by
  cases n with
  | zero => exact .inl (by rw [h.len])
  | succ n =>
    have hl := h.len
    have hN : (n + 1 + 7) / 8 = n / 8 + 1 := by omega
    right
    rw [hl, hN, Nat.add_sub_cancel]
    intro hz
    have e1 : lv L = sumB (lg L) (n / 8) := by
      unfold lv; rw [hl, hN]
      show sumB (lg L) (n / 8) + lg L (n / 8) * B ^ (n / 8) = _
      rw [hz, Int.zero_mul, Int.add_zero]
    have e2 := h.val
    have b := sumB_bd (n / 8) h.lim
    have : sumY f (n + 1) = sumY f n + f n * 256 ^ n := rfl
    have h0 := (sumY_bd n hf).1
    have hne := htop (by omega)
    rw [Nat.add_sub_cancel] at hne
    have hf0 := hf n
    have h1 : 1 * 256 ^ n ≤ f n * 256 ^ n := Int.mul_le_mul_of_nonneg_right (by omega) (Int.le_of_lt (Yp n))
    have h2 : B ^ (n / 8) ≤ 256 ^ n := by
      rw [← YB]
      exact Ymono (by omega)
    omega
end Go.Proofs.YtimpimnaknkgpaaDoor.Num
