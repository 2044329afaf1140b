import Derived.Test.YtoijlbcbbblbfaaGreatDoorZzV5a
namespace Go.Proofs.YtoijlbcbbblbfaaGreatDoor
open Go.RowKit Num Go.Proofs.YtoijlbcbbblbfaaGreatDoorH.R Go.Proofs.YtoijlbcbbblbfaaGreatDoorW.PrintWords Go.Proofs.YtoijlbcbbblbfaaGreatDoorW.PrintMore
set_option linter.unusedVariables false
set_option linter.unusedSimpArgs false

/-! ### What Print and Decimal tell -/
theorem decLen : ∀ (k V : Nat), V < 10 ^ k → (dec V).length ≤ k
 | 0, V, h => by
  have : V = 0 := by simpa using h
  rw [this, dec_zero]; exact Nat.le_refl _
 | k + 1, V, h => by
  rcases Nat.eq_zero_or_pos V with h0 | h0
  ·rw [h0, dec_zero]; exact Nat.zero_le _
  ·rw [dec_pos h0, List.length_append]
   have := decLen k (V / 10) (Nat.div_lt_of_lt_mul (by rw [Nat.pow_succ, Nat.mul_comm] at h; exact h))
   simp
   omega
def txtN (n : Bool) (v : Int) : ByteArray := ⟨(textL n v.toNat).toArray⟩
theorem txt_size {n : Bool} {v : Int} {k : Nat} (h0 : 0 ≤ v) (h : v < 256 ^ k) : (txtN n v).size ≤ 3 * k + 1 := by
 have h1 : v.toNat < 10 ^ (3 * k) := by
  rw [Nat.pow_mul]
  have a : v.toNat < 256 ^ k := by
   have e : ((256 ^ k : Nat) : Int) = 256 ^ k := by simp
   generalize (256 : Nat) ^ k = u at *
   omega
  exact Nat.lt_of_lt_of_le a (Nat.pow_le_pow_left (by decide) k)
 have h2 := decLen _ _ h1
 have e : (txtN n v).size = (textL n v.toNat).length := by unfold txtN; simp [ByteArray.size]
 rw [e]
 unfold textL
 split
 ·simp; omega
 ·split <;> simp <;> omega
theorem prt_p {n : Bool} {s : ByteArray} (hk : okI n s) (h : s.size ≤ 15000) : whole_Print.f n s = some (txtN n (nv s), 0) := by
 unfold whole_Print.f printF
 rw [if_pos h]
 dsimp only
 rw [if_neg (fun hc => hc (chk_ok.2 hk))]
 rfl
theorem print_any (k : Nat) (a : RG) (h1 : a.2.1.size ≤ 120) (h2 : a.2.2.size ≤ 120) : ∃ s, rat_Print.f (k + 2) a.1 a.2.1 a.2.2 = some (s, chkR a) := by
 unfold rat_Print.f
 rw [check_p k a (by omega) (by omega), Option.bind_some]
 by_cases hc : chkR a = 0
 ·have ha := chkR_ok.1 hc
  rw [if_pos hc, hc, prt_p ha.kn (by omega), Option.bind_some]
  dsimp only
  by_cases c : a.2.2.toList = ([1] : List UInt8)
  ·rw [if_pos c]
   exact ⟨_, rfl⟩
  ·have e : rat_den.f a.1 a.2.1 a.2.2 = some (false, a.2.2) := rfl
   rw [if_neg c, e, Option.bind_some]
   dsimp only
   rw [prt_p ha.kd (by omega), Option.bind_some]
   dsimp only
   have z1 := txt_size (n := a.1) (k := 120) (nv_bd a.2.1).1 (size_pow h1)
   have z2 := txt_size (n := false) (k := 120) (nv_bd a.2.2).1 (size_pow h2)
   have z3 : (txtN a.1 (nv a.2.1) ++ (⟨#[47]⟩ : ByteArray)).size = (txtN a.1 (nv a.2.1)).size + 1 := ByteArray.size_append
   rw [if_pos (by omega), if_pos (by omega)]
   exact ⟨_, rfl⟩
 ·rw [if_neg hc]
  exact ⟨_, rfl⟩
/-! ### Rounding -/
theorem btRange (s : ByteArray) (i : Int) : 0 ≤ bt s i ∧ bt s i ≤ 255 := by
 unfold bt
 split
 ·rename_i h
  have := (s[i.toNat]'h).toNat_lt
  omega
 ·omega
/-- whether a number's last byte is odd -/
def oddB (s : ByteArray) : Bool := if s.size = 0 then false else Int.tmod (bt s (wrap64 ((s.size : Int) - 1))) 2 == 1
theorem odd_bits (x : Int) (h0 : 0 ≤ x) (h1 : x ≤ 255) : (Go.bits .and .u8 x 1 == 1) = (Int.tmod x 2 == 1) := by
 have key : ∀ y : Nat, y < 256 → (Go.bits .and .u8 (y : Int) 1 == 1) = (Int.tmod (y : Int) 2 == 1) := by decide +kernel
 have := key x.toNat (by omega)
 rwa [show ((x.toNat : Nat) : Int) = x by omega] at this
def rndI (n d : Int) : Int := if cmpI (n % d + n % d) d < 0 ∨ (cmpI (n % d + n % d) d = 0 ∧ oddB (pv (n / d)).2 = false) then n / d else n / d + 1
theorem rnd_bd {n d : Int} (hn : 0 ≤ n) (hd : 0 < d) : 0 ≤ rndI n d ∧ rndI n d ≤ n + 1 := by
 have h1 : 0 ≤ n / d := Int.ediv_nonneg hn (by omega)
 have h2 : n / d ≤ n := Int.ediv_le_self _ hn
 unfold rndI
 split <;> omega
theorem addsP {x y : Int} (h1 : (pv x).2.size ≤ 15000) (h2 : (pv y).2.size ≤ 15000) : rat_do_of_whole_Add.f (pv x).1 (pv x).2 (pv y).1 (pv y).2 = some (pv (x + y)) := by
 unfold rat_do_of_whole_Add.f whole_Add.f
 rw [if_pos ⟨h1, h2⟩, binS (f := (· + ·)) (a := pv x) (b := pv y) (okI_pv (by omega)) (okI_pv (by omega)), ival_pv, ival_pv]
 rfl
theorem cmpP {x y : Int} (hx : (pv x).2.size ≤ 32000) (hy : (pv y).2.size ≤ 32000) : whole_Cmp.f (pv x).1 (pv x).2 (pv y).1 (pv y).2 = some (cmpI x y, 0) := by
 unfold whole_Cmp.f cmpF
 dsimp only
 rw [if_pos (bad2_ok.2 ⟨okI_pv hx, okI_pv hy⟩), ival_pv, ival_pv]
theorem ofP {x : Int} (h1 : -9223372036854775808 ≤ x) (h2 : x ≤ 9223372036854775807) : whole_Of.f x = some (pv x) := by
 unfold whole_Of.f
 rw [if_pos ⟨h1, h2⟩]
theorem pw_mono {k m : Nat} {x : Int} (h : x < 256 ^ k) (hm : k ≤ m) : x < 256 ^ m := Int.lt_of_lt_of_le h (Ymono hm)
theorem round_j (k : Nat) (n d : Int) (b : Bool) (K : Nat) (hK : K ≤ 4000) (hn : 0 ≤ n) (hd : 0 < d) (h1 : n < 256 ^ K) (h2 : d < 256 ^ K) (hb : b = oddB (pv (n / d)).2) :
  rat_rounded.j0 (k + 3) b (pv d).1 (pv d).2 (pv (n / d)).1 (pv (n / d)).2 (pv (n % d)).1 (pv (n % d)).2 = some (pv (rndI n d)) := by
 have r0 := Int.emod_nonneg n (show d ≠ 0 by omega)
 have r1 := Int.emod_lt_of_pos n hd
 have q0 : 0 ≤ n / d := Int.ediv_nonneg hn (by omega)
 have q1 : n / d ≤ n := Int.ediv_le_self _ hn
 have zr : (((n % d).natAbs : Nat) : Int) < 256 ^ K := by omega
 have zq : (((n / d).natAbs : Nat) : Int) < 256 ^ K := by omega
 have zd : ((d.natAbs : Nat) : Int) < 256 ^ K := by omega
 have zs := size_pv (add_bd (m := K + 1) zr zr (by omega))
 have fin1 : ∀ k', rat_rounded.j2 (k' + 1) true (pv (n / d)).1 (pv (n / d)).2 = some (pv (n / d)) := fun k' => rfl
 have fin2 : ∀ k', rat_rounded.j2 (k' + 1) false (pv (n / d)).1 (pv (n / d)).2 = some (pv (n / d + 1)) := by
  intro k'
  rw [rat_rounded.j2, if_neg (by decide), ofP (by decide) (by decide), Option.bind_some, addsP (Nat.le_trans (size_pv zq) (by omega)) (by decide +kernel), Option.bind_some]
 rw [show k + 3 = (k + 2) + 1 from rfl, rat_rounded.j0, addsP (Nat.le_trans (size_pv zr) (by omega)) (Nat.le_trans (size_pv zr) (by omega)), Option.bind_some, cmpP (by omega) (Nat.le_trans (size_pv zd) (by omega)), Option.bind_some]
 dsimp only
 unfold rndI
 obtain ⟨c, hc⟩ : ∃ c, cmpI (n % d + n % d) d = c := ⟨_, rfl⟩
 rw [hc, ← hb]
 by_cases c0 : c = 0
 ·rw [if_pos c0, show k + 2 = (k + 1) + 1 from rfl, rat_rounded.j1]
  cases b with
  | false => rw [show (!false) = true from rfl, if_pos rfl, fin1, if_pos (.inr ⟨c0, rfl⟩)]
  | true =>
   have hn2 : ¬ (c < 0 ∨ c = 0 ∧ true = false) := by
    rintro (h | h)
    ·omega
    ·exact absurd h.2 (by decide)
   rw [if_neg (by decide), decide_eq_false (by omega), fin2, if_neg hn2]
 ·rw [if_neg c0, show k + 2 = (k + 1) + 1 from rfl, rat_rounded.j1, if_neg (by decide)]
  by_cases c1 : c < 0
  ·rw [decide_eq_true c1, fin1, if_pos (.inl c1)]
  ·rw [decide_eq_false c1, fin2, if_neg (fun h => by omega)]
theorem round_p (k : Nat) (n d : Int) (K : Nat) (hK : K ≤ 4000) (hn : 0 ≤ n) (hd : 0 < d) (h1 : n < 256 ^ K) (h2 : d < 256 ^ K) :
  rat_rounded.f (k + 3) (pv n).1 (pv n).2 (pv d).1 (pv d).2 = some (pv (rndI n d)) := by
 have q0 : 0 ≤ n / d := Int.ediv_nonneg hn (by omega)
 have q1 : n / d ≤ n := Int.ediv_le_self _ hn
 have zq : (((n / d).natAbs : Nat) : Int) < 256 ^ K := by omega
 have sz : (pv n).2.size ≤ K := size_pv (by omega)
 have sd : (pv d).2.size ≤ K := size_pv (by omega)
 have sq : (pv (n / d)).2.size ≤ K := size_pv zq
 have e := divS (a := pv n) (b := pv d) (okI_pv (by omega)) (okI_pv (by omega)) (by omega) (by omega) (by rw [ival_pv]; omega)
 rw [ival_pv, ival_pv] at e
 unfold rat_rounded.f
 rw [e, Option.bind_some]
 dsimp only
 by_cases c : (pv (n / d)).2.size = 0
 ·rw [if_pos (tl_nil.2 c)]
  exact round_j k n d _ K hK hn hd h1 h2 (by unfold oddB; rw [if_pos c])
 ·have hw : wrap64 (((pv (n / d)).2.size : Int) - 1) = ((pv (n / d)).2.size : Int) - 1 := by unfold wrap64; omega
  rw [if_neg (fun hc => c (tl_nil.1 hc)), if_pos (by omega), if_pos (by omega)]
  have hr := btRange (pv (n / d)).2 (wrap64 (((pv (n / d)).2.size : Int) - 1))
  exact round_j k n d _ K hK hn hd h1 h2 (by unfold oddB; rw [if_neg c, odd_bits _ hr.1 hr.2])
/-! ### Decimal places -/
/-- noughts ahead, so that more than p digits stand -/
def padB (p : Nat) (t : ByteArray) : ByteArray := ⟨(Lib.repeatL [48] (p + 1 - t.size)).toArray⟩ ++ t
/-- the point, p digits from the end -/
def dotB (p : Int) (x : ByteArray) : ByteArray := if p > 0 then ((x.extract 0 ((wrap64 ((x.size : Int) - p)) : Int).toNat) ++ (⟨#[46]⟩ : ByteArray)) ++ (x.extract ((wrap64 ((x.size : Int) - p)) : Int).toNat x.size) else x
def decQ (a : RG) (p : Nat) : Int := rndI (nv a.2.1 * 10 ^ p) (rden a)
def decB (a : RG) (p : Nat) : ByteArray := if a.1 = true ∧ decQ a p ≠ 0 then ⟨#[45]⟩ ++ dotB p (padB p (txtN false (decQ a p))) else dotB p (padB p (txtN false (decQ a p)))
theorem rep_size (m : Nat) : (⟨(Lib.repeatL [48] m).toArray⟩ : ByteArray).size = m := by
 show (Lib.repeatL [48] m).toArray.size = m
 rw [List.size_toArray, Lib.repeatL_length]
 exact Nat.mul_one m
theorem pad_size (p : Nat) (t : ByteArray) : (padB p t).size = (p + 1 - t.size) + t.size := by
 unfold padB
 rw [ByteArray.size_append, rep_size]
theorem ten_bd (p : Nat) : ((10 : Int) ^ p) < 256 ^ (p + 1) := by
 induction p with
 | zero => decide
 | succ p ih =>
  rw [Int.pow_succ, Ys (p + 1)]
  have : (0 : Int) < 256 ^ (p + 1) := Yp _
  generalize (256 : Int) ^ (p + 1) = u at *
  generalize (10 : Int) ^ p = v at *
  omega
theorem ten_pos (p : Nat) : (0 : Int) < 10 ^ p := Int.pow_pos (by decide)
theorem num_bd {s : ByteArray} {m p : Nat} (h : s.size ≤ m) : nv s * 10 ^ p < 256 ^ (m + p + 1) ∧ 0 ≤ nv s * 10 ^ p := by
 have h1 := (nv_bd s).1
 have h2 := ten_pos p
 have h3 := Int.mul_nonneg h1 (Int.le_of_lt h2)
 have h4 := mul_bd (a := nv s) (b := 10 ^ p) (k := m) (l := p + 1) (m := m + p + 1) (by have := size_pow h; omega) (by have := ten_bd p; omega) (by omega)
 exact ⟨by omega, h3⟩
theorem pvs0 {q : Int} (h : (pv q).2.size = 0) : q = 0 := by
 have e := ival_pv q
 rw [ba_nil h] at e
 have : nv (⟨#[]⟩ : ByteArray) = 0 := rfl
 unfold ival sgn at e
 split at e <;> omega
theorem dec_j (k p : Nat) (a : RG) (q : Int) (hs : (dotB p (padB p (txtN false q))).size ≤ 100000) (hq : q = decQ a p) :
  rat_Decimal.j2 (k + 2) (dotB p (padB p (txtN false q))) a.1 a.2.1 a.2.2 (pv q).1 (pv q).2 = some (decB a p, 0) := by
 have e : decB a p = if a.1 = true ∧ q ≠ 0 then ⟨#[45]⟩ ++ dotB p (padB p (txtN false q)) else dotB p (padB p (txtN false q)) := by rw [hq]; rfl
 rw [e]
 generalize dotB p (padB p (txtN false q)) = x at *
 rw [show k + 2 = (k + 1) + 1 from rfl, rat_Decimal.j2]
 by_cases h1 : a.1 = true
 ·rw [if_pos h1]
  by_cases h2 : q = 0
  ·have e2 : ((pv q).2.toList != ([] : List UInt8)) = false := bne_eq_false_iff_eq.2 (tl_nil.2 (by rw [h2, pv_zero]; rfl))
   rw [e2, rat_Decimal.j3, if_neg (by decide), if_neg (fun h => h.2 h2)]
  ·have e2 : ((pv q).2.toList != ([] : List UInt8)) = true := bne_iff_ne.2 (fun hc => h2 (pvs0 (tl_nil.1 hc)))
   rw [e2, rat_Decimal.j3, if_pos rfl, if_pos (by omega), if_pos ⟨h1, h2⟩]
 ·rw [if_neg h1, rat_Decimal.j3, if_neg (by decide), if_neg (fun h => h1 h.1)]
theorem dot_size {p : Nat} {x : ByteArray} (h : p < x.size) (h2 : x.size ≤ 90000) : (dotB p x).size ≤ x.size + 1 := by
 unfold dotB
 split
 ·have hw : wrap64 ((x.size : Int) - p) = (x.size : Int) - p := by unfold wrap64; omega
  rw [ByteArray.size_append, ByteArray.size_append, ByteArray.size_extract, ByteArray.size_extract, hw]
  have : (⟨#[46]⟩ : ByteArray).size = 1 := rfl
  omega
 ·omega
theorem mx_pad {p s : Nat} (hp : p ≤ 100) (hs : s ≤ 1000) : mx 0 (wrap64 ((wrap64 ((p : Int) + 1)) - (s : Int))) = ((p + 1 - s : Nat) : Int) := by
 have w1 : wrap64 ((p : Int) + 1) = (p : Int) + 1 := by unfold wrap64; omega
 have w2 : wrap64 ((p : Int) + 1 - (s : Int)) = (p : Int) + 1 - (s : Int) := by unfold wrap64; omega
 rw [w1, w2]
 unfold mx
 split <;> omega
theorem dec_l (p : Nat) (a : RG) (ha : okR a) (hp : p ≤ 100) (h1 : a.2.1.size ≤ 120) (h2 : a.2.2.size ≤ 120) : ∀ (j : Nat), j ≤ p → ∀ k,
  rat_Decimal.l0 (k + 6 + j) p p ((p - j : Nat) : Int) a.1 a.2.1 a.2.2 (pv (nv a.2.1 * 10 ^ (p - j))).1 (pv (nv a.2.1 * 10 ^ (p - j))).2 = some (decB a p, 0) := by
 intro j
 induction j with
 | zero =>
  intro _ k
  obtain ⟨b1, b0⟩ := num_bd (p := p) h1
  have dp := ha.dp
  obtain ⟨K, hK⟩ : ∃ K : Nat, K = 221 := ⟨_, rfl⟩
  have b2 := pw_mono b1 (show 120 + p + 1 ≤ K by omega)
  have db : rden a < 256 ^ K := pw_mono (size_pow h2) (by omega)
  have ed : pv (rden a) = (false, a.2.2) := pv_ival ha.kd
  have er : rat_den.f a.1 a.2.1 a.2.2 = some (pv (rden a)) := by rw [ed]; rfl
  have hr := rnd_bd b0 dp
  have qb : rndI (nv a.2.1 * 10 ^ p) (rden a) < 256 ^ (K + 1) := by
   have h6 := Ys K
   generalize nv a.2.1 * 10 ^ p = n at *
   generalize (256 : Int) ^ (K + 1) = u at *
   generalize (256 : Int) ^ K = v at *
   omega
  obtain ⟨q, hq⟩ : ∃ q, rndI (nv a.2.1 * 10 ^ p) (rden a) = q := ⟨_, rfl⟩
  have hq0 : q = decQ a p := hq.symm
  rw [hq] at hr qb
  have sq : (pv q).2.size ≤ K + 1 := size_pv (by omega)
  have ts := txt_size (n := false) hr.1 qb
  have ep : whole_Print.f (pv q).1 (pv q).2 = some (txtN false q, 0) := by
   have e := prt_p (okI_pv (v := q) (by omega)) (by omega)
   rw [pv_neg1 hr.1, nv_pn hr.1] at e
   rw [pv_neg1 hr.1]
   exact e
  rw [show k + 6 + 0 = (k + 5) + 1 from rfl, Nat.sub_zero, rat_Decimal.l0, if_neg (by omega), er, Option.bind_some, show k + 5 = (k + 2) + 3 from rfl, round_p (k + 2) _ _ K (by omega) b0 dp b2 db, Option.bind_some, hq, ep, Option.bind_some]
  dsimp only
  obtain ⟨t, ht⟩ : ∃ t, txtN false q = t := ⟨_, rfl⟩
  have tz : t.size ≤ 1000 := by rw [ht, hK] at ts; exact Nat.le_trans ts (by decide)
  clear b0 b1 b2 db dp hr qb ed er ep sq ts hK
  have em := mx_pad hp tz
  have es : strings_Repeat.f (⟨#[48]⟩ : ByteArray) ((p + 1 - t.size : Nat) : Int) = some ⟨(Lib.repeatL [48] (p + 1 - t.size)).toArray⟩ := by
   unfold strings_Repeat.f
   rw [if_pos ⟨by decide, by omega, by omega⟩, Int.toNat_natCast]
  rw [ht, em, es, Option.bind_some]
  have hps := pad_size p t
  have hpd : (⟨(Lib.repeatL [48] (p + 1 - t.size)).toArray⟩ ++ t : ByteArray) = padB p t := rfl
  rw [hpd]
  have hsz : ((⟨(Lib.repeatL [48] (p + 1 - t.size)).toArray⟩ : ByteArray)).size = p + 1 - t.size := rep_size _
  rw [if_pos (by omega)]
  have hx1 : p < (padB p t).size := by omega
  have hx2 : (padB p t).size ≤ 90000 := by omega
  have hds := dot_size hx1 hx2
  have hj := dec_j (k + 3) p a q (by rw [ht]; omega) hq0
  rw [ht] at hj
  generalize padB p t = x at *
  have hw : wrap64 ((x.size : Int) - (p : Int)) = (x.size : Int) - p := by unfold wrap64; omega
  by_cases hp0 : (p : Int) > 0
  ·have hdx : dotB p x = ((x.extract 0 ((wrap64 ((x.size : Int) - p)) : Int).toNat) ++ (⟨#[46]⟩ : ByteArray)) ++ (x.extract ((wrap64 ((x.size : Int) - p)) : Int).toNat x.size) := if_pos hp0
   have c1 : (x.extract 0 ((wrap64 ((x.size : Int) - p)) : Int).toNat).size + 1 ≤ 9223372036854775807 := by rw [ByteArray.size_extract]; omega
   have c2 : (((x.extract 0 ((wrap64 ((x.size : Int) - p)) : Int).toNat) ++ (⟨#[46]⟩ : ByteArray)).size + (x.extract ((wrap64 ((x.size : Int) - p)) : Int).toNat x.size).size) ≤ 9223372036854775807 := by
    have e := congrArg ByteArray.size hdx
    rw [ByteArray.size_append] at e
    omega
   rw [if_pos hp0, if_pos (by omega), if_pos (by omega), if_pos c1, if_pos c2, ← hdx]
   exact hj
  ·have hdx : dotB p x = x := if_neg hp0
   rw [if_neg hp0]
   rw [hdx] at hj
   exact hj
 | succ j ih =>
  intro hj k
  have b0 := num_bd (s := a.2.1) (p := p - (j + 1)) h1
  have hsz : (pv (nv a.2.1 * 10 ^ (p - (j + 1)))).2.size ≤ 120 + (p - (j + 1)) + 1 := size_pv (by omega)
  have e10 : pv 10 = (false, ⟨#[10]⟩) := by decide +kernel
  have em := muls (pv (nv a.2.1 * 10 ^ (p - (j + 1)))).1 (pv (nv a.2.1 * 10 ^ (p - (j + 1)))).2 (pv 10).1 (pv 10).2 (okI_pv (by omega)) (okI_pv (by rw [e10]; decide)) (by omega) (by rw [e10]; decide)
  rw [ival_pv, ival_pv] at em
  have ev : nv a.2.1 * 10 ^ (p - (j + 1)) * 10 = nv a.2.1 * 10 ^ (p - j) := by
   rw [show p - j = (p - (j + 1)) + 1 by omega, Int.pow_succ, Int.mul_assoc]
  have ew : wrap64 (((p - (j + 1) : Nat) : Int) + 1) = ((p - j : Nat) : Int) := by unfold wrap64; omega
  rw [show k + 6 + (j + 1) = (k + 6 + j) + 1 from rfl, rat_Decimal.l0, if_pos (by omega), ofP (by decide) (by decide), Option.bind_some, em, Option.bind_some, ev, ew]
  exact ih (by omega) k
theorem decimal_p (p : Nat) (a : RG) (ha : okR a) (hp : p ≤ 100) (h1 : a.2.1.size ≤ 120) (h2 : a.2.2.size ≤ 120) (k : Nat) (hk : p + 7 ≤ k) : rat_Decimal.f k a.1 a.2.1 a.2.2 p = some (decB a p, 0) := by
 obtain ⟨m, rfl⟩ := Nat.exists_eq_add_of_le hk
 unfold rat_Decimal.f
 have e1 := check_p (p + m + 5) a (by omega) (by omega)
 rw [show p + 7 + m = p + m + 5 + 2 by omega, e1, Option.bind_some, if_pos (chkR_ok.2 ha), if_neg (by omega), decide_eq_false (by omega : ¬ (p : Int) > 100), show p + m + 5 + 2 = (m + 6 + p) + 1 by omega, rat_Decimal.j0, if_neg (by decide)]
 have h := dec_l p a ha hp h1 h2 p (Nat.le_refl _) m
 have e0 : pv (nv a.2.1 * 10 ^ (p - p)) = (false, a.2.1) := by
  rw [Nat.sub_self, Int.pow_zero, Int.mul_one]
  exact pv_ival (n := false) ⟨ha.kn.1, ha.kn.2.1, fun hc => by cases hc⟩
 rw [e0, Nat.sub_self] at h
 exact h
theorem decimal_any (p : Nat) (a : RG) (hp : p ≤ 100) (h1 : a.2.1.size ≤ 120) (h2 : a.2.2.size ≤ 120) (k : Nat) (hk : p + 7 ≤ k) : ∃ s, rat_Decimal.f k a.1 a.2.1 a.2.2 p = some (s, chkR a) := by
 by_cases hc : chkR a = 0
 ·rw [hc]
  exact ⟨_, decimal_p p a (chkR_ok.1 hc) hp h1 h2 k hk⟩
 ·obtain ⟨m, rfl⟩ := Nat.exists_eq_add_of_le hk
  unfold rat_Decimal.f
  rw [show p + 7 + m = p + m + 5 + 2 by omega, check_p (p + m + 5) a (by omega) (by omega), Option.bind_some, if_neg hc]
  exact ⟨_, rfl⟩
end Go.Proofs.YtoijlbcbbblbfaaGreatDoor
