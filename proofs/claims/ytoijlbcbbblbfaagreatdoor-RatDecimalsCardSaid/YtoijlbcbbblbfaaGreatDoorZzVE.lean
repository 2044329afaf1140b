import Derived.Test.YtoijlbcbbblbfaaGreatDoorZzV3
import Derived.Test.YtoijlbcbbblbfaaGreatDoorZzV5
import Derived.Test.YtoijlbcbbblbfaaGreatDoorZzVP
import Derived.Test.YtoijlbcbbblbfaaGreatDoorZzG8x1
namespace Go.Proofs.YtoijlbcbbblbfaaGreatDoor
open Go.RowKit Num Go.Proofs.YtoijlbcbbblbfaaGreatDoorH.R Go.Proofs.YtoijlbcbbblbfaaGreatDoorW.PrintWords
set_option linter.unusedVariables false
set_option linter.unusedSimpArgs false

theorem quoP {x y : Int} (hx : (pv x).2.size ≤ 1000) (hy : (pv y).2.size ≤ 1000) (h0 : 0 < y) : gussetref02_Quo.f (pv x).1 (pv x).2 (pv y).1 (pv y).2 = some ((pv (x / y)).1, (pv (x / y)).2, (pv (x % y)).1, (pv (x % y)).2) := by
 unfold gussetref02_Quo.f
 rw [if_pos ⟨hx, hy, by rw [nv_pn (by omega)]; exact h0⟩, ival_pv, ival_pv]
theorem sumP {x y : Int} (hx : (pv x).2.size ≤ 4000) (hy : (pv y).2.size ≤ 4000) : gussetref02_Sum.f (pv x).1 (pv x).2 (pv y).1 (pv y).2 = some (pv (x + y)) := by
 unfold gussetref02_Sum.f
 rw [if_pos ⟨hx, hy⟩, ival_pv, ival_pv]
theorem timP {x y : Int} (hx : (pv x).2.size ≤ 4000) (hy : (pv y).2.size ≤ 4000) : gussetref02_Times.f (pv x).1 (pv x).2 (pv y).1 (pv y).2 = some (pv (x * y)) := by
 unfold gussetref02_Times.f
 rw [if_pos ⟨hx, hy⟩, ival_pv, ival_pv]
theorem ordP {x y : Int} (hx : (pv x).2.size ≤ 4000) (hy : (pv y).2.size ≤ 4000) : gussetref02_Order.f (pv x).1 (pv x).2 (pv y).1 (pv y).2 = some (cmpI x y) := by
 unfold gussetref02_Order.f
 rw [if_pos ⟨hx, hy, chk_ok.2 (okI_pv (by omega)), chk_ok.2 (okI_pv (by omega))⟩, ival_pv, ival_pv]
theorem of2P {x : Int} (h1 : -9223372036854775808 ≤ x) (h2 : x ≤ 9223372036854775807) : gussetref02_Of.f x = some (pv x) := by
 unfold gussetref02_Of.f
 rw [if_pos ⟨h1, h2⟩]
/-! ### The document's noughts -/
def repB (m : Nat) (t : ByteArray) : ByteArray := ⟨(Lib.repeatL [48] m).toArray⟩ ++ t
theorem repB_size (m : Nat) (t : ByteArray) : (repB m t).size = m + t.size := by
 unfold repB
 rw [ByteArray.size_append, rep_size]
theorem repB_succ (m : Nat) (t : ByteArray) : (⟨#[48]⟩ : ByteArray) ++ repB m t = repB (m + 1) t := by
 unfold repB
 apply ByteArray.ext
 simp [Lib.repeatL]
 rw [show (48 :: Lib.repeatL [48] m).toArray = #[48] ++ (Lib.repeatL [48] m).toArray by simp, Array.append_assoc]
theorem repB_zero (t : ByteArray) : repB 0 t = t := by
 unfold repB
 apply ByteArray.ext
 simp [Lib.repeatL]
theorem dec3_j (k p : Nat) (a : RG) (q : Int) (hs : (dotB p (padB p (txtN false q))).size ≤ 100000) (hq : q = decQ a p) :
  gussetref03_Decimal.j5 (k + 2) (dotB p (padB p (txtN false q))) a.1 a.2.1 a.2.2 (pv q).1 (pv q).2 = some (decB a p) := by
 have e : decB a p = if a.1 = true ∧ q ≠ 0 then ⟨#[45]⟩ ++ dotB p (padB p (txtN false q)) else dotB p (padB p (txtN false q)) := by rw [hq]; rfl
 rw [e]
 generalize dotB p (padB p (txtN false q)) = x at *
 rw [show k + 2 = (k + 1) + 1 from rfl, gussetref03_Decimal.j5]
 by_cases h1 : a.1 = true
 ·rw [if_pos h1]
  by_cases h2 : q = 0
  ·have e2 : ((pv q).2.toList != ([] : List UInt8)) = false := bne_eq_false_iff_eq.2 (tl_nil.2 (by rw [h2, pv_zero]; rfl))
   rw [e2, gussetref03_Decimal.j6, if_neg (by decide), if_neg (fun h => h.2 h2)]
  ·have e2 : ((pv q).2.toList != ([] : List UInt8)) = true := bne_iff_ne.2 (fun hc => h2 (pvs0 (tl_nil.1 hc)))
   rw [e2, gussetref03_Decimal.j6, if_pos rfl, if_pos (by omega), if_pos ⟨h1, h2⟩]
 ·rw [if_neg h1, gussetref03_Decimal.j6, if_neg (by decide), if_neg (fun h => h1 h.1)]
theorem dec3_l1 (p : Nat) (a : RG) (q : Int) (hp : p ≤ 100) (hz : (txtN false q).size ≤ 1000) (hq : q = decQ a p) : ∀ (j m k : Nat), m + j = p + 1 - (txtN false q).size →
  gussetref03_Decimal.l1 (k + 3 + j) p (repB m (txtN false q)) a.1 a.2.1 a.2.2 (pv q).1 (pv q).2 = some (decB a p) := by
 intro j
 induction j with
 | zero =>
  intro m k hm
  have hpd : repB m (txtN false q) = padB p (txtN false q) := by
   unfold repB padB
   rw [← hm]
   rfl
  have hx0 := pad_size p (txtN false q)
  have hx1 : p < (padB p (txtN false q)).size := by omega
  have hx2 : (padB p (txtN false q)).size ≤ 90000 := by omega
  have hds := dot_size hx1 hx2
  have hj := dec3_j k p a q (by omega) hq
  rw [hpd, show k + 3 + 0 = (k + 2) + 1 from rfl, gussetref03_Decimal.l1]
  generalize padB p (txtN false q) = x at *
  have hw : wrap64 ((x.size : Int) - (p : Int)) = (x.size : Int) - p := by unfold wrap64; omega
  rw [if_neg (by omega)]
  by_cases hp0 : (p : Int) > 0
  ·have hdx : dotB p x = ((x.extract 0 ((wrap64 ((x.size : Int) - p)) : Int).toNat) ++ (⟨#[46]⟩ : ByteArray)) ++ (x.extract ((wrap64 ((x.size : Int) - p)) : Int).toNat x.size) := if_pos hp0
   have c1 : (x.extract 0 ((wrap64 ((x.size : Int) - p)) : Int).toNat).size + 1 ≤ 9223372036854775807 := by rw [ByteArray.size_extract]; omega
   have c2 : (((x.extract 0 ((wrap64 ((x.size : Int) - p)) : Int).toNat) ++ (⟨#[46]⟩ : ByteArray)).size + (x.extract ((wrap64 ((x.size : Int) - p)) : Int).toNat x.size).size) ≤ 9223372036854775807 := by
    have e := congrArg ByteArray.size hdx
    rw [ByteArray.size_append] at e
    omega
   rw [if_pos hp0, if_pos (by omega), if_pos (by omega), if_pos c1, if_pos c2, ← hdx]
   exact hj
  ·have hdx : dotB p x = x := if_neg hp0
   rw [if_neg hp0]
   rw [hdx] at hj
   exact hj
 | succ j ih =>
  intro m k hm
  have hs := repB_size m (txtN false q)
  rw [show k + 3 + (j + 1) = (k + 3 + j) + 1 from rfl, gussetref03_Decimal.l1, if_pos (by omega), if_pos (by omega), repB_succ]
  exact ih (m + 1) k (by omega)
theorem dec3_j3 (p : Nat) (a : RG) (q : Int) (k K : Nat) (hK : K ≤ 300) (hp : p ≤ 100) (h0 : 0 ≤ q) (hb : q < 256 ^ K) (hq : q = decQ a p) :
  gussetref03_Decimal.j3 (k + p + 6) p a.1 a.2.1 a.2.2 (pv q).1 (pv q).2 = some (decB a p) := by
 have sq : (pv q).2.size ≤ K := size_pv (by omega)
 have ts := txt_size (n := false) h0 hb
 have et : gussetref02_Text.f (pv q).1 (pv q).2 = some (txtN false q) := by
  unfold gussetref02_Text.f
  rw [if_pos ⟨by omega, chk_ok.2 (okI_pv (by omega))⟩, nv_pn h0, pv_neg1 h0]
  rfl
 have hl := dec3_l1 p a q hp (by omega) hq (p + 1 - (txtN false q).size) 0 (k + 2 + (p - (p + 1 - (txtN false q).size))) (by omega)
 rw [repB_zero] at hl
 clear hb
 rw [show k + p + 6 = (k + p + 5) + 1 from rfl, gussetref03_Decimal.j3, et, Option.bind_some]
 by_cases hc : (txtN false q).size = 0
 ·exfalso
  have e : (txtN false q).size = (textL false q.toNat).length := by unfold txtN; simp [ByteArray.size]
  rw [e] at hc
  have : textL false q.toNat = [] := List.eq_nil_of_length_eq_zero hc
  unfold textL at this
  split at this
  ·cases this
  ·split at this
   ·cases this
   ·exact dec_ne (by omega) this
 ·rw [show k + p + 5 = k + 2 + (p - (p + 1 - (txtN false q).size)) + 3 + (p + 1 - (txtN false q).size) by omega]
  exact hl
theorem dec3_j1 (p : Nat) (a : RG) (n d c : Int) (b : Bool) (k K : Nat) (hK : K ≤ 299) (hp : p ≤ 100) (hn : 0 ≤ n) (hd : 0 < d) (h1 : n < 256 ^ K) (hc : c = cmpI (n % d + n % d) d) (hb : b = oddB (pv (n / d)).2) (hq : rndI n d = decQ a p) :
  gussetref03_Decimal.j1 (k + p + 8) p c b a.1 a.2.1 a.2.2 (pv (n / d)).1 (pv (n / d)).2 = some (decB a p) := by
 have q0 : 0 ≤ n / d := Int.ediv_nonneg hn (by omega)
 have q1 : n / d ≤ n := Int.ediv_le_self _ hn
 have zq : (pv (n / d)).2.size ≤ K := size_pv (by omega)
 have q2 : n / d + 1 < 256 ^ (K + 1) := by
  have h6 := Ys K
  generalize (256 : Int) ^ (K + 1) = u at *
  generalize (256 : Int) ^ K = v at *
  omega
 have q3 : n / d < 256 ^ (K + 1) := by omega
 have fin1 : rndI n d = n / d → gussetref03_Decimal.j2 (k + p + 7) p false a.1 a.2.1 a.2.2 (pv (n / d)).1 (pv (n / d)).2 = some (decB a p) := by
  intro e
  rw [show k + p + 7 = (k + p + 6) + 1 from rfl, gussetref03_Decimal.j2, if_neg (by decide)]
  exact dec3_j3 p a (n / d) k (K + 1) (by omega) hp q0 q3 (by rw [← e, hq])
 have fin2 : rndI n d = n / d + 1 → gussetref03_Decimal.j2 (k + p + 7) p true a.1 a.2.1 a.2.2 (pv (n / d)).1 (pv (n / d)).2 = some (decB a p) := by
  intro e
  rw [show k + p + 7 = (k + p + 6) + 1 from rfl, gussetref03_Decimal.j2, if_pos rfl, of2P (by decide) (by decide), Option.bind_some, sumP (by omega) (by decide +kernel), Option.bind_some]
  exact dec3_j3 p a (n / d + 1) k (K + 1) (by omega) hp (by omega) q2 (by rw [← e, hq])
 have er : rndI n d = if c < 0 ∨ (c = 0 ∧ b = false) then n / d else n / d + 1 := by rw [hc, hb]; rfl
 clear hc hb h1 q2 q3
 rw [show k + p + 8 = (k + p + 7) + 1 from rfl, gussetref03_Decimal.j1]
 by_cases c1 : c > 0
 ·rw [if_pos c1]
  exact fin2 (by rw [er, if_neg (fun h => by omega)])
 ·rw [if_neg c1]
  by_cases c2 : c = 0
  ·rw [if_pos c2]
   cases b with
   | false => exact fin1 (by rw [er, if_pos (.inr ⟨c2, rfl⟩)])
   | true =>
    have hn2 : ¬ (c < 0 ∨ c = 0 ∧ true = false) := by
     rintro (h | h)
     ·omega
     ·exact absurd h.2 (by decide)
    exact fin2 (by rw [er, if_neg hn2])
  ·rw [if_neg c2]
   exact fin1 (by rw [er, if_pos (.inl (by omega))])
theorem dec3_l (p : Nat) (a : RG) (ha : okR a) (hp : p ≤ 100) (h1 : a.2.1.size ≤ 120) (h2 : a.2.2.size ≤ 120) : ∀ (j : Nat), j ≤ p → ∀ k,
  gussetref03_Decimal.l0 (k + p + 9 + j) p ((p - j : Nat) : Int) a.1 a.2.1 a.2.2 (pv (nv a.2.1 * 10 ^ (p - j))).1 (pv (nv a.2.1 * 10 ^ (p - j))).2 = some (decB a p) := by
 intro j
 induction j with
 | zero =>
  intro _ k
  obtain ⟨b1, b0⟩ := num_bd (p := p) h1
  have dp := ha.dp
  have ed : pv (rden a) = (false, a.2.2) := pv_ival ha.kd
  have er : gussetref03_den.f a.1 a.2.1 a.2.2 = some (pv (rden a)) := by rw [ed]; rfl
  obtain ⟨K, hK⟩ : ∃ K : Nat, K = 221 := ⟨_, rfl⟩
  have b2 := pw_mono b1 (show 120 + p + 1 ≤ K by omega)
  have db : rden a < 256 ^ K := pw_mono (size_pow h2) (by omega)
  have hq : rndI (nv a.2.1 * 10 ^ p) (rden a) = decQ a p := rfl
  rw [show k + p + 9 + 0 = (k + p + 8) + 1 from rfl, Nat.sub_zero, gussetref03_Decimal.l0, if_neg (by omega), er, Option.bind_some]
  clear b1
  generalize nv a.2.1 * 10 ^ p = n at *
  generalize rden a = d at *
  have r0 := Int.emod_nonneg n (show d ≠ 0 by omega)
  have r1 := Int.emod_lt_of_pos n dp
  have q0 : 0 ≤ n / d := Int.ediv_nonneg b0 (by omega)
  have q1 : n / d ≤ n := Int.ediv_le_self _ b0
  have zn : (pv n).2.size ≤ K := size_pv (by omega)
  have zd : (pv d).2.size ≤ K := size_pv (by omega)
  have zr' : (((n % d).natAbs : Nat) : Int) < 256 ^ K := by omega
  have zr : (pv (n % d)).2.size ≤ K := size_pv zr'
  have zs := size_pv (add_bd (m := K + 1) zr' zr' (by omega))
  have hj := fun b hb => dec3_j1 p a n d _ b k K (by omega) hp b0 dp b2 rfl hb hq
  rw [quoP (by omega) (by omega) dp, Option.bind_some]
  dsimp only
  rw [sumP (by omega) (by omega), Option.bind_some, Option.bind_some, ordP (by omega) (by omega), Option.bind_some]
  by_cases c : (pv (n / d)).2.size = 0
  ·rw [if_pos (tl_nil.2 c)]
   exact hj _ (by unfold oddB; rw [if_pos c])
  ·have sq : (pv (n / d)).2.size ≤ K := size_pv (by omega)
   have hw : wrap64 (((pv (n / d)).2.size : Int) - 1) = ((pv (n / d)).2.size : Int) - 1 := by clear zs zr' b2 db hj; unfold wrap64; omega
   rw [if_neg (fun hc => c (tl_nil.1 hc)), if_pos (by rw [hw]; clear zs zr' b2 db hj hw; omega), if_pos (by rw [hw]; clear zs zr' b2 db hj hw; omega)]
   exact hj _ (by unfold oddB; rw [if_neg c])
 | succ j ih =>
  intro hj k
  have b0 := num_bd (s := a.2.1) (p := p - (j + 1)) h1
  have hsz : (pv (nv a.2.1 * 10 ^ (p - (j + 1)))).2.size ≤ 120 + (p - (j + 1)) + 1 := size_pv (by omega)
  have e10 : pv 10 = (false, ⟨#[10]⟩) := by decide +kernel
  have em := timP (x := nv a.2.1 * 10 ^ (p - (j + 1))) (y := 10) (by omega) (by rw [e10]; decide)
  have ev : nv a.2.1 * 10 ^ (p - (j + 1)) * 10 = nv a.2.1 * 10 ^ (p - j) := by
   rw [show p - j = (p - (j + 1)) + 1 by omega, Int.pow_succ, Int.mul_assoc]
  have ew : wrap64 (((p - (j + 1) : Nat) : Int) + 1) = ((p - j : Nat) : Int) := by clear b0 em; unfold wrap64; omega
  rw [show k + p + 9 + (j + 1) = (k + p + 9 + j) + 1 from rfl, gussetref03_Decimal.l0, if_pos (by omega), of2P (by decide) (by decide), Option.bind_some, em, Option.bind_some, ev, ew]
  exact ih (by omega) k
theorem decimal3_p (p : Nat) (a : RG) (ha : okR a) (hp : p ≤ 100) (h1 : a.2.1.size ≤ 120) (h2 : a.2.2.size ≤ 120) (k : Nat) (hk : 2 * p + 9 ≤ k) : gussetref03_Decimal.f k a.1 a.2.1 a.2.2 p = some (decB a p) := by
 obtain ⟨m, rfl⟩ := Nat.exists_eq_add_of_le hk
 unfold gussetref03_Decimal.f
 have h := dec3_l p a ha hp h1 h2 p (Nat.le_refl _) m
 have e0 : pv (nv a.2.1 * 10 ^ (p - p)) = (false, a.2.1) := by
  rw [Nat.sub_self, Int.pow_zero, Int.mul_one]
  exact pv_ival (n := false) ⟨ha.kn.1, ha.kn.2.1, fun hc => by cases hc⟩
 rw [e0, Nat.sub_self] at h
 rw [show 2 * p + 9 + m = m + p + 9 + p by omega]
 exact h
set_option maxRecDepth 100000 in
theorem live_260 : gussetlaw03_live.f 260 = some true ∧ gussetlaw03_live.f 259 = some true ∧ gussetlaw03_live.f 258 = some true := by decide +kernel
theorem ratDecimals_p (a : RG) (p : Int) : gussetlaw03_RatDecimals.f 260 a.1 a.2.1 a.2.2 p = some true := by
 have j0t : ∀ a0 a1 a2, gussetlaw03_RatDecimals.j0 260 p true a0 a1 a2 = some true := by
  intro a0 a1 a2
  rw [show (260 : Nat) = 259 + 1 from rfl, gussetlaw03_RatDecimals.j0, if_pos rfl, live_260.2.1]
  rfl
 unfold gussetlaw03_RatDecimals.f
 by_cases s1 : a.2.1.size ≤ 60
 rotate_left
 ·rw [if_pos (by omega), j0t]
 rw [if_neg (by omega)]
 by_cases s2 : a.2.2.size ≤ 60
 rotate_left
 ·rw [if_pos (by omega), j0t]
 rw [if_neg (by omega), check3_p 258 a (by omega) (by omega), Option.bind_some]
 by_cases hc : chkR a = 0
 rotate_left
 ·rw [bne_iff_ne.2 hc, j0t]
 have ha := chkR_ok.1 hc
 rw [bne_eq_false_iff_eq.2 hc, show (260 : Nat) = 259 + 1 from rfl, gussetlaw03_RatDecimals.j0, if_neg (by decide)]
 have bad : ∀ (h : p < 0 ∨ 100 < p), rat_Decimal.f 259 a.1 a.2.1 a.2.2 p = some (⟨#[]⟩, 1) := by
  intro h
  have j0b : rat_Decimal.j0 259 p true a.1 a.2.1 a.2.2 = some (⟨#[]⟩, 1) := rfl
  unfold rat_Decimal.f
  rw [check_p 257 a (by omega) (by omega), Option.bind_some, if_pos hc]
  by_cases h1 : p < 0
  ·rw [if_pos h1, j0b]
  ·rw [if_neg h1, decide_eq_true (by omega : p > 100), j0b]
 have fin1 : gussetlaw03_RatDecimals.j1 259 p ⟨#[]⟩ 1 true a.1 a.2.1 a.2.2 = some true := by
  rw [show (259 : Nat) = 258 + 1 from rfl, gussetlaw03_RatDecimals.j1, if_pos rfl, if_pos rfl, if_pos (tl_nil.2 rfl), live_260.2.2]
  rfl
 by_cases h1 : p < 0
 ·rw [bad (.inl h1), Option.bind_some, if_pos h1]
  exact fin1
 ·by_cases h2 : 100 < p
  ·rw [bad (.inr h2), Option.bind_some, if_neg h1, decide_eq_true (by omega : p > 100)]
   exact fin1
  ·obtain ⟨n, rfl⟩ := Int.eq_ofNat_of_zero_le (show 0 ≤ p by omega)
   rw [decimal_p n a ha (by omega) (by omega) (by omega) 259 (by omega), Option.bind_some, if_neg h1, decide_eq_false (by omega : ¬ (n : Int) > 100)]
   dsimp only
   rw [show (259 : Nat) = 258 + 1 from rfl, gussetlaw03_RatDecimals.j1, if_neg (by decide), if_pos rfl, decimal3_p n a ha (by omega) (by omega) (by omega) 258 (by omega), Option.bind_some, if_pos rfl, live_260.2.2]
   rfl
theorem ratDecimals_c (a : RG) (p : Int) (wf : (Lit.int .i64 p).wf = true) (w : World) :
  Calls Tryz.prog 4 #[.agg #[.bool a.1, .string a.2.1, .string a.2.2], .int .i64 p] w fun e w' => e = .returned (.bool true) ∧ Below w.heap.size w w' :=
 gussetlaw03_RatDecimals.calls 260 _ _ _ _ true w (ratDecimals_p a p)
end Go.Proofs.YtoijlbcbbblbfaaGreatDoor
