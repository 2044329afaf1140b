import Derived.Test.YtoijlbcbbblbfaaGreatDoorZzV3
import Derived.Test.YtoijlbcbbblbfaaGreatDoorZzV5
import Derived.Test.YtoijlbcbbblbfaaGreatDoorZzVP
import Derived.Test.YtoijlbcbbblbfaaGreatDoorZzG8x2
namespace Go.Proofs.YtoijlbcbbblbfaaGreatDoor
open Go.RowKit Num Go.Proofs.YtoijlbcbbblbfaaGreatDoorH.R Go.Proofs.YtoijlbcbbblbfaaGreatDoorW.PrintWords
set_option linter.unusedVariables false
set_option linter.unusedSimpArgs false

set_option maxRecDepth 100000 in
theorem live_s (k : Nat) : gussetlaw03_live.f (k + 12) = some true := by kernel_rfl
/-! ### What is printed is read back -/
theorem dec_all : ∀ (V : Nat) (y : UInt8), y ∈ dec V → 48 ≤ y.toNat ∧ y.toNat ≤ 57 := by
 intro V
 induction V using Nat.strongRecOn with
 | ind V ih =>
  intro y hy
  rcases Nat.eq_zero_or_pos V with h | h
  ·rw [h, dec_zero] at hy; exact absurd hy (by simp)
  ·rw [dec_pos h] at hy
   rcases List.mem_append.1 hy with hy | hy
   ·exact ih (V / 10) (Nat.div_lt_self h (by decide)) y hy
   ·have e := List.mem_singleton.1 hy
    rw [e, ofNat_toNat_lt (by omega)]
    omega
theorem dv_app (l : List UInt8) (x : UInt8) : dv (l ++ [x]) = dv l * 10 + ((x.toNat : Int) - 48) := by
 unfold dv
 rw [List.foldl_append]
 rfl
theorem dv_dec : ∀ V : Nat, dv (dec V) = V := by
 intro V
 induction V using Nat.strongRecOn with
 | ind V ih =>
  rcases Nat.eq_zero_or_pos V with h | h
  ·rw [h, dec_zero]; rfl
  ·rw [dec_pos h, dv_app, ih (V / 10) (Nat.div_lt_self h (by decide)), ofNat_toNat_lt (by omega)]
   omega
theorem dec_head : ∀ V : Nat, 0 < V → ∃ x r, dec V = x :: r ∧ 49 ≤ x.toNat ∧ x.toNat ≤ 57 := by
 intro V
 induction V using Nat.strongRecOn with
 | ind V ih =>
  intro h
  rw [dec_pos h]
  rcases Nat.eq_zero_or_pos (V / 10) with h1 | h1
  ·rw [h1, dec_zero]
   exact ⟨_, [], rfl, by rw [ofNat_toNat_lt (by omega)]; omega, by rw [ofNat_toNat_lt (by omega)]; omega⟩
  ·obtain ⟨x, r, e, hx⟩ := ih (V / 10) (Nat.div_lt_self h (by decide)) h1
   rw [e]
   exact ⟨x, r ++ [_], rfl, hx⟩
theorem dec_ok {V : Nat} (h : 0 < V) (h60 : V < 10 ^ 60) : okS (dec V) = true := by
 obtain ⟨x, r, e, hx⟩ := dec_head V h
 exact okS_of (by rw [e]; simp) (decLen 60 V h60) fun j y _ hy => dec_all V y (List.mem_of_getElem? hy)
theorem dec_num {V : Nat} (h : 0 < V) (h60 : V < 10 ^ 60) (n : Bool) : numS (dec V) n = true := by
 obtain ⟨x, r, e, hx⟩ := dec_head V h
 refine numS_yes (dec_ok h h60) fun hh => ?_
 rw [e] at hh
 have : x = 48 := by simpa using hh.1
 rw [this] at hx
 exact absurd hx.1 (by decide)
theorem neg_dec {V : Nat} (h : 0 < V) : negS (dec V) = false ∧ restS (dec V) = dec V := by
 obtain ⟨x, r, e, hx⟩ := dec_head V h
 have hn : negS (dec V) = false := by
  rw [e]
  unfold negS Lib.hasPrefix
  simp only [List.isPrefixOf, Bool.and_true]
  exact beq_eq_false_iff_ne.mpr fun hh => by rw [← hh] at hx; exact absurd hx.1 (by decide)
 refine ⟨hn, ?_⟩
 unfold restS Lib.trimPrefix
 unfold negS at hn
 rw [hn]
 rfl
theorem pow24 : (256 : Nat) ^ 24 ≤ 10 ^ 60 := by decide
theorem parse_text {n : Bool} {s : ByteArray} (hok : okI n s) (hs : s.size ≤ 24) : parseV (textL n (nv s).toNat) = .tuple #[.agg #[.bool n, .string s], .int .i64 0] := by
 have h0 := (nv_bd s).1
 have h1 := size_pow hs
 obtain ⟨V, hV⟩ : ∃ V, (nv s).toNat = V := ⟨_, rfl⟩
 have hvv : nv s = (V : Int) := by omega
 have h60 : V < 10 ^ 60 := by
  have h2 : V < 256 ^ 24 := by
   have e : ((256 ^ 24 : Nat) : Int) = (256 : Int) ^ 24 := by rw [Int.natCast_pow]; rfl
   rw [hvv, ← e] at h1
   exact Int.ofNat_lt.1 h1
  exact Nat.lt_of_lt_of_le h2 pow24
 have hp := pv_ival hok
 have hput : putV (ival n s) = .agg #[.bool n, .string s] := by
  rw [putV_pv, hp]
  rfl
 rw [hV]
 rcases Nat.eq_zero_or_pos V with h | h
 ·have hn : n = false := by
   cases n with
   | false => rfl
   | true =>
    have h2 := hok.2.2 rfl
    have h3 := size_of_canon hok.2.1
    rw [hvv, h, show ((0 : Nat) : Int) = 0 from rfl, nb_zero] at h3
    omega
  subst hn
  have hi : ival false s = 0 := by unfold ival sgn; rw [hvv, h]; rfl
  rw [hi] at hput
  rw [← hput, h]
  rfl
 ·obtain ⟨g1, g2⟩ := neg_dec h
  cases n with
  | false =>
   have e : textL false V = dec V := by
    unfold textL
    rw [if_neg (by decide), if_neg (by omega)]
   rw [e, parseV_yes (by rw [g1, g2]; exact dec_num h h60 false), g1, g2, dv_dec, ← hvv, ← hput]
   rfl
  | true =>
   have e : textL true V = 45 :: dec V := by
    unfold textL
    rw [if_pos rfl]
   have e1 : negS (45 :: dec V) = true := rfl
   have e2 : restS (45 :: dec V) = dec V := rfl
   rw [e, parseV_yes (by rw [e1, e2]; exact dec_num h h60 true), e1, e2, dv_dec, ← hvv, ← hput]
   rfl
theorem parse_txt {n : Bool} {s : ByteArray} (hok : okI n s) (hs : s.size ≤ 24) : parseF (txtN n (nv s)) = ((n, s), 0) := by
 have h1 := parse_text hok hs
 have h2 := parseF_V (txtN n (nv s))
 have e : (txtN n (nv s)).data.toList = textL n (nv s).toNat := rfl
 rw [e, h1] at h2
 simp only [Value.tuple.injEq, Array.mk.injEq, List.cons.injEq, Value.agg.injEq, Value.bool.injEq, Value.string.injEq, Value.int.injEq, and_true, true_and] at h2
 obtain ⟨⟨h3, h4⟩, h5⟩ := h2
 exact Prod.ext (Prod.ext h3.symm h4.symm) h5.symm
/-! ### The document's sum, difference and order -/
theorem low3 {n d : Int} (hn : (pv n).2.size ≤ 1000) (hd : (pv d).2.size ≤ 1000) (h0 : d ≠ 0) : gussetref03_Lowest.f (pv n).1 (pv n).2 (pv d).1 (pv d).2 = some (pq (Rat.divInt n d)) := by
 unfold gussetref03_Lowest.f
 rw [ival_pv, ival_pv, if_pos ⟨hn, hd, chk_ok.2 (okI_pv (by omega)), chk_ok.2 (okI_pv (by omega)), h0⟩]
theorem tim3 {a0 : Bool} {a1 : ByteArray} {b0 : Bool} {b1 : ByteArray} (h1 : a1.size ≤ 4000) (h2 : b1.size ≤ 4000) : gussetref02_Times.f a0 a1 b0 b1 = some (pv (ival a0 a1 * ival b0 b1)) := by
 unfold gussetref02_Times.f
 rw [if_pos ⟨h1, h2⟩]
theorem sum2 {a0 : Bool} {a1 : ByteArray} {b0 : Bool} {b1 : ByteArray} (h1 : a1.size ≤ 4000) (h2 : b1.size ≤ 4000) : gussetref02_Sum.f a0 a1 b0 b1 = some (pv (ival a0 a1 + ival b0 b1)) := by
 unfold gussetref02_Sum.f
 rw [if_pos ⟨h1, h2⟩]
theorem ord2 {a0 : Bool} {a1 : ByteArray} {b0 : Bool} {b1 : ByteArray} (h1 : a1.size ≤ 4000) (h2 : b1.size ≤ 4000) (ha : okI a0 a1) (hb : okI b0 b1) : gussetref02_Order.f a0 a1 b0 b1 = some (cmpI (ival a0 a1) (ival b0 b1)) := by
 unfold gussetref02_Order.f
 rw [if_pos ⟨h1, h2, chk_ok.2 ha, chk_ok.2 hb⟩]
theorem sum3_p (k : Nat) (a b : RG) (ha : okR a) (hb : okR b) (h1 : a.2.1.size ≤ 400) (h2 : a.2.2.size ≤ 400) (h3 : b.2.1.size ≤ 400) (h4 : b.2.2.size ≤ 400) :
  gussetref03_Sum.f (k + 1) a.1 a.2.1 a.2.2 b.1 b.2.1 b.2.2 = some (pq (rq a + rq b)) := by
 have key : gussetref03_Sum.j0 (k + 1) false a.1 a.2.1 a.2.2 b.1 b.2.1 b.2.2 = some (pq (rq a + rq b)) := by
  have e1 : gussetref03_den.f a.1 a.2.1 a.2.2 = some (false, a.2.2) := rfl
  have e2 : gussetref03_den.f b.1 b.2.1 b.2.2 = some (false, b.2.2) := rfl
  have z1 := szmul (k := 400) (l := 400) (m := 800) (ival_bd (n := a.1) h1) (ival_bd (n := false) h4) (by omega)
  have z2 := szmul (k := 400) (l := 400) (m := 800) (ival_bd (n := b.1) h3) (ival_bd (n := false) h2) (by omega)
  have hp : ival false a.2.2 * ival false b.2.2 ≠ 0 := by
   have := Int.mul_pos ha.dp hb.dp
   have e : ival false a.2.2 * ival false b.2.2 = rden a * rden b := rfl
   omega
  rw [gussetref03_Sum.j0, if_neg (by decide)]
  simp only [e1, e2, Option.bind_some]
  rw [tim3 (by omega) (by omega), Option.bind_some, tim3 (by omega) (by omega), Option.bind_some, sum2 (by omega) (by omega), Option.bind_some, ival_pv, ival_pv, tim3 (by omega) (by omega), Option.bind_some,
   low3 (size_pv (add_bd (k := 800) (mul_bd (k := 400) (l := 400) (ival_bd h1) (ival_bd h4) (by omega)) (mul_bd (k := 400) (l := 400) (ival_bd h3) (ival_bd h2) (by omega)) (by omega))) (szmul (k := 400) (l := 400) (ival_bd h2) (ival_bd h4) (by omega)) hp, Option.bind_some]
  have e : Rat.divInt (ival a.1 a.2.1 * ival false b.2.2 + ival b.1 b.2.1 * ival false a.2.2) (ival false a.2.2 * ival false b.2.2) = rq a + rq b := q_add ha hb
  rw [e]
 unfold gussetref03_Sum.f
 by_cases c1 : a.2.2.toList = ([1] : List UInt8)
 ·rw [if_pos c1]
  by_cases c2 : b.2.2.toList = ([1] : List UInt8)
  ·rw [beq_iff_eq.2 c2, gussetref03_Sum.j0, if_pos rfl, sum2 (by omega) (by omega), Option.bind_some]
   have e : rq a + rq b = Rat.divInt (ival a.1 a.2.1 + ival b.1 b.2.1) 1 := by
    rw [← q_add ha hb, rden_one c1, rden_one c2, Int.mul_one, Int.mul_one, Int.mul_one]
    rfl
   rw [e, q_int]
  ·rw [beq_eq_false_iff_ne.2 c2]
   exact key
 ·rw [if_neg c1]
  exact key
/-- a's negative. -/
def ngR (a : RG) : RG := (!a.1 && decide (0 < a.2.1.size), a.2.1, a.2.2)
theorem rnum_ng {a : RG} (h : okR a) : rnum (ngR a) = - rnum a := ival_ng h.kn
theorem ok_ng {a : RG} (h : okR a) : okR (ngR a) := by
 refine ⟨h.sn, h.sd, okI_neg h.kn, h.kd, h.nz, ?_⟩
 rw [rnum_ng h, Int.neg_gcd]
 exact h.co
theorem rq_ng {a : RG} (h : okR a) : rq (ngR a) = - rq a := by
 unfold rq
 rw [rnum_ng h, Rat.neg_divInt]
 rfl
theorem less3_p (k : Nat) (a b : RG) (ha : okR a) (hb : okR b) (h1 : a.2.1.size ≤ 400) (h2 : a.2.2.size ≤ 400) (h3 : b.2.1.size ≤ 400) (h4 : b.2.2.size ≤ 400) :
  gussetref03_Less.f (k + 1) a.1 a.2.1 a.2.2 b.1 b.2.1 b.2.2 = some (pq (rq a - rq b)) := by
 have e : gussetref03_Negate.f b.1 b.2.1 b.2.2 = some (ngR b) := rfl
 have h := sum3_p k a (ngR b) ha (ok_ng hb) h1 h2 h3 h4
 unfold gussetref03_Less.f
 rw [e, Option.bind_some, h, Option.bind_some, rq_ng hb, ← Rat.sub_eq_add_neg]
theorem tl_inj {s t : ByteArray} (h : s.toList = t.toList) : s = t := (tl_iff.1 h).trans (tl_iff.1 (rfl : t.toList = t.toList)).symm
theorem cmpI_mul {x y d : Int} (h : 0 < d) : cmpI (x * d) (y * d) = cmpI x y := by
 unfold cmpI
 simp only [Int.mul_lt_mul_right h]
theorem order3_p (a b : RG) (ha : okR a) (hb : okR b) (h1 : a.2.1.size ≤ 400) (h2 : a.2.2.size ≤ 400) (h3 : b.2.1.size ≤ 400) (h4 : b.2.2.size ≤ 400) :
  gussetref03_Order.f a.1 a.2.1 a.2.2 b.1 b.2.1 b.2.2 = some (cmpQ (rq a) (rq b)) := by
 unfold gussetref03_Order.f
 rw [← q_cmp ha hb]
 by_cases c1 : a.2.2.toList = b.2.2.toList
 ·have e : rden b = rden a := by unfold rden; rw [tl_inj c1]
  rw [if_pos c1, ord2 (by omega) (by omega) ha.kn hb.kn, Option.bind_some, e, cmpI_mul ha.dp]
  rfl
 ·have e1 : gussetref03_den.f a.1 a.2.1 a.2.2 = some (false, a.2.2) := rfl
  have e2 : gussetref03_den.f b.1 b.2.1 b.2.2 = some (false, b.2.2) := rfl
  have z1 := szmul (k := 400) (l := 400) (m := 800) (ival_bd (n := a.1) h1) (ival_bd (n := false) h4) (by omega)
  have z2 := szmul (k := 400) (l := 400) (m := 800) (ival_bd (n := b.1) h3) (ival_bd (n := false) h2) (by omega)
  rw [if_neg c1, e2, Option.bind_some, tim3 (by omega) (by dsimp only; omega), Option.bind_some, e1, Option.bind_some, tim3 (by omega) (by dsimp only; omega), Option.bind_some]
  dsimp only
  rw [ord2 (by omega) (by omega) (okI_pv (by omega)) (okI_pv (by omega)), Option.bind_some, ival_pv, ival_pv]
  rfl
theorem subsz {a b : RG} (ha : okR a) (hb : okR b) {k : Nat} (h1 : a.2.1.size ≤ k) (h2 : a.2.2.size ≤ k) (h3 : b.2.1.size ≤ k) (h4 : b.2.2.size ≤ k) :
  (pq (rq a - rq b)).2.1.size ≤ k + k + 1 ∧ (pq (rq a - rq b)).2.2.size ≤ k + k := by
 rw [← q_sub ha hb]
 have d1 : rden b = ival false b.2.2 := rfl
 have d2 : rden a = ival false a.2.2 := rfl
 have hp := Int.mul_pos ha.dp hb.dp
 refine low_size hp (sub_bd (k := k + k) (mul_bd (k := k) (l := k) (ival_bd h1) (ival_bd (n := false) h4) (Nat.le_refl _)) (mul_bd (k := k) (l := k) (ival_bd h3) (ival_bd (n := false) h2) (Nat.le_refl _)) (Nat.le_refl _)) ?_
 have := mul_bd (k := k) (l := k) (m := k + k) (ival_bd (n := false) h2) (ival_bd (n := false) h4) (Nat.le_refl _)
 rw [← d1, ← d2] at this
 omega
theorem bt_get {s : ByteArray} {i : Nat} {b : UInt8} {l : List UInt8} (h : s.data.toList.drop i = b :: l) : bt s (i : Int) = b.toNat ∧ i < s.size ∧ s.data.toList.drop (i + 1) = l := by
 have hlen : s.data.toList.length = s.size := rfl
 have h1 : i < s.size := by
  have := congrArg List.length h
  rw [List.length_drop, List.length_cons, hlen] at this
  omega
 have h2 : s.data.toList[i]? = some b := by
  have := congrArg (fun z => z[0]?) h
  simpa [List.getElem?_drop] using this
 refine ⟨?_, h1, ?_⟩
 ·unfold bt
  rw [Int.toNat_natCast, dif_pos h1]
  have h3 : s[i]'h1 = b := by
   have h4 : s.data.toList[i]'(by rw [hlen]; exact h1) = b := by
    rw [List.getElem?_eq_getElem (by rw [hlen]; exact h1)] at h2
    exact Option.some.inj h2
   rw [← h4]
   rfl
  rw [h3]
 ·rw [← List.tail_drop, h]
  rfl
/-! ### The digits of a text -/
def keep (acc : List UInt8) (b : UInt8) : List UInt8 := if b = 46 then acc else if acc = [] ∧ b = 48 then acc else if b = 45 then acc else acc ++ [b]
theorem keep_len (l : List UInt8) : ∀ acc : List UInt8, (l.foldl keep acc).length ≤ acc.length + l.length := by
 induction l with
 | nil => intro acc; exact Nat.le_refl _
 | cons b l ih =>
  intro acc
  rw [List.foldl_cons]
  have h1 := ih (keep acc b)
  have h2 : (keep acc b).length ≤ acc.length + 1 := by
   unfold keep
   split
   ·omega
   ·split
    ·omega
    ·split
     ·omega
     ·simp
  rw [List.length_cons]
  omega
theorem keep_46 (l m : List UInt8) (acc : List UInt8) : (l ++ 46 :: m).foldl keep acc = (l ++ m).foldl keep acc := by
 rw [List.foldl_append, List.foldl_append, List.foldl_cons]
 rfl
theorem keep_45 (l acc : List UInt8) : (45 :: l).foldl keep acc = l.foldl keep acc := by
 rw [List.foldl_cons]
 congr 1
 unfold keep
 rw [if_neg (by decide), if_neg (fun h => absurd h.2 (by decide)), if_pos rfl]
theorem keep_48 (m : Nat) (l : List UInt8) : (Lib.repeatL [48] m ++ l).foldl keep [] = l.foldl keep [] := by
 induction m with
 | zero => rfl
 | succ m ih =>
  rw [Lib.repeatL, List.append_assoc, List.singleton_append, List.foldl_cons]
  exact ih
theorem keep_all : ∀ (l acc : List UInt8), acc ≠ [] → (∀ y ∈ l, y ≠ 46 ∧ y ≠ 45) → l.foldl keep acc = acc ++ l := by
 intro l
 induction l with
 | nil => intro acc _ _; simp
 | cons b l ih =>
  intro acc h0 h
  have hb := h b (List.mem_cons_self ..)
  have e : keep acc b = acc ++ [b] := by
   unfold keep
   rw [if_neg hb.1, if_neg (fun hc => h0 hc.1), if_neg hb.2]
  rw [List.foldl_cons, e, ih _ (by simp) (fun y hy => h y (List.mem_cons_of_mem _ hy)), List.append_assoc]
  rfl
theorem dig_ne {y : UInt8} (h : 48 ≤ y.toNat ∧ y.toNat ≤ 57) : y ≠ 46 ∧ y ≠ 45 := by
 constructor
 ·rintro rfl
  exact absurd h.1 (by decide)
 ·rintro rfl
  exact absurd h.1 (by decide)
theorem keep_text (V : Nat) : (textL false V).foldl keep [] = dec V := by
 unfold textL
 rw [if_neg (by decide)]
 by_cases h : V = 0
 ·rw [if_pos h, h, dec_zero]
  rfl
 ·rw [if_neg h]
  obtain ⟨x, r, e, hx⟩ := dec_head V (Nat.pos_of_ne_zero h)
  have ha := dec_all V
  rw [e] at ha ⊢
  have hn := dig_ne (ha x (List.mem_cons_self ..))
  have e1 : keep [] x = [x] := by
   unfold keep
   rw [if_neg hn.1, if_neg (fun hc => by rw [hc.2] at hx; exact absurd hx.1 (by decide)), if_neg hn.2]
   rfl
  rw [List.foldl_cons, e1, keep_all _ _ (by simp) (fun y hy => dig_ne (ha y (List.mem_cons_of_mem _ hy)))]
  rfl
/-! ### The loop over a text -/
def finJ (K : Nat) (p : Int) (s : ByteArray) (d : List UInt8) (a : RG) : Option Bool :=
 if d = [] then gussetlaw03_RatNear.j4 K p ⟨#[48]⟩ a.1 a.2.1 a.2.2 else if bt s 0 = 45 then gussetlaw03_RatNear.j4 K p ⟨(45 :: d).toArray⟩ a.1 a.2.1 a.2.2 else gussetlaw03_RatNear.j4 K p ⟨d.toArray⟩ a.1 a.2.1 a.2.2
theorem tl_mk (l : List UInt8) : (⟨l.toArray⟩ : ByteArray).toList = l := by
 rw [ByteArray.toList_eq]
theorem sz_mk (l : List UInt8) : (⟨l.toArray⟩ : ByteArray).size = l.length := rfl
theorem loop_n (K : Nat) (p : Int) (s : ByteArray) (a : RG) (h0 : 0 < s.size) (hs : s.size ≤ 100000) : ∀ (r i : Nat) (acc : List UInt8), i + r = s.size → acc.length ≤ i →
  gussetlaw03_RatNear.l0 (K + 1 + 2 * r) p s ⟨acc.toArray⟩ i a.1 a.2.1 a.2.2 = finJ K p s ((s.data.toList.drop i).foldl keep acc) a := by
 have hl : s.data.toList.length = s.size := rfl
 intro r
 induction r with
 | zero =>
  intro i acc hi ha
  rw [List.drop_of_length_le (by omega), List.foldl_nil, show K + 1 + 2 * 0 = K + 1 from rfl, gussetlaw03_RatNear.l0, if_neg (by omega), tl_mk]
  unfold finJ
  by_cases h1 : acc = []
  ·rw [if_pos h1, if_pos h1]
  ·rw [if_neg h1, if_neg h1, if_pos (by omega)]
   by_cases h2 : bt s 0 = 45
   ·have e : (⟨#[45]⟩ : ByteArray) ++ ⟨acc.toArray⟩ = ⟨(45 :: acc).toArray⟩ := by
     apply ByteArray.ext
     simp
    rw [if_pos h2, if_pos h2, sz_mk, if_pos (by omega), e]
   ·rw [if_neg h2, if_neg h2]
 | succ r ih =>
  intro i acc hi ha
  obtain ⟨b, l, hb⟩ : ∃ b l, s.data.toList.drop i = b :: l := by
   cases h : s.data.toList.drop i with
   | nil =>
    have := congrArg List.length h
    rw [List.length_drop, hl] at this
    simp at this
    omega
   | cons b l => exact ⟨b, l, rfl⟩
  obtain ⟨e1, e2, e3⟩ := bt_get hb
  have hw : wrap64 ((i : Int) + 1) = ((i + 1 : Nat) : Int) := by unfold wrap64; omega
  have nb : ∀ c : UInt8, ((b.toNat : Nat) : Int) = (c.toNat : Int) ↔ b = c := fun c => ⟨fun h => UInt8.toNat_inj.1 (by omega), fun h => by rw [h]⟩
  have n46 : (((b.toNat : Nat) : Int) = 46) ↔ b = 46 := nb 46
  have n48 : (((b.toNat : Nat) : Int) = 48) ↔ b = 48 := nb 48
  have n45 : (((b.toNat : Nat) : Int) = 45) ↔ b = 45 := nb 45
  have ex : s.extract i (i + 1) = ⟨#[b]⟩ := by
   apply ByteArray.ext
   rw [ByteArray.data_extract]
   apply Array.ext'
   rw [Array.toList_extract]
   show List.take (i + 1 - i) (List.drop i s.data.toList) = [b]
   rw [hb, show i + 1 - i = 1 by omega]
   rfl
  have eap : (⟨acc.toArray⟩ : ByteArray) ++ ⟨#[b]⟩ = ⟨(acc ++ [b]).toArray⟩ := by
   apply ByteArray.ext
   simp
  have no : gussetlaw03_RatNear.j3 (K + 1 + 2 * r + 1) p s ⟨acc.toArray⟩ i false a.1 a.2.1 a.2.2 = gussetlaw03_RatNear.l0 (K + 1 + 2 * r) p s ⟨acc.toArray⟩ ((i + 1 : Nat) : Int) a.1 a.2.1 a.2.2 := by
   rw [gussetlaw03_RatNear.j3, if_neg (by decide), hw]
  have yes : gussetlaw03_RatNear.j3 (K + 1 + 2 * r + 1) p s ⟨acc.toArray⟩ i true a.1 a.2.1 a.2.2 = gussetlaw03_RatNear.l0 (K + 1 + 2 * r) p s ⟨(acc ++ [b]).toArray⟩ ((i + 1 : Nat) : Int) a.1 a.2.1 a.2.2 := by
   rw [gussetlaw03_RatNear.j3, if_pos rfl, hw, if_pos (by omega), if_pos (by omega), if_pos (by omega), Int.toNat_natCast, Int.toNat_natCast, ex, if_pos (by rw [sz_mk]; have : (⟨#[b]⟩ : ByteArray).size = 1 := rfl; omega), eap]
  have st : ∀ x : Bool, gussetlaw03_RatNear.j3 (K + 1 + 2 * r + 1) p s ⟨acc.toArray⟩ i x a.1 a.2.1 a.2.2 = finJ K p s (l.foldl keep (if x = true then acc ++ [b] else acc)) a := by
   intro x
   cases x with
   | false => rw [no, ih (i + 1) acc (by omega) (by omega), e3, if_neg (by decide)]
   | true => rw [yes, ih (i + 1) (acc ++ [b]) (by omega) (by simp; omega), e3, if_pos rfl]
  rw [hb, List.foldl_cons, show K + 1 + 2 * (r + 1) = (K + 1 + 2 * r + 1) + 1 by omega, gussetlaw03_RatNear.l0, if_pos (by omega), if_pos (by omega), e1, tl_mk]
  have hk : keep acc b = if b = 46 then acc else if acc = [] ∧ b = 48 then acc else if b = 45 then acc else acc ++ [b] := rfl
  rw [hk]
  by_cases h1 : b = 46
  ·rw [if_pos (n46.2 h1), st, if_neg Bool.false_ne_true, if_pos h1]
  ·rw [if_neg (fun h => h1 (n46.1 h)), if_neg h1]
   by_cases h2 : acc = []
   ·rw [if_pos h2]
    by_cases h3 : b = 48
    ·rw [if_pos (n48.2 h3), st, if_neg Bool.false_ne_true, if_pos ⟨h2, h3⟩]
    ·rw [if_neg (fun h => h3 (n48.1 h)), if_neg (fun h => h3 h.2 : ¬ (acc = [] ∧ b = 48))]
     by_cases h4 : b = 45
     ·rw [bne_eq_false_iff_eq.2 (n45.2 h4), st, if_neg Bool.false_ne_true, if_pos h4]
     ·rw [bne_iff_ne.2 (fun h => h4 (n45.1 h)), st, if_pos rfl, if_neg h4]
   ·rw [if_neg h2, if_neg (fun h => h2 h.1 : ¬ (acc = [] ∧ b = 48))]
    by_cases h4 : b = 45
    ·rw [bne_eq_false_iff_eq.2 (n45.2 h4), st, if_neg Bool.false_ne_true, if_pos h4]
    ·rw [bne_iff_ne.2 (fun h => h4 (n45.1 h)), st, if_pos rfl, if_neg h4]
/-! ### The digits of what Decimal tells -/
def ngq (a : RG) (q : Int) : Bool := a.1 && decide (q ≠ 0)
def padL (p : Nat) (q : Int) : List UInt8 := Lib.repeatL [48] (p + 1 - (txtN false q).size) ++ textL false q.toNat
theorem pad_list (p : Nat) (q : Int) : padB p (txtN false q) = ⟨(padL p q).toArray⟩ := by
 unfold padB padL
 apply ByteArray.ext
 have : txtN false q = ⟨(textL false q.toNat).toArray⟩ := rfl
 rw [this]
 simp
theorem padL_len (p : Nat) (q : Int) : p < (padL p q).length := by
 have h1 := pad_size p (txtN false q)
 rw [pad_list, sz_mk] at h1
 omega
theorem padL_dig (p : Nat) (q : Int) (y : UInt8) (h : y ∈ padL p q) : 48 ≤ y.toNat ∧ y.toNat ≤ 57 := by
 unfold padL at h
 rcases List.mem_append.1 h with h | h
 ·have key : ∀ m, y ∈ Lib.repeatL [48] m → y = 48 := by
   intro m
   induction m with
   | zero => intro h; cases h
   | succ m ih =>
    intro h
    rcases List.mem_append.1 h with h | h
    ·exact List.mem_singleton.1 h
    ·exact ih h
  rw [key _ h]
  decide
 ·unfold textL at h
  rw [if_neg (by decide)] at h
  split at h
  ·rw [List.mem_singleton.1 h]; decide
  ·exact dec_all _ y h
def dotL (p : Nat) (l : List UInt8) : List UInt8 := if p > 0 then l.take (l.length - p) ++ 46 :: l.drop (l.length - p) else l
theorem dot_list (p : Nat) (l : List UInt8) (h : p < l.length) (h2 : l.length ≤ 90000) : dotB p ⟨l.toArray⟩ = ⟨(dotL p l).toArray⟩ := by
 unfold dotB dotL
 by_cases hp : p > 0
 ·have hw : wrap64 ((l.length : Int) - p) = ((l.length - p : Nat) : Int) := by unfold wrap64; omega
  rw [if_pos (by omega), if_pos hp, sz_mk, hw, Int.toNat_natCast]
  apply ByteArray.ext
  apply Array.ext'
  simp [ByteArray.data_extract]
  rw [List.take_of_length_le (by simp)]
 ·rw [if_neg (by omega), if_neg hp]
theorem dec_list (a : RG) (p : Nat) (q : Int) (hq : q = decQ a p) (hz : (txtN false q).size ≤ 1000) (hp : p ≤ 100) : decB a p = ⟨((if ngq a q = true then [45] else []) ++ dotL p (padL p q)).toArray⟩ := by
 have h1 := pad_size p (txtN false q)
 rw [pad_list, sz_mk] at h1
 unfold decB
 rw [← hq, pad_list, dot_list p _ (padL_len p q) (by omega)]
 unfold ngq
 by_cases h : a.1 = true ∧ q ≠ 0
 ·have e : (a.1 && decide (q ≠ 0)) = true := by rw [h.1, decide_eq_true h.2]; rfl
  rw [if_pos h, e, if_pos rfl]
  apply ByteArray.ext
  simp
 ·have e : (a.1 && decide (q ≠ 0)) = false := by
   cases h1 : a.1 with
   | false => rfl
   | true => rw [Bool.true_and]; exact decide_eq_false (fun hc => h ⟨h1, hc⟩)
  rw [if_neg h, e, if_neg (by decide)]
  rfl
theorem dig_list (a : RG) (p : Nat) (q : Int) : ((if ngq a q = true then [45] else []) ++ dotL p (padL p q)).foldl keep [] = dec q.toNat := by
 have e1 : ((if ngq a q = true then [45] else []) ++ dotL p (padL p q)).foldl keep [] = (dotL p (padL p q)).foldl keep [] := by
  split
  ·exact keep_45 _ _
  ·rfl
 have e2 : (dotL p (padL p q)).foldl keep [] = (padL p q).foldl keep [] := by
  unfold dotL
  split
  ·rw [keep_46, List.take_append_drop]
  ·rfl
 rw [e1, e2]
 unfold padL
 rw [keep_48, keep_text]
theorem head_list (a : RG) (p : Nat) (q : Int) : ∃ x r, (if ngq a q = true then [45] else []) ++ dotL p (padL p q) = x :: r ∧ (x = 45 ↔ ngq a q = true) := by
 by_cases h : ngq a q = true
 ·rw [if_pos h]
  exact ⟨45, _, rfl, fun _ => h, fun _ => rfl⟩
 ·rw [if_neg h]
  have hl := padL_len p q
  have hd := padL_dig p q
  cases hx : padL p q with
  | nil => rw [hx] at hl; simp at hl
  | cons x r =>
   have hx2 := (dig_ne (hd x (by rw [hx]; exact List.mem_cons_self ..))).2
   rw [hx] at hl
   unfold dotL
   by_cases hp : p > 0
   ·rw [if_pos hp]
    obtain ⟨m, hm⟩ : ∃ m, (x :: r).length - p = m + 1 := ⟨(x :: r).length - p - 1, by omega⟩
    rw [hm, List.take_succ_cons]
    exact ⟨x, _, rfl, fun hc => absurd hc hx2, fun hc => absurd hc h⟩
   ·rw [if_neg hp]
    exact ⟨x, _, rfl, fun hc => absurd hc hx2, fun hc => absurd hc h⟩
theorem fin_dec (K : Nat) (a : RG) (p : Nat) (q : Int) (h0 : 0 ≤ q) (hq : q = decQ a p) (hz : (txtN false q).size ≤ 1000) (hp : p ≤ 100) :
  finJ K p (decB a p) ((decB a p).data.toList.foldl keep []) a = gussetlaw03_RatNear.j4 K p (txtN (ngq a q) q) a.1 a.2.1 a.2.2 := by
 obtain ⟨x, r, hx, hn⟩ := head_list a p q
 have hb : bt (decB a p) 0 = x.toNat := by
  rw [dec_list a p q hq hz hp, hx]
  rfl
 have hd : (decB a p).data.toList.foldl keep [] = dec q.toNat := by
  rw [dec_list a p q hq hz hp]
  exact dig_list a p q
 rw [hd]
 unfold finJ
 rw [hb]
 by_cases hq0 : q = 0
 ·have e : ngq a q = false := by unfold ngq; rw [hq0]; simp
  rw [e, hq0, show (0 : Int).toNat = 0 from rfl, dec_zero, if_pos rfl]
  rfl
 ·rw [if_neg (dec_ne (by omega))]
  by_cases hg : ngq a q = true
  ·rw [if_pos (by rw [hn.2 hg]; rfl), hg]
   unfold txtN textL
   rw [if_pos rfl]
  ·have hx45 : ¬ ((x.toNat : Nat) : Int) = 45 := by
    intro h
    apply hg
    apply hn.1
    apply UInt8.toNat_inj.1
    have : (45 : UInt8).toNat = 45 := rfl
    omega
   have hg2 : ngq a q = false := by cases h : ngq a q with
    | false => rfl
    | true => exact absurd h hg
   rw [if_neg hx45, hg2]
   unfold txtN textL
   rw [if_neg (by decide), if_neg (by omega)]
/-! ### Nearness -/
theorem rnd_near {n d : Int} (hd : 0 < d) : 2 * (rndI n d * d - n) ≤ d ∧ 2 * (n - rndI n d * d) ≤ d := by
 have h1 := Int.mul_ediv_add_emod n d
 have h2 := Int.emod_nonneg n (show d ≠ 0 by omega)
 have h3 := Int.emod_lt_of_pos n hd
 unfold rndI cmpI
 obtain ⟨q, hq⟩ : ∃ q, n / d = q := ⟨_, rfl⟩
 obtain ⟨r, hr⟩ : ∃ r, n % d = r := ⟨_, rfl⟩
 rw [hq, hr] at h1 ⊢
 rw [hr] at h2 h3
 have e : (q + 1) * d = d * q + d := by grind
 have e0 : q * d = d * q := Int.mul_comm _ _
 by_cases c1 : r + r < d
 ·rw [if_pos c1, if_pos (.inl (by decide)), e0]
  omega
 ·rw [if_neg c1]
  by_cases c2 : d < r + r
  ·rw [if_pos c2, if_neg (fun h => by rcases h with h | h <;> omega), e]
   omega
  ·rw [if_neg c2]
   split
   ·rw [e0]; omega
   ·rw [e]; omega
def absQ (D : Rat) : Rat := if D < 0 then -D else D
theorem pq_abs (D : Rat) : pq (absQ D) = (false, (pq D).2.1, (pq D).2.2) := by
 unfold absQ
 by_cases h : D < 0
 ·have hn : D.num < 0 := by rw [← Rat.not_le, ← Rat.num_nonneg] at h; omega
  rw [if_pos h]
  unfold pq
  rw [Rat.neg_num, Rat.neg_den]
  unfold pv
  rw [Int.natAbs_neg, decide_eq_false (by omega)]
 ·have hn : ¬ D.num < 0 := by rw [Rat.not_lt, ← Rat.num_nonneg] at h; omega
  rw [if_neg h]
  unfold pq pv
  rw [decide_eq_false hn]
theorem abs_le {D H : Rat} (h1 : D ≤ H) (h2 : -D ≤ H) : absQ D ≤ H := by
 unfold absQ
 split
 ·exact h2
 ·exact h1
theorem cmpQ_le {p q : Rat} (h : p ≤ q) : cmpQ p q ≤ 0 := by
 unfold cmpQ
 split
 ·decide
 ·rw [if_neg (Rat.not_lt.2 h)]
  exact Int.le_refl _
theorem dle {x y u v : Int} (hu : 0 < u) (hv : 0 < v) (h : x * v ≤ y * u) : Rat.divInt x u ≤ Rat.divInt y v := by
 rw [Rat.le_iff_sub_nonneg, Rat.divInt_sub_divInt _ _ (by omega) (by omega), Rat.divInt_nonneg_iff_of_pos_right (Int.mul_pos hv hu)]
 omega
theorem near_q (a : RG) (ha : okR a) (p : Nat) (v : Int) (hv : v = if a.1 = true then - decQ a p else decQ a p) : absQ (Rat.divInt v (10 ^ p) - rq a) ≤ Rat.divInt 1 (10 ^ p * 2) := by
 have hd := ha.dp
 have hs := ten_pos p
 have hn := rnd_near (n := nv a.2.1 * 10 ^ p) hd
 have e : rndI (nv a.2.1 * 10 ^ p) (rden a) = decQ a p := rfl
 rw [e] at hn
 have en : rnum a = if a.1 = true then - nv a.2.1 else nv a.2.1 := rfl
 have er : rq a = Rat.divInt (rnum a) (rden a) := rfl
 generalize (10 : Int) ^ p = S at *
 generalize rden a = d at *
 generalize nv a.2.1 = n0 at *
 generalize decQ a p = q at *
 have hx : 2 * (v * d - rnum a * S) ≤ d ∧ 2 * -(v * d - rnum a * S) ≤ d := by
  rw [hv, en]
  split
  ·have e1 : -q * d - -n0 * S = n0 * S - q * d := by grind
   rw [e1]
   omega
  ·omega
 rw [er, Rat.divInt_sub_divInt _ _ (by omega) (by omega)]
 generalize v * d - rnum a * S = x at *
 have hp : 0 < S * d := Int.mul_pos hs hd
 have m1 := Int.mul_le_mul_of_nonneg_right hx.1 (Int.le_of_lt hs)
 have m2 := Int.mul_le_mul_of_nonneg_right hx.2 (Int.le_of_lt hs)
 refine abs_le ?_ ?_
 ·refine dle hp (by omega) ?_
  have e1 : x * (S * 2) = 2 * x * S := by grind
  have e2 : 1 * (S * d) = d * S := by grind
  rw [e1, e2]
  exact m1
 ·rw [Rat.neg_divInt]
  refine dle hp (by omega) ?_
  have e1 : -x * (S * 2) = 2 * -x * S := by grind
  have e2 : 1 * (S * d) = d * S := by grind
  rw [e1, e2]
  exact m2
/-! ### The law -/
theorem scale_l (p : Nat) (a : RG) (f : Int) (v : Bool × ByteArray) (R : Option Bool) (K : Nat) (hp : p ≤ 15)
  (h : gussetlaw03_RatNear.l1 (K + 1) p f p a.1 a.2.1 a.2.2 v.1 v.2 (pv (10 ^ p)).1 (pv (10 ^ p)).2 = R) : ∀ j, j ≤ p →
  gussetlaw03_RatNear.l1 (K + 1 + j) p f ((p - j : Nat) : Int) a.1 a.2.1 a.2.2 v.1 v.2 (pv (10 ^ (p - j))).1 (pv (10 ^ (p - j))).2 = R := by
 intro j
 induction j with
 | zero => intro _; exact h
 | succ j ih =>
  intro hj
  have hb := ten_bd (p - (j + 1))
  have h0 := ten_pos (p - (j + 1))
  have hsz : (pv (10 ^ (p - (j + 1)))).2.size ≤ p - (j + 1) + 1 := size_pv (by omega)
  have e10 : pv 10 = (false, ⟨#[10]⟩) := by decide +kernel
  have em := tim3 (a0 := (pv (10 ^ (p - (j + 1)))).1) (a1 := (pv (10 ^ (p - (j + 1)))).2) (b0 := (pv 10).1) (b1 := (pv 10).2) (by omega) (by rw [e10]; decide)
  rw [ival_pv, ival_pv] at em
  have ev : (10 : Int) ^ (p - (j + 1)) * 10 = 10 ^ (p - j) := by rw [show p - j = (p - (j + 1)) + 1 by omega, Int.pow_succ]
  have ew : wrap64 (((p - (j + 1) : Nat) : Int) + 1) = ((p - j : Nat) : Int) := by clear hb em; unfold wrap64; omega
  have e10f : gussetref02_Of.f 10 = some (pv 10) := by unfold gussetref02_Of.f; rw [if_pos (by decide)]
  rw [show K + 1 + (j + 1) = (K + 1 + j) + 1 from rfl, gussetlaw03_RatNear.l1, if_pos (by omega), e10f, Option.bind_some, em, Option.bind_some, ev, ew]
  exact ih (by omega)
theorem last_p (k p : Nat) (a : RG) (ha : okR a) (hp : p ≤ 15) (h1 : a.2.1.size ≤ 16) (h2 : a.2.2.size ≤ 24) (v : Int) (hv : v = if a.1 = true then - decQ a p else decQ a p) (hb : (v.natAbs : Int) < 256 ^ 40) :
  gussetlaw03_RatNear.l1 (k + 13) p 0 p a.1 a.2.1 a.2.2 (pv v).1 (pv v).2 (pv (10 ^ p)).1 (pv (10 ^ p)).2 = some true := by
 have ht := ten_bd p
 have h0 := ten_pos p
 have sv : (pv v).2.size ≤ 40 := size_pv hb
 have bs : (((10 : Int) ^ p).natAbs : Int) < 256 ^ (p + 1) := by omega
 have ss : (pv (10 ^ p)).2.size ≤ p + 1 := size_pv bs
 have e1 : pv 1 = (false, ⟨#[1]⟩) := pv_1
 have e2 : pv 2 = (false, ⟨#[2]⟩) := by decide +kernel
 have o1 : gussetref02_Of.f 1 = some (pv 1) := by unfold gussetref02_Of.f; rw [if_pos (by decide)]
 have o2 : gussetref02_Of.f 2 = some (pv 2) := by unfold gussetref02_Of.f; rw [if_pos (by decide)]
 have em := tim3 (a0 := (pv (10 ^ p)).1) (a1 := (pv (10 ^ p)).2) (b0 := (pv 2).1) (b1 := (pv 2).2) (by omega) (by rw [e2]; decide)
 rw [ival_pv, ival_pv] at em
 have b2 : (((10 : Int) ^ p * 2).natAbs : Int) < 256 ^ (p + 1 + 1) := mul_bd bs (by decide : (((2 : Int)).natAbs : Int) < 256 ^ 1) (Nat.le_refl _)
 have s2 : (pv (10 ^ p * 2)).2.size ≤ p + 2 := size_pv b2
 have zt := low_size (n := v) h0 hb ht
 have kt : okR (pq (Rat.divInt v (10 ^ p))) := okR_pq (by omega) (by omega)
 have zd := subsz (a := pq (Rat.divInt v (10 ^ p))) (b := a) kt ha (k := 40) (by omega) (by omega) (by omega) (by omega)
 rw [rq_pq] at zd
 obtain ⟨D, hD⟩ : ∃ D, Rat.divInt v (10 ^ p) - rq a = D := ⟨_, rfl⟩
 have hl := less3_p (k + 11) (pq (Rat.divInt v (10 ^ p))) a kt ha (by omega) (by omega) (by omega) (by omega)
 rw [rq_pq, hD] at hl
 rw [hD] at zd
 have ea := pq_abs D
 have za1 : (pq (absQ D)).2.1.size ≤ 81 := by rw [ea]; exact zd.1
 have za2 : (pq (absQ D)).2.2.size ≤ 80 := by rw [ea]; exact zd.2
 have ka : okR (pq (absQ D)) := okR_pq (by omega) (by omega)
 have zh := low_size (n := 1) (k := 1) (show (0 : Int) < 10 ^ p * 2 by omega) (by decide) (by omega : (10 : Int) ^ p * 2 < 256 ^ (p + 1 + 1))
 have kh : okR (pq (Rat.divInt 1 (10 ^ p * 2))) := okR_pq (by omega) (by omega)
 have ho := order3_p (pq (absQ D)) (pq (Rat.divInt 1 (10 ^ p * 2))) ka kh (by omega) (by omega) (by omega) (by omega)
 rw [rq_pq, rq_pq, ea] at ho
 have hn := near_q a ha p v hv
 rw [hD] at hn
 rw [show k + 13 = (k + 12) + 1 from rfl, gussetlaw03_RatNear.l1, if_neg (by omega), if_pos rfl, low3 (by omega) (by omega) (by omega), Option.bind_some, show k + 12 = k + 11 + 1 from rfl, hl, Option.bind_some, o1, Option.bind_some, o2, Option.bind_some, em, Option.bind_some, low3 (by rw [e1]; decide) (by omega) (by omega), Option.bind_some]
 dsimp only at ho ⊢
 rw [ho, Option.bind_some, if_pos (cmpQ_le hn), show k + 11 + 1 = k + 12 from rfl, live_s]
 rfl
theorem near_j4 (k p : Nat) (a : RG) (ha : okR a) (hp : p ≤ 15) (h1 : a.2.1.size ≤ 16) (h2 : a.2.2.size ≤ 24) (q : Int) (h0 : 0 ≤ q) (hq : q = decQ a p) (hb : q < 256 ^ 24) :
  gussetlaw03_RatNear.j4 (k + 14 + p) p (txtN (ngq a q) q) a.1 a.2.1 a.2.2 = some true := by
 have sq : (pv q).2.size ≤ 24 := size_pv (by omega)
 have en : nv (pv q).2 = q := nv_pn h0
 have ok0 : okI false (pv q).2 := okI_pn h0 (by omega)
 have ok : okI (ngq a q) (pv q).2 := by
  refine ⟨ok0.1, ok0.2.1, fun h => ?_⟩
  unfold ngq at h
  rw [Bool.and_eq_true, decide_eq_true_eq] at h
  exact Nat.pos_of_ne_zero fun hc => h.2 (pvs0 hc)
 have hp2 := parse_txt ok sq
 rw [en] at hp2
 obtain ⟨v, hv⟩ : ∃ v, ival (ngq a q) (pv q).2 = v := ⟨_, rfl⟩
 have epv : pv v = (ngq a q, (pv q).2) := by rw [← hv]; exact pv_ival ok
 have ev : v = if ngq a q = true then - q else q := by
  rw [← hv]
  unfold ival sgn
  rw [en]
 have ev2 : v = if a.1 = true then - decQ a p else decQ a p := by
  rw [← hq, ev]
  unfold ngq
  by_cases hq0 : q = 0
  ·rw [hq0]; simp
  ·cases a.1 with
   | false => rfl
   | true => rw [decide_eq_true hq0]; rfl
 have bv : (v.natAbs : Int) < 256 ^ 40 := by
  have e : (v.natAbs : Int) = q := by rw [ev]; split <;> omega
  rw [e]
  exact pw_mono hb (by decide)
 have ep : gussetref02_Parse.f (txtN (ngq a q) q) = some ((pv v).1, (pv v).2, 0) := by
  have e : gussetref02_Parse.f (txtN (ngq a q) q) = some ((parseF (txtN (ngq a q) q)).1.1, (parseF (txtN (ngq a q) q)).1.2, (parseF (txtN (ngq a q) q)).2) := rfl
  rw [e, hp2, epv]
 have o1 : gussetref02_Of.f 1 = some (pv 1) := by unfold gussetref02_Of.f; rw [if_pos (by decide)]
 have hl := scale_l p a 0 (pv v) (some true) (k + 12) hp (last_p k p a ha hp h1 h2 v ev2 bv) p (Nat.le_refl _)
 rw [Nat.sub_self] at hl
 rw [show k + 14 + p = (k + 12 + 1 + p) + 1 by omega, gussetlaw03_RatNear.j4, ep, Option.bind_some, o1, Option.bind_some]
 exact hl
theorem ratNear_p (a : RG) (p : Int) : gussetlaw03_RatNear.f 400 a.1 a.2.1 a.2.2 p = some true := by
 have j0t : ∀ a0 a1 a2, gussetlaw03_RatNear.j0 400 p true a0 a1 a2 = some true := by
  intro a0 a1 a2
  rw [show (400 : Nat) = 399 + 1 from rfl, gussetlaw03_RatNear.j0, if_pos rfl, live_s 387]
  rfl
 unfold gussetlaw03_RatNear.f
 by_cases s1 : a.2.1.size ≤ 16
 rotate_left
 ·rw [if_pos (by omega), j0t]
 rw [if_neg (by omega)]
 by_cases s2 : a.2.2.size ≤ 24
 rotate_left
 ·rw [if_pos (by omega), j0t]
 rw [if_neg (by omega), check3_p 398 a (by omega) (by omega), Option.bind_some]
 by_cases hc : chkR a = 0
 rotate_left
 ·rw [if_neg hc, j0t]
 rw [if_pos hc]
 by_cases p0 : p < 0
 ·rw [if_pos p0, j0t]
 rw [if_neg p0]
 by_cases p1 : 15 < p
 ·rw [decide_eq_true (by omega : p > 15), j0t]
 rw [decide_eq_false (by omega : ¬ p > 15)]
 obtain ⟨n, rfl⟩ := Int.eq_ofNat_of_zero_le (show 0 ≤ p by omega)
 have ha := chkR_ok.1 hc
 have hn : n ≤ 15 := by omega
 obtain ⟨b1, b0⟩ := num_bd (p := n) s1
 have hr := rnd_bd b0 ha.dp
 obtain ⟨q, hq⟩ : ∃ q, rndI (nv a.2.1 * 10 ^ n) (rden a) = q := ⟨_, rfl⟩
 have hqd : q = decQ a n := hq.symm
 rw [hq] at hr
 have bq : q < 256 ^ 24 := by
  have t15 : (10 : Int) ^ n ≤ 10 ^ 15 := by
   have := Nat.pow_le_pow_right (n := 10) (by decide) hn
   exact_mod_cast this
  have hv := size_pow s1
  have h3 := (nv_bd a.2.1).1
  have m1 := Int.mul_le_mul_of_nonneg_left t15 h3
  have m2 : nv a.2.1 * 10 ^ 15 ≤ 256 ^ 16 * 10 ^ 15 := Int.mul_le_mul_of_nonneg_right (Int.le_of_lt hv) (by decide)
  have m3 : (256 : Int) ^ 16 * 10 ^ 15 + 1 < 256 ^ 24 := by decide
  omega
 have zt := txt_size (n := false) hr.1 bq
 have zl : (decB a n).size ≤ 120 ∧ 0 < (decB a n).size := by
  obtain ⟨x, r, hx, -⟩ := head_list a n q
  have h4 := pad_size n (txtN false q)
  have h5 := dec_list a n q hqd (by omega) (by omega)
  rw [pad_list, sz_mk] at h4
  have h6 : (dotL n (padL n q)).length ≤ (padL n q).length + 1 := by
   unfold dotL
   split
   ·rw [List.length_append, List.length_cons, List.length_take, List.length_drop]
    omega
   ·omega
  rw [h5, sz_mk]
  constructor
  ·rw [List.length_append]
   split <;> simp <;> omega
  ·rw [hx]
   simp
 rw [show (400 : Nat) = 399 + 1 from rfl, gussetlaw03_RatNear.j0, if_neg (by decide), decimal_p n a ha (by omega) (by omega) (by omega) 399 (by omega), Option.bind_some]
 dsimp only
 have tn : ((decB a n).toList == ([] : List UInt8)) = false := beq_eq_false_iff_ne.2 (fun h => by have := tl_nil.1 h; omega)
 rw [if_pos rfl, tn, show (399 : Nat) = 398 + 1 from rfl, gussetlaw03_RatNear.j1, if_neg (by decide)]
 have hl := loop_n (398 - 1 - 2 * (decB a n).size) n (decB a n) a zl.2 (by omega) (decB a n).size 0 [] (by omega) (Nat.zero_le _)
 rw [List.drop_zero, fin_dec _ a n q hr.1 hqd (by omega) (by omega)] at hl
 have hj := near_j4 (398 - 1 - 2 * (decB a n).size - 14 - n) n a ha hn s1 s2 q hr.1 hqd bq
 rw [show 398 - 1 - 2 * (decB a n).size - 14 - n + 14 + n = 398 - 1 - 2 * (decB a n).size by omega] at hj
 rw [hj, show 398 - 1 - 2 * (decB a n).size + 1 + 2 * (decB a n).size = 398 by omega] at hl
 exact hl
theorem ratNear_c (a : RG) (p : Int) (wf : (Lit.int .i64 p).wf = true) (w : World) :
  Calls Tryz.prog 5 #[.agg #[.bool a.1, .string a.2.1, .string a.2.2], .int .i64 p] w fun e w' => e = .returned (.bool true) ∧ Below w.heap.size w w' :=
 gussetlaw03_RatNear.calls 400 _ _ _ _ true w (ratNear_p a p)
end Go.Proofs.YtoijlbcbbblbfaaGreatDoor
