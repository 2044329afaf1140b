import Derived.Test.YtoijlbcbbblbfaaGreatDoorZzVR
import Derived.Test.YtoijlbcbbblbfaaGreatDoorZzVP
import Derived.Test.YtoijlbcbbblbfaaGreatDoorZzV5
import Derived.Test.YtoijlbcbbblbfaaGreatDoorZzG8x1
namespace Go.Proofs.YtoijlbcbbblbfaaGreatDoor
open Go.RowKit Num Go.Proofs.YtoijlbcbbblbfaaGreatDoorH.R Go.Proofs.YtoijlbcbbblbfaaGreatDoorW.PrintWords
set_option linter.unusedVariables false
set_option linter.unusedSimpArgs false

/-! ### What is printed is read back -/
theorem dec_all : ∀ (V : Nat) (y : UInt8), y ∈ dec V → 48 ≤ y.toNat ∧ y.toNat ≤ 57 := by
 intro V
 induction V using Nat.strongRecOn with
 | ind V ih =>
  intro y hy
  rcases Nat.eq_zero_or_pos V with h | h
  ·rw [h, dec_zero] at hy; exact absurd hy (by simp)
  ·rw [dec_pos h] at hy
   rcases List.mem_append.1 hy with hy | hy
   ·exact ih (V / 10) (Nat.div_lt_self h (by decide)) y hy
   ·have e := List.mem_singleton.1 hy
    rw [e, ofNat_toNat_lt (by omega)]
    omega
theorem dv_app (l : List UInt8) (x : UInt8) : dv (l ++ [x]) = dv l * 10 + ((x.toNat : Int) - 48) := by
 unfold dv
 rw [List.foldl_append]
 rfl
theorem dv_dec : ∀ V : Nat, dv (dec V) = V := by
 intro V
 induction V using Nat.strongRecOn with
 | ind V ih =>
  rcases Nat.eq_zero_or_pos V with h | h
  ·rw [h, dec_zero]; rfl
  ·rw [dec_pos h, dv_app, ih (V / 10) (Nat.div_lt_self h (by decide)), ofNat_toNat_lt (by omega)]
   omega
theorem dec_head : ∀ V : Nat, 0 < V → ∃ x r, dec V = x :: r ∧ 49 ≤ x.toNat ∧ x.toNat ≤ 57 := by
 intro V
 induction V using Nat.strongRecOn with
 | ind V ih =>
  intro h
  rw [dec_pos h]
  rcases Nat.eq_zero_or_pos (V / 10) with h1 | h1
  ·rw [h1, dec_zero]
   exact ⟨_, [], rfl, by rw [ofNat_toNat_lt (by omega)]; omega, by rw [ofNat_toNat_lt (by omega)]; omega⟩
  ·obtain ⟨x, r, e, hx⟩ := ih (V / 10) (Nat.div_lt_self h (by decide)) h1
   rw [e]
   exact ⟨x, r ++ [_], rfl, hx⟩
theorem dec_ok {V : Nat} (h : 0 < V) (h60 : V < 10 ^ 60) : okS (dec V) = true := by
 obtain ⟨x, r, e, hx⟩ := dec_head V h
 exact okS_of (by rw [e]; simp) (decLen 60 V h60) fun j y _ hy => dec_all V y (List.mem_of_getElem? hy)
theorem dec_num {V : Nat} (h : 0 < V) (h60 : V < 10 ^ 60) (n : Bool) : numS (dec V) n = true := by
 obtain ⟨x, r, e, hx⟩ := dec_head V h
 refine numS_yes (dec_ok h h60) fun hh => ?_
 rw [e] at hh
 have : x = 48 := by simpa using hh.1
 rw [this] at hx
 exact absurd hx.1 (by decide)
theorem neg_dec {V : Nat} (h : 0 < V) : negS (dec V) = false ∧ restS (dec V) = dec V := by
 obtain ⟨x, r, e, hx⟩ := dec_head V h
 have hn : negS (dec V) = false := by
  rw [e]
  unfold negS Lib.hasPrefix
  simp only [List.isPrefixOf, Bool.and_true]
  exact beq_eq_false_iff_ne.mpr fun hh => by rw [← hh] at hx; exact absurd hx.1 (by decide)
 refine ⟨hn, ?_⟩
 unfold restS Lib.trimPrefix
 unfold negS at hn
 rw [hn]
 rfl
theorem pow24 : (256 : Nat) ^ 24 ≤ 10 ^ 60 := by decide
theorem parse_text {n : Bool} {s : ByteArray} (hok : okI n s) (hs : s.size ≤ 24) : parseV (textL n (nv s).toNat) = .tuple #[.agg #[.bool n, .string s], .int .i64 0] := by
 have h0 := (nv_bd s).1
 have h1 := size_pow hs
 obtain ⟨V, hV⟩ : ∃ V, (nv s).toNat = V := ⟨_, rfl⟩
 have hvv : nv s = (V : Int) := by omega
 have h60 : V < 10 ^ 60 := by
  have h2 : V < 256 ^ 24 := by
   have e : ((256 ^ 24 : Nat) : Int) = (256 : Int) ^ 24 := by rw [Int.natCast_pow]; rfl
   rw [hvv, ← e] at h1
   exact Int.ofNat_lt.1 h1
  exact Nat.lt_of_lt_of_le h2 pow24
 have hp := pv_ival hok
 have hput : putV (ival n s) = .agg #[.bool n, .string s] := by
  rw [putV_pv, hp]
  rfl
 rw [hV]
 rcases Nat.eq_zero_or_pos V with h | h
 ·have hn : n = false := by
   cases n with
   | false => rfl
   | true =>
    have h2 := hok.2.2 rfl
    have h3 := size_of_canon hok.2.1
    rw [hvv, h, show ((0 : Nat) : Int) = 0 from rfl, nb_zero] at h3
    omega
  subst hn
  have hi : ival false s = 0 := by unfold ival sgn; rw [hvv, h]; rfl
  rw [hi] at hput
  rw [← hput, h]
  rfl
 ·obtain ⟨g1, g2⟩ := neg_dec h
  cases n with
  | false =>
   have e : textL false V = dec V := by
    unfold textL
    rw [if_neg (by decide), if_neg (by omega)]
   rw [e, parseV_yes (by rw [g1, g2]; exact dec_num h h60 false), g1, g2, dv_dec, ← hvv, ← hput]
   rfl
  | true =>
   have e : textL true V = 45 :: dec V := by
    unfold textL
    rw [if_pos rfl]
   have e1 : negS (45 :: dec V) = true := rfl
   have e2 : restS (45 :: dec V) = dec V := rfl
   rw [e, parseV_yes (by rw [e1, e2]; exact dec_num h h60 true), e1, e2, dv_dec, ← hvv, ← hput]
   rfl
theorem parse_txt {n : Bool} {s : ByteArray} (hok : okI n s) (hs : s.size ≤ 24) : parseF (txtN n (nv s)) = ((n, s), 0) := by
 have h1 := parse_text hok hs
 have h2 := parseF_V (txtN n (nv s))
 have e : (txtN n (nv s)).data.toList = textL n (nv s).toNat := rfl
 rw [e, h1] at h2
 simp only [Value.tuple.injEq, Array.mk.injEq, List.cons.injEq, Value.agg.injEq, Value.bool.injEq, Value.string.injEq, Value.int.injEq, and_true, true_and] at h2
 obtain ⟨⟨h3, h4⟩, h5⟩ := h2
 exact Prod.ext (Prod.ext h3.symm h4.symm) h5.symm
theorem text_no {n : Bool} {V : Nat} {y : UInt8} (h : y ∈ textL n V) : y ≠ 47 := by
 have key : ∀ z : UInt8, z ∈ dec V → z ≠ 47 := by
  rintro z hz rfl
  have := (dec_all V 47 hz).1
  exact absurd this (by decide)
 unfold textL at h
 split at h
 ·rcases List.mem_cons.1 h with h | h
  ·rw [h]; decide
  ·exact key y h
 ·split at h
  ·rw [List.mem_singleton.1 h]; decide
  ·exact key y h
theorem idx_no : ∀ {l : List UInt8}, (∀ y ∈ l, y ≠ 47) → Lib.indexByte l 47 = -1 ∧ ∀ m, Lib.indexByte (l ++ 47 :: m) 47 = l.length := by
 intro l
 induction l with
 | nil => intro _; exact ⟨rfl, fun m => rfl⟩
 | cons b l ih =>
  intro h
  have hb : (b == 47) = false := beq_eq_false_iff_ne.2 (h b (List.mem_cons_self ..))
  obtain ⟨i1, i2⟩ := ih (fun y hy => h y (List.mem_cons_of_mem _ hy))
  refine ⟨?_, fun m => ?_⟩
  ·unfold Lib.indexByte
   rw [hb, i1]
   rfl
  ·rw [List.cons_append]
   unfold Lib.indexByte
   rw [hb, i2 m, List.length_cons, if_neg (by decide), if_neg (by rw [beq_iff_eq]; omega)]
   omega
/-- What Print tells. -/
def prB (a : RG) : ByteArray := if a.2.2.toList = ([1] : List UInt8) then txtN a.1 (nv a.2.1) else txtN a.1 (nv a.2.1) ++ (⟨#[47]⟩ : ByteArray) ++ txtN false (nv a.2.2)
theorem print_p (k : Nat) (a : RG) (ha : okR a) (h1 : a.2.1.size ≤ 120) (h2 : a.2.2.size ≤ 120) : rat_Print.f (k + 2) a.1 a.2.1 a.2.2 = some (prB a, 0) := by
 unfold rat_Print.f prB
 rw [check_p k a (by omega) (by omega), Option.bind_some, if_pos (chkR_ok.2 ha), prt_p ha.kn (by omega), Option.bind_some]
 dsimp only
 by_cases c : a.2.2.toList = ([1] : List UInt8)
 ·rw [if_pos c, if_pos c]
 ·have e : rat_den.f a.1 a.2.1 a.2.2 = some (false, a.2.2) := rfl
  rw [if_neg c, if_neg c, e, Option.bind_some]
  dsimp only
  rw [prt_p ha.kd (by omega), Option.bind_some]
  dsimp only
  have z1 := txt_size (n := a.1) (k := 120) (nv_bd a.2.1).1 (size_pow h1)
  have z2 := txt_size (n := false) (k := 120) (nv_bd a.2.2).1 (size_pow h2)
  have z3 : (txtN a.1 (nv a.2.1) ++ (⟨#[47]⟩ : ByteArray)).size = (txtN a.1 (nv a.2.1)).size + 1 := ByteArray.size_append
  rw [if_pos (by omega), if_pos (by omega)]
theorem text3_p (a : RG) (ha : okR a) (h1 : a.2.1.size ≤ 120) (h2 : a.2.2.size ≤ 120) : gussetref03_Text.f a.1 a.2.1 a.2.2 = some (prB a) := by
 have t : ∀ {n : Bool} {s : ByteArray}, okI n s → s.size ≤ 120 → gussetref02_Text.f n s = some (txtN n (nv s)) := by
  intro n s hk hs
  unfold gussetref02_Text.f
  rw [if_pos ⟨by omega, chk_ok.2 hk⟩]
  rfl
 unfold gussetref03_Text.f prB
 rw [t ha.kn h1, Option.bind_some]
 by_cases c : a.2.2.toList = ([1] : List UInt8)
 ·rw [if_pos c, if_pos c]
 ·have e : gussetref03_den.f a.1 a.2.1 a.2.2 = some (false, a.2.2) := rfl
  have z1 := txt_size (n := a.1) (k := 120) (nv_bd a.2.1).1 (size_pow h1)
  have z2 := txt_size (n := false) (k := 120) (nv_bd a.2.2).1 (size_pow h2)
  have z3 : (txtN a.1 (nv a.2.1) ++ (⟨#[47]⟩ : ByteArray)).size = (txtN a.1 (nv a.2.1)).size + 1 := ByteArray.size_append
  rw [if_neg c, if_neg c, if_pos (by omega), e, Option.bind_some]
  dsimp only
  rw [t ha.kd h2, Option.bind_some, if_pos (by omega)]
theorem pr_size (a : RG) (h1 : a.2.1.size ≤ 120) (h2 : a.2.2.size ≤ 120) : (prB a).size ≤ 1000 := by
 have z1 := txt_size (n := a.1) (k := 120) (nv_bd a.2.1).1 (size_pow h1)
 have z2 := txt_size (n := false) (k := 120) (nv_bd a.2.2).1 (size_pow h2)
 unfold prB
 split
 ·omega
 ·rw [ByteArray.size_append, ByteArray.size_append]
  have : (⟨#[47]⟩ : ByteArray).size = 1 := rfl
  omega
theorem back_p (a : RG) (ha : okR a) (h1 : a.2.1.size ≤ 24) (h2 : a.2.2.size ≤ 24) : ratP (prB a) = (a.1, a.2.1, a.2.2, 0) := by
 obtain ⟨i1, i2⟩ := idx_no (l := textL a.1 (nv a.2.1).toNat) (fun y hy => text_no hy)
 have p1 := parse_txt ha.kn h1
 have p2 := parse_txt ha.kd h2
 unfold prB
 by_cases c : a.2.2.toList = ([1] : List UInt8)
 ·have e : idxB (txtN a.1 (nv a.2.1)) = -1 := i1
  rw [if_pos c]
  unfold ratP
  rw [e, if_pos (by decide)]
  unfold wholeP
  rw [p1, if_pos rfl, tl_iff.1 c]
 ·rw [if_neg c]
  obtain ⟨l1, hl1⟩ : ∃ l, textL a.1 (nv a.2.1).toNat = l := ⟨_, rfl⟩
  obtain ⟨l2, hl2⟩ : ∃ l, textL false (nv a.2.2).toNat = l := ⟨_, rfl⟩
  have et : txtN a.1 (nv a.2.1) = ⟨l1.toArray⟩ := by unfold txtN; rw [hl1]
  have eb : txtN false (nv a.2.2) = ⟨l2.toArray⟩ := by unfold txtN; rw [hl2]
  have es : (⟨l1.toArray⟩ ++ (⟨#[47]⟩ : ByteArray) ++ ⟨l2.toArray⟩ : ByteArray) = ⟨(l1 ++ 47 :: l2).toArray⟩ := by
   apply ByteArray.ext
   simp
  rw [hl1] at i2
  have e : idxB (⟨(l1 ++ 47 :: l2).toArray⟩ : ByteArray) = (l1.length : Int) := i2 l2
  have x1 : (⟨(l1 ++ 47 :: l2).toArray⟩ : ByteArray).extract 0 l1.length = ⟨l1.toArray⟩ := by
   apply ByteArray.ext
   rw [ByteArray.data_extract]
   simp
  have x2 : (⟨(l1 ++ 47 :: l2).toArray⟩ : ByteArray).extract (l1.length + 1) (⟨(l1 ++ 47 :: l2).toArray⟩ : ByteArray).size = ⟨l2.toArray⟩ := by
   apply ByteArray.ext
   rw [ByteArray.data_extract]
   simp [ByteArray.size]
   exact List.take_of_length_le (by omega)
  rw [et] at p1
  rw [eb] at p2
  rw [et, eb, es]
  unfold ratP
  rw [e, if_neg (by omega), Int.toNat_natCast, show ((l1.length : Int) + 1).toNat = l1.length + 1 by omega, x1, x2]
  unfold quotP
  rw [p1, p2]
  dsimp only
  rw [if_pos ⟨rfl, rfl, by decide, ha.nz⟩]
  have eq : Rat.divInt (ival a.1 a.2.1) (ival false a.2.2) = rq a := rfl
  rw [eq, pq_rq ha]
theorem ratPrints_p (a : RG) : gussetlaw03_RatPrints.f 30 a.1 a.2.1 a.2.2 = some true := by
 have j0t : ∀ a0 a1 a2, gussetlaw03_RatPrints.j0 30 true a0 a1 a2 = some true := by
  intro a0 a1 a2
  rw [show (30 : Nat) = 29 + 1 from rfl, gussetlaw03_RatPrints.j0, if_pos rfl, live_s 17]
  rfl
 unfold gussetlaw03_RatPrints.f
 by_cases s1 : a.2.1.size ≤ 24
 rotate_left
 ·rw [if_pos (by omega), j0t]
 rw [if_neg (by omega)]
 by_cases s2 : a.2.2.size ≤ 24
 rotate_left
 ·rw [if_pos (by omega), j0t]
 rw [if_neg (by omega), check3_p 28 a (by omega) (by omega), Option.bind_some]
 by_cases hc : chkR a = 0
 rotate_left
 ·rw [bne_iff_ne.2 hc, j0t]
 have ha := chkR_ok.1 hc
 have hz := pr_size a (by omega) (by omega)
 rw [bne_eq_false_iff_eq.2 hc, show (30 : Nat) = 29 + 1 from rfl, gussetlaw03_RatPrints.j0, if_neg (by decide), print_p 27 a ha (by omega) (by omega), Option.bind_some]
 dsimp only
 rw [parse_p 27 _ (by omega), Option.bind_some, back_p a ha s1 s2, if_pos rfl, text3_p a ha (by omega) (by omega), Option.bind_some, if_pos rfl, if_pos rfl, if_pos (by simp), live_s 17]
 rfl
theorem ratPrints_c (a : RG) (w : World) :
  Calls Tryz.prog 12 #[.agg #[.bool a.1, .string a.2.1, .string a.2.2]] w fun e w' => e = .returned (.bool true) ∧ Below w.heap.size w w' :=
 gussetlaw03_RatPrints.calls 30 _ _ _ true w (ratPrints_p a)
end Go.Proofs.YtoijlbcbbblbfaaGreatDoor
