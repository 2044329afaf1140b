import Derived.Test.YtoijlbcbbblbfaaGreatDoorZzV3
import Derived.Test.YtoijlbcbbblbfaaGreatDoorZzG8x0
namespace Go.Proofs.YtoijlbcbbblbfaaGreatDoor
open Go.RowKit Num Go.Proofs.YtoijlbcbbblbfaaGreatDoorH.R Go.Proofs.YtoijlbcbbblbfaaGreatDoorW.PrintWords
set_option linter.unusedVariables false
set_option linter.unusedSimpArgs false

set_option maxRecDepth 100000 in
theorem live_s (k : Nat) : gussetlaw03_live.f (k + 12) = some true := by kernel_rfl
/-! ### Numbers read -/
theorem dvb {d : List UInt8} (h : okS d = true) : ∀ k, k ≤ d.length → 0 ≤ dv (d.take k) ∧ dv (d.take k) < 10 ^ k := by
 intro k
 induction k with
 | zero => intro _; rw [List.take_zero]; decide
 | succ k ih =>
  intro hk
  obtain ⟨x, hx⟩ : ∃ x, d[k]? = some x := ⟨_, List.getElem?_eq_getElem hk⟩
  have hd := dig_of h hx
  have hi := ih (by omega)
  rw [dv_take hx, Int.pow_succ]
  generalize (10 : Int) ^ k = u at *
  omega
theorem parse_s (s : ByteArray) : ((parseF s).2 = 0 ∧ ∃ v : Int, (parseF s).1 = pv v ∧ (v.natAbs : Int) < 256 ^ 25) ∨ ((parseF s).2 = 4 ∧ (parseF s).1 = no0) := by
 unfold parseF
 by_cases h : numS (restS s.data.toList) (negS s.data.toList) = true
 ·rw [if_pos h]
  have ho : okS (restS s.data.toList) = true := by
   unfold numS at h
   rw [Bool.and_eq_true] at h
   exact h.1
  have hb := dvb ho _ (Nat.le_refl _)
  rw [List.take_length] at hb
  have hl := (okS_len ho).2
  refine .inl ⟨rfl, _, rfl, ?_⟩
  have h1 : (10 : Int) ^ (restS s.data.toList).length ≤ 10 ^ 60 := by
   have := Nat.pow_le_pow_right (n := 10) (by decide) hl
   exact_mod_cast this
  have h2 : (10 : Int) ^ 60 < 256 ^ 25 := by decide
  have h3 : ((sgn (negS s.data.toList) (dv (restS s.data.toList))).natAbs : Int) = dv (restS s.data.toList) := sgn_abs hb.1
  omega
 ·rw [if_neg h]
  exact .inr ⟨rfl, rfl⟩
def bnor (e : Int) : Bool × ByteArray × ByteArray × Int := (false, ⟨#[]⟩, ⟨#[]⟩, e)
def idxB (s : ByteArray) : Int := Lib.indexByte s.data.toList 47
def wholeP (s : ByteArray) : Bool × ByteArray × ByteArray × Int := if (parseF s).2 = 0 then ((parseF s).1.1, (parseF s).1.2, ⟨#[1]⟩, 0) else bnor (parseF s).2
def quotP (t b : ByteArray) : Bool × ByteArray × ByteArray × Int :=
 if (parseF t).2 = 0 ∧ (parseF b).2 = 0 ∧ (parseF b).1.1 ≠ true ∧ (parseF b).1.2.size ≠ 0 then ((pq (Rat.divInt (ival (parseF t).1.1 (parseF t).1.2) (ival (parseF b).1.1 (parseF b).1.2))).1, (pq (Rat.divInt (ival (parseF t).1.1 (parseF t).1.2) (ival (parseF b).1.1 (parseF b).1.2))).2.1, (pq (Rat.divInt (ival (parseF t).1.1 (parseF t).1.2) (ival (parseF b).1.1 (parseF b).1.2))).2.2, 0) else bnor 4
def ratP (s : ByteArray) : Bool × ByteArray × ByteArray × Int := if idxB s < 0 then wholeP s else quotP (s.extract 0 (idxB s).toNat) (s.extract (idxB s + 1).toNat s.size)
theorem pf_ok {s : ByteArray} (h : (parseF s).2 = 0) : okI (parseF s).1.1 (parseF s).1.2 ∧ (parseF s).1.2.size ≤ 25 := by
 rcases parse_s s with ⟨-, v, hv, hb⟩ | ⟨h4, -⟩
 ·rw [hv]
  have := size_pv hb
  exact ⟨okI_pv (by omega), this⟩
 ·omega
theorem pf_nz {s : ByteArray} (h : (parseF s).2 = 0) (hz : (parseF s).1.2.size ≠ 0) : ival (parseF s).1.1 (parseF s).1.2 ≠ 0 := by
 have hk := (pf_ok h).1
 have := nv_pos hk.2.1 (Nat.pos_of_ne_zero hz)
 unfold ival sgn
 split <;> omega
theorem pf_err {s : ByteArray} (h : (parseF s).2 ≠ 0) : (parseF s).2 = 4 := by
 rcases parse_s s with ⟨h0, -⟩ | ⟨h4, -⟩
 ·exact absurd h0 h
 ·exact h4
theorem idx_lt (c : UInt8) : ∀ l : List UInt8, Lib.indexByte l c < l.length := by
 intro l
 induction l with
 | nil => show (-1 : Int) < 0; decide
 | cons b l ih =>
  unfold Lib.indexByte
  rw [List.length_cons]
  split
  ·omega
  ·split <;> omega
theorem quot_c (k : Nat) (t b : ByteArray) :
  (whole_Parse.f t).bind (fun bt702 => if bt702.2.2 = 0 then (if true = true then ((whole_Parse.f b).bind fun bt706 => (if bt706.2.2 = 0 then (if bt706.1 = true then (rat_Parse.j0 (k + 2) true bt702.1 bt702.2.1 bt706.1 bt706.2.1) else (rat_Parse.j0 (k + 2) (bt706.2.1.toList == ([] : List UInt8)) bt702.1 bt702.2.1 bt706.1 bt706.2.1)) else (rat_Parse.j0 (k + 2) true bt702.1 bt702.2.1 bt706.1 bt706.2.1))) else (some (bt702.1, bt702.2.1, (⟨#[1]⟩ : ByteArray), 0))) else (some (false, (⟨#[]⟩ : ByteArray), (⟨#[]⟩ : ByteArray), bt702.2.2))) = some (quotP t b) := by
 have et : whole_Parse.f t = some ((parseF t).1.1, (parseF t).1.2, (parseF t).2) := rfl
 have eb : whole_Parse.f b = some ((parseF b).1.1, (parseF b).1.2, (parseF b).2) := rfl
 have jt : ∀ x1 x2 x3 x4, rat_Parse.j0 (k + 2) true x1 x2 x3 x4 = some (bnor 4) := fun _ _ _ _ => rfl
 rw [et, Option.bind_some]
 dsimp only
 unfold quotP
 by_cases h1 : (parseF t).2 = 0
 ·rw [if_pos h1, if_pos rfl, eb, Option.bind_some]
  dsimp only
  by_cases h2 : (parseF b).2 = 0
  ·rw [if_pos h2]
   by_cases h3 : (parseF b).1.1 = true
   ·rw [if_pos h3, jt, if_neg (fun h => h.2.2.1 h3)]
   ·rw [if_neg h3]
    by_cases h4 : (parseF b).1.2.size = 0
    ·rw [beq_iff_eq.2 (tl_nil.2 h4), jt, if_neg (fun h => h.2.2.2 h4)]
    ·have hl := low_p k (parseF t).1 (parseF b).1 (pf_ok h1).1 (pf_ok h2).1 (by have := (pf_ok h1).2; omega) (by have := (pf_ok h2).2; omega) (pf_nz h2 h4)
     rw [beq_eq_false_iff_ne.2 (fun hc => h4 (tl_nil.1 hc)), show k + 2 = (k + 1) + 1 from rfl, rat_Parse.j0, if_neg (by decide), hl, Option.bind_some, if_pos ⟨h1, h2, h3, h4⟩]
  ·rw [if_neg h2, jt, if_neg (fun h => h2 h.2.1)]
 ·rw [if_neg h1, if_neg (fun h => h1 h.1), pf_err h1]
  rfl
theorem parse_p (k : Nat) (s : ByteArray) (hs : s.size ≤ 9223372036854775807) : rat_Parse.f (k + 2) s = some (ratP s) := by
 have hi := idx_lt 47 s.data.toList
 have hg := Lib.indexByte_ge s.data.toList 47
 have hl : s.data.toList.length = s.size := rfl
 have e1 : stringslite_Index.f s ⟨#[47]⟩ = some (idxB s) := rfl
 have hib : Lib.indexByte s.data.toList 47 = idxB s := rfl
 rw [hib, hl] at hi
 rw [hib] at hg
 have sz1 : (⟨#[47]⟩ : ByteArray).size = 1 := rfl
 unfold rat_Parse.f strings_Cut.f stringslite_Cut.f
 rw [e1, Option.bind_some, sz1]
 unfold ratP
 by_cases h : idxB s < 0
 ·rw [if_neg (by omega), Option.bind_some, Option.bind_some, if_pos h]
  dsimp only
  have es : whole_Parse.f s = some ((parseF s).1.1, (parseF s).1.2, (parseF s).2) := rfl
  rw [es, Option.bind_some]
  dsimp only
  unfold wholeP
  by_cases h1 : (parseF s).2 = 0
  ·rw [if_pos h1, if_neg (by decide), if_pos h1]
  ·rw [if_neg h1, if_neg h1]
   rfl
 ·have hw : wrap64 (idxB s + ((1 : Nat) : Int)) = idxB s + 1 := by unfold wrap64; omega
  rw [hw, if_pos (by omega), if_pos (by omega), if_pos (by omega), if_pos (by omega), if_pos (by omega), Option.bind_some, Option.bind_some, if_neg h]
  exact quot_c k _ _
/-! ### The document's Parse -/
theorem quot_r (k : Nat) (t b : ByteArray) :
  (gussetref02_Parse.f t).bind (fun bt735 => (gussetref02_Parse.f b).bind fun bt739 => (if bt735.2.2 = 0 then (if bt739.2.2 = 0 then (if bt739.1 = true then (gussetref03_Parse.j2 (k + 1) true bt735.1 bt735.2.1 bt739.1 bt739.2.1) else (gussetref03_Parse.j2 (k + 1) (bt739.2.1.toList == ([] : List UInt8)) bt735.1 bt735.2.1 bt739.1 bt739.2.1)) else (gussetref03_Parse.j2 (k + 1) true bt735.1 bt735.2.1 bt739.1 bt739.2.1)) else (gussetref03_Parse.j2 (k + 1) true bt735.1 bt735.2.1 bt739.1 bt739.2.1))) = some (quotP t b) := by
 have et : gussetref02_Parse.f t = some ((parseF t).1.1, (parseF t).1.2, (parseF t).2) := rfl
 have eb : gussetref02_Parse.f b = some ((parseF b).1.1, (parseF b).1.2, (parseF b).2) := rfl
 have jt : ∀ x1 x2 x3 x4, gussetref03_Parse.j2 (k + 1) true x1 x2 x3 x4 = some (bnor 4) := fun _ _ _ _ => rfl
 rw [et, Option.bind_some, eb, Option.bind_some]
 dsimp only
 unfold quotP
 by_cases h1 : (parseF t).2 = 0
 ·rw [if_pos h1]
  by_cases h2 : (parseF b).2 = 0
  ·rw [if_pos h2]
   by_cases h3 : (parseF b).1.1 = true
   ·rw [if_pos h3, jt, if_neg (fun h => h.2.2.1 h3)]
   ·rw [if_neg h3]
    by_cases h4 : (parseF b).1.2.size = 0
    ·rw [beq_iff_eq.2 (tl_nil.2 h4), jt, if_neg (fun h => h.2.2.2 h4)]
    ·have hl : gussetref03_Lowest.f (parseF t).1.1 (parseF t).1.2 (parseF b).1.1 (parseF b).1.2 = some (pq (Rat.divInt (ival (parseF t).1.1 (parseF t).1.2) (ival (parseF b).1.1 (parseF b).1.2))) := by
      unfold gussetref03_Lowest.f
      rw [if_pos ⟨by have := (pf_ok h1).2; omega, by have := (pf_ok h2).2; omega, chk_ok.2 (pf_ok h1).1, chk_ok.2 (pf_ok h2).1, pf_nz h2 h4⟩]
     rw [beq_eq_false_iff_ne.2 (fun hc => h4 (tl_nil.1 hc)), gussetref03_Parse.j2, if_neg (by decide), hl, Option.bind_some, if_pos ⟨h1, h2, h3, h4⟩]
  ·rw [if_neg h2, jt, if_neg (fun h => h2 h.2.1)]
 ·rw [if_neg h1, jt, if_neg (fun h => h1 h.1)]
theorem bt_get {s : ByteArray} {i : Nat} {b : UInt8} {l : List UInt8} (h : s.data.toList.drop i = b :: l) : bt s (i : Int) = b.toNat ∧ i < s.size ∧ s.data.toList.drop (i + 1) = l := by
 have hlen : s.data.toList.length = s.size := rfl
 have h1 : i < s.size := by
  have := congrArg List.length h
  rw [List.length_drop, List.length_cons, hlen] at this
  omega
 have h2 : s.data.toList[i]? = some b := by
  have := congrArg (fun z => z[0]?) h
  simpa [List.getElem?_drop] using this
 refine ⟨?_, h1, ?_⟩
 ·unfold bt
  rw [Int.toNat_natCast, dif_pos h1]
  have h3 : s[i]'h1 = b := by
   have h4 : s.data.toList[i]'(by rw [hlen]; exact h1) = b := by
    rw [List.getElem?_eq_getElem (by rw [hlen]; exact h1)] at h2
    exact Option.some.inj h2
   rw [← h4]
   rfl
  rw [h3]
 ·rw [← List.tail_drop, h]
  rfl
theorem end_r (k : Nat) (s : ByteArray) (hs : s.size ≤ 9223372036854775807) (at_ : Int) (hat : at_ = idxB s) (i : Int) (hi : ¬ i < (s.size : Int)) : gussetref03_Parse.l0 (k + 2) s at_ i = some (ratP s) := by
 have hl : s.data.toList.length = s.size := rfl
 have hi2 := idx_lt 47 s.data.toList
 have hib : Lib.indexByte s.data.toList 47 = idxB s := rfl
 rw [hib, hl] at hi2
 subst hat
 rw [show k + 2 = (k + 1) + 1 from rfl, gussetref03_Parse.l0, if_neg hi]
 unfold ratP
 by_cases h : idxB s < 0
 ·have es : gussetref02_Parse.f s = some ((parseF s).1.1, (parseF s).1.2, (parseF s).2) := rfl
  rw [if_pos h, if_pos h, es, Option.bind_some]
  dsimp only
  unfold wholeP
  by_cases h1 : (parseF s).2 = 0
  ·rw [if_pos h1, if_pos h1]
  ·rw [if_neg h1, if_neg h1]
   rfl
 ·have hw : wrap64 (idxB s + 1) = idxB s + 1 := by unfold wrap64; omega
  have c1 : 0 ≤ idxB s + 1 := by omega
  have c2 : idxB s + 1 ≤ (s.size : Int) := by omega
  rw [if_neg h, if_neg h, if_pos (by omega), if_pos (by omega)]
  simp only [hw, if_pos c1, if_pos c2]
  exact quot_r k _ _
theorem loop2 (s : ByteArray) (hs : s.size ≤ 9223372036854775807) (h0 : 0 ≤ idxB s) : ∀ (r i k : Nat), i + r = s.size → gussetref03_Parse.l0 (k + 2 + 2 * r) s (idxB s) i = some (ratP s) := by
 intro r
 induction r with
 | zero => intro i k hi; exact end_r k s hs _ rfl _ (by omega)
 | succ r ih =>
  intro i k hi
  have hw : wrap64 ((i : Int) + 1) = ((i + 1 : Nat) : Int) := by unfold wrap64; omega
  have step : ∀ x, gussetref03_Parse.j1 (k + 2 + 2 * r + 1) s (idxB s) i x = if x = true then gussetref03_Parse.l0 (k + 2 + 2 * r) s i ((i + 1 : Nat) : Int) else gussetref03_Parse.l0 (k + 2 + 2 * r) s (idxB s) ((i + 1 : Nat) : Int) := by
   intro x
   rw [gussetref03_Parse.j1, hw]
  rw [show k + 2 + 2 * (r + 1) = (k + 2 + 2 * r + 1) + 1 by omega, gussetref03_Parse.l0, if_pos (by omega), if_pos (by omega), decide_eq_false (by omega : ¬ idxB s < 0)]
  by_cases hb : bt s (i : Int) = 47
  ·rw [if_pos hb, step, if_neg (by decide)]
   exact ih (i + 1) k (by omega)
  ·rw [if_neg hb, step, if_neg (by decide)]
   exact ih (i + 1) k (by omega)
theorem loop1 (s : ByteArray) (hs : s.size ≤ 9223372036854775807) : ∀ (r i k : Nat), i + r = s.size →
  idxB s = (if Lib.indexByte (s.data.toList.drop i) 47 = -1 then -1 else Lib.indexByte (s.data.toList.drop i) 47 + i) → gussetref03_Parse.l0 (k + 2 + 2 * r) s (-1) i = some (ratP s) := by
 have hl : s.data.toList.length = s.size := rfl
 intro r
 induction r with
 | zero =>
  intro i k hi hx
  rw [List.drop_of_length_le (by omega), if_pos (show Lib.indexByte [] 47 = -1 from rfl)] at hx
  exact end_r k s hs _ hx.symm _ (by omega)
 | succ r ih =>
  intro i k hi hx
  obtain ⟨b, l, hb⟩ : ∃ b l, s.data.toList.drop i = b :: l := by
   cases h : s.data.toList.drop i with
   | nil =>
    have := congrArg List.length h
    rw [List.length_drop, hl] at this
    simp at this
    omega
   | cons b l => exact ⟨b, l, rfl⟩
  obtain ⟨e1, e2, e3⟩ := bt_get hb
  have hw : wrap64 ((i : Int) + 1) = ((i + 1 : Nat) : Int) := by unfold wrap64; omega
  rw [hb] at hx
  rw [show k + 2 + 2 * (r + 1) = (k + 2 + 2 * r + 1) + 1 by omega, gussetref03_Parse.l0, if_pos (by omega), if_pos (by omega), e1]
  by_cases hc : b = 47
  ·subst hc
   have hx0 : Lib.indexByte (47 :: l) 47 = 0 := by unfold Lib.indexByte; rfl
   rw [hx0, if_neg (by decide)] at hx
   rw [if_pos (by decide), show decide ((-1 : Int) < 0) = true from rfl, gussetref03_Parse.j1, if_pos rfl, hw, show (i : Int) = idxB s by omega]
   exact loop2 s hs (by omega) r (i + 1) k (by omega)
  ·have hn : ¬ ((b.toNat : Nat) : Int) = 47 := by
    intro h
    apply hc
    have : b.toNat = (47 : UInt8).toNat := by
     have e : (47 : UInt8).toNat = 47 := rfl
     omega
    exact UInt8.toNat_inj.1 this
   have hx1 : Lib.indexByte (b :: l) 47 = if Lib.indexByte l 47 = -1 then -1 else Lib.indexByte l 47 + 1 := by
    conv => lhs; unfold Lib.indexByte
    rw [if_neg (by rw [beq_iff_eq]; exact hc)]
    by_cases h1 : Lib.indexByte l 47 = -1
    ·rw [if_pos h1, if_pos (beq_iff_eq.2 h1)]
    ·rw [if_neg h1, if_neg (fun h => h1 (beq_iff_eq.1 h))]
   have hg := Lib.indexByte_ge l 47
   rw [if_neg hn, gussetref03_Parse.j1, if_neg (by decide), hw]
   refine ih (i + 1) k (by omega) ?_
   rw [e3, hx, hx1]
   by_cases h1 : Lib.indexByte l 47 = -1
   ·simp only [if_pos h1]
    rfl
   ·have h2 : ¬ Lib.indexByte l 47 + 1 = -1 := by omega
    simp only [if_neg h1, if_neg h2]
    omega
theorem parse3_p (k : Nat) (s : ByteArray) (hs : s.size ≤ 9223372036854775807) : gussetref03_Parse.f (k + 2 + 2 * s.size) s = some (ratP s) := by
 unfold gussetref03_Parse.f
 have hg := Lib.indexByte_ge s.data.toList 47
 refine loop1 s hs s.size 0 k (by omega) ?_
 rw [List.drop_zero]
 have e : idxB s = Lib.indexByte s.data.toList 47 := rfl
 rw [e]
 split
 ·assumption
 ·omega
theorem ratReads_p (s : ByteArray) (hs : s.size ≤ 9223372036854775807) : gussetlaw03_RatReads.f (12 + 2 + 2 * s.size) s = some true := by
 unfold gussetlaw03_RatReads.f
 rw [show 12 + 2 + 2 * s.size = (12 + 2 * s.size) + 2 by omega, parse_p _ s hs, Option.bind_some, show (12 + 2 * s.size) + 2 = 12 + 2 + 2 * s.size by omega, parse3_p 12 s hs, Option.bind_some, if_pos (by simp), if_pos rfl, show 12 + 2 + 2 * s.size = (2 + 2 * s.size) + 12 by omega, live_s]
 rfl
theorem ratReads_c (s : ByteArray) (hs : s.size ≤ 9223372036854775807) (w : World) :
  Calls Tryz.prog 11 #[.string s] w fun e w' => e = .returned (.bool true) ∧ Below w.heap.size w w' :=
 gussetlaw03_RatReads.calls (12 + 2 + 2 * s.size) _ true w (ratReads_p s hs)
end Go.Proofs.YtoijlbcbbblbfaaGreatDoor
