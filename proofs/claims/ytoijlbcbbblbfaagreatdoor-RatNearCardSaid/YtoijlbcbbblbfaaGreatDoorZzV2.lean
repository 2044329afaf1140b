import Derived.Test.YtoijlbcbbblbfaaGreatDoorZzG0x0
import Derived.Test.YtoijlbcbbblbfaaGreatDoorZzG0x1
namespace Go.Proofs.YtoijlbcbbblbfaaGreatDoor
open Go.RowKit Num Go.Proofs.YtoijlbcbbblbfaaGreatDoorH.R
set_option linter.unusedVariables false
set_option linter.unusedSimpArgs false

theorem chkS {n : Bool} {s : ByteArray} : whole_Check.f n s = some (chk n s) := rfl
theorem gcdS {a b : Bool × ByteArray} (ha : okI a.1 a.2) (hb : okI b.1 b.2) (h1 : a.2.size ≤ 15000) (h2 : b.2.size ≤ 15000) :
  whole_Gcd.f a.1 a.2 b.1 b.2 = some (false, (pv ((Int.gcd (ival a.1 a.2) (ival b.1 b.2) : Nat) : Int)).2, 0) := by
 unfold whole_Gcd.f gcdF
 rw [if_pos ⟨h1, h2⟩, if_neg (fun hc => hc (bad2_ok.2 ⟨ha, hb⟩)), pv_neg1 (by omega)]
theorem divS {a b : Bool × ByteArray} (ha : okI a.1 a.2) (hb : okI b.1 b.2) (h1 : a.2.size ≤ 15000) (h2 : b.2.size ≤ 15000) (h0 : ival b.1 b.2 ≠ 0) :
  whole_Div.f a.1 a.2 b.1 b.2 = some ((pv (ival a.1 a.2 / ival b.1 b.2)).1, (pv (ival a.1 a.2 / ival b.1 b.2)).2, (pv (ival a.1 a.2 % ival b.1 b.2)).1, (pv (ival a.1 a.2 % ival b.1 b.2)).2, 0) := by
 unfold whole_Div.f quoF
 have h3 : ¬ nv b.2 = 0 := fun hc => h0 (by unfold ival sgn; split <;> omega)
 simp only [if_pos (And.intro h1 h2), if_neg (fun hc => hc (bad2_ok.2 ⟨ha, hb⟩) : ¬ bad2 a.1 a.2 b.1 b.2 ≠ 0), if_neg h3]
theorem binS {f : Int → Int → Int} {a b : Bool × ByteArray} (ha : okI a.1 a.2) (hb : okI b.1 b.2) : binF f a b = (pv (f (ival a.1 a.2) (ival b.1 b.2)), 0) := binF_ok (bad2_ok.2 ⟨ha, hb⟩)
theorem mulS {a b : Bool × ByteArray} (ha : okI a.1 a.2) (hb : okI b.1 b.2) (h1 : a.2.size ≤ 15000) (h2 : b.2.size ≤ 15000) :
  rat_do_of_whole_Mul.f a.1 a.2 b.1 b.2 = some ((pv (ival a.1 a.2 * ival b.1 b.2)).1, (pv (ival a.1 a.2 * ival b.1 b.2)).2) := by
 unfold rat_do_of_whole_Mul.f whole_Mul.f
 rw [if_pos ⟨h1, h2⟩, binS ha hb]
 rfl
theorem check_p (k : Nat) (a : RG) (h1 : a.2.1.size ≤ 15000) (h2 : a.2.2.size ≤ 15000) : rat_Check.f (k + 2) a.1 a.2.1 a.2.2 = some (chkR a) := by
 obtain ⟨a0, a1, a2⟩ := a
 simp only at h1 h2
 unfold rat_Check.f chkR
 simp only
 by_cases c1 : 8000 < a1.size
 ·rw [if_pos (by omega), if_pos (.inl c1)]
  rfl
 ·rw [if_neg (by omega)]
  by_cases c2 : 8000 < a2.size
  ·rw [if_pos (.inr c2)]
   simp only [rat_Check.j0]
   rw [if_pos (decide_eq_true (by omega))]
  ·rw [if_neg (by omega)]
   simp only [rat_Check.j0, chkS, Option.bind_some, rat_den.f]
   rw [if_neg (by rw [decide_eq_false (by omega)]; decide)]
   by_cases d1 : chk a0 a1 = 0
   ·by_cases d2 : chk false a2 = 0
    ·rw [if_pos d1, if_pos d2]
     simp only [rat_Check.j1, rat_den.f, Option.bind_some]
     by_cases d3 : a2.size = 0
     ·rw [if_pos (by rw [beq_iff_eq]; exact tl_nil.2 d3), if_pos (.inr (.inr (.inl d3)))]
     ·rw [if_neg (by rw [beq_iff_eq]; exact fun hc => d3 (tl_nil.1 hc))]
      have k1 := chk_ok.1 d1
      have k2 := chk_ok.1 d2
      have hg := gcdS (a := (a0, a1)) (b := (false, a2)) k1 k2 h1 h2
      simp only at hg
      rw [hg]
      simp only [Option.bind_some]
      have hr : rden (a0, a1, a2) = ival false a2 := rfl
      have hn : rnum (a0, a1, a2) = ival a0 a1 := rfl
      rw [hr, hn]
      by_cases d4 : a2.toList = ([1] : List UInt8)
      ·have e : ival false a2 = 1 := by rw [tl_iff.1 d4]; exact nv_1
       rw [if_pos d4, if_neg (fun hc => by
        rcases hc with hc | hc | hc | hc
        ·exact hc d1
        ·exact hc d2
        ·exact d3 hc
        ·rw [e, Int.gcd_one_right] at hc; exact hc rfl)]
      ·rw [if_neg d4]
       by_cases d5 : Int.gcd (ival a0 a1) (ival false a2) = 1
       ·rw [if_pos (one_iff.2 d5), if_neg (fun hc => by
         rcases hc with hc | hc | hc | hc
         ·exact hc d1
         ·exact hc d2
         ·exact d3 hc
         ·exact hc d5)]
       ·rw [if_neg (fun hc => d5 (one_iff.1 hc)), if_pos (.inr (.inr (.inr d5)))]
    ·rw [if_pos d1, if_neg d2, if_pos (.inr (.inl d2))]
     rfl
   ·rw [if_neg d1, if_pos (.inl d1)]
    rfl
def badR (a b : RG) : Int := if chkR a = 0 then chkR b else chkR a
theorem badR_ok {a b : RG} : badR a b = 0 ↔ okR a ∧ okR b := by
 unfold badR
 split
 ·rename_i h; rw [chkR_ok]; exact ⟨fun hb => ⟨chkR_ok.1 h, hb⟩, fun hb => hb.2⟩
 ·rename_i h; exact ⟨fun hc => absurd hc h, fun hc => absurd (chkR_ok.2 hc.1) h⟩
theorem both_p (k : Nat) (a b : RG) (h1 : a.2.1.size ≤ 15000) (h2 : a.2.2.size ≤ 15000) (h3 : b.2.1.size ≤ 15000) (h4 : b.2.2.size ≤ 15000) :
  rat_both.f (k + 2) a.1 a.2.1 a.2.2 b.1 b.2.1 b.2.2 = some (badR a b) := by
 unfold rat_both.f badR
 rw [check_p k a h1 h2, Option.bind_some]
 split
 ·rw [check_p k b h3 h4, Option.bind_some]
 ·rfl
/-! ### lowest -/
theorem low_p0 (k : Nat) (a b : Bool × ByteArray) (ha : okI a.1 a.2) (hb : okI b.1 b.2) (h1 : a.2.size ≤ 15000) (h2 : b.2.size ≤ 15000) (hp : 0 < ival b.1 b.2) :
  rat_lowest.j0 (k + 1) a.1 a.2 b.1 b.2 = some (pq (Rat.divInt (ival a.1 a.2) (ival b.1 b.2))) := by
 have hbf : b.1 = false := by
  cases hb1 : b.1
  ·rfl
  ·exfalso
   have := (nv_bd b.2).1
   unfold ival sgn at hp
   rw [hb1, if_pos rfl] at hp
   omega
 have hgp := gcd_pos (n := ival a.1 a.2) hp
 simp only [rat_lowest.j0, rat_do_of_whole_Gcd.f]
 rw [gcdS ha hb h1 h2]
 simp only [Option.map_some, Option.bind_some]
 obtain ⟨G, hG⟩ : ∃ G, Int.gcd (ival a.1 a.2) (ival b.1 b.2) = G := ⟨_, rfl⟩
 have hn := low_num (n := ival a.1 a.2) hp
 have hd := low_den (n := ival a.1 a.2) hp
 rw [hG] at hn hd hgp ⊢
 unfold pq
 rw [hn, hd]
 by_cases h : G = 1
 ·rw [if_pos (one_iff.2 h), h]
  have e1 : ival a.1 a.2 / ((1 : Nat) : Int) = ival a.1 a.2 := Int.ediv_one _
  have e2 : ival b.1 b.2 / ((1 : Nat) : Int) = ival b.1 b.2 := Int.ediv_one _
  rw [e1, e2, pv_ival ha, pv_ival hb]
 ·rw [if_neg (fun hc => h (one_iff.1 hc))]
  have sG : (pv (G : Int)).2.size ≤ 15000 := size_pv (by
   have := size_pow h2
   have h5 := Int.gcd_le_natAbs_right (ival a.1 a.2) (show ival b.1 b.2 ≠ 0 by omega)
   have h6 := ival_bd (n := b.1) h2
   rw [hG] at h5
   rw [Int.natAbs_natCast]
   omega)
  have kG : okI false (pv (G : Int)).2 := okI_pn (by omega) (by omega)
  have iG : ival false (pv (G : Int)).2 = G := ival_pn (by omega)
  have q1 := divS (a := a) (b := (false, (pv (G : Int)).2)) ha kG h1 sG (by simp only [iG]; omega)
  have q2 := divS (a := b) (b := (false, (pv (G : Int)).2)) hb kG h2 sG (by simp only [iG]; omega)
  simp only at q1 q2
  rw [q1, q2]
  simp only [Option.bind_some, iG]
theorem low_p (k : Nat) (a b : Bool × ByteArray) (ha : okI a.1 a.2) (hb : okI b.1 b.2) (h1 : a.2.size ≤ 15000) (h2 : b.2.size ≤ 15000) (h0 : ival b.1 b.2 ≠ 0) :
  rat_lowest.f (k + 1) a.1 a.2 b.1 b.2 = some (pq (Rat.divInt (ival a.1 a.2) (ival b.1 b.2))) := by
 unfold rat_lowest.f
 have hv := (nv_bd b.2).1
 have hv2 := (nv_bd a.2).1
 by_cases hb1 : b.1 = true
 ·rw [if_pos hb1]
  have hneg : ival b.1 b.2 = - ival false b.2 := by rw [hb1]; rfl
  have hpos : 0 < ival false b.2 := by have : ival false b.2 = nv b.2 := rfl; omega
  have kb : okI false b.2 := ⟨hb.1, hb.2.1, fun hc => by cases hc⟩
  have e : Rat.divInt (ival a.1 a.2) (ival b.1 b.2) = Rat.divInt (- ival a.1 a.2) (ival false b.2) := by rw [hneg, Rat.divInt_neg']
  rw [e, ← ival_ng ha]
  by_cases ha1 : a.1 = true
  ·rw [if_pos ha1]
   have := low_p0 k (false, a.2) (false, b.2) ⟨ha.1, ha.2.1, fun hc => by cases hc⟩ kb h1 h2 hpos
   simp only at this
   rw [this, ha1]
   rfl
  ·rw [if_neg ha1]
   have ha2 : a.1 = false := by cases h : a.1 <;> simp_all
   have e2 : (a.2.toList != ([] : List UInt8)) = (!a.1 && decide (0 < a.2.size)) := by
    rw [ha2]
    by_cases hs : 0 < a.2.size
    ·rw [(toList_ne hs).2, decide_eq_true hs]; rfl
    ·rw [(toList_nil (by omega)).2, decide_eq_false hs]; rfl
   rw [e2]
   have := low_p0 k (!a.1 && decide (0 < a.2.size), a.2) (false, b.2) (okI_neg ha) kb h1 h2 hpos
   simp only at this
   rw [this]
 ·rw [if_neg hb1]
  have hb2 : b.1 = false := by cases h : b.1 <;> simp_all
  have hv3 : ival b.1 b.2 = nv b.2 := by rw [hb2]; rfl
  exact low_p0 k a b ha hb h1 h2 (by omega)
end Go.Proofs.YtoijlbcbbblbfaaGreatDoor
