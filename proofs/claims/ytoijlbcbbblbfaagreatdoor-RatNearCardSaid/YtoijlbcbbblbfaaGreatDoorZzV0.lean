import Derived.Test.YtoijlbcbbblbfaaGreatDoorY2EX
namespace Go.Proofs.YtoijlbcbbblbfaaGreatDoor
open Go.RowKit Num
set_option linter.unusedVariables false
set_option linter.unusedSimpArgs false

/-- A rational number's parts: the sign and the bytes of what is above, the bytes of what is below. -/
abbrev RG := Bool × ByteArray × ByteArray
def rnum (a : RG) : Int := ival a.1 a.2.1
def rden (a : RG) : Int := nv a.2.2
def rq (a : RG) : Rat := Rat.divInt (rnum a) (rden a)
def pq (q : Rat) : RG := ((pv q.num).1, (pv q.num).2, (pv (q.den : Int)).2)
def nor : RG := (false, ⟨#[]⟩, ⟨#[]⟩)
/-- What rat.Check tells. -/
def chkR (a : RG) : Int :=
 if 8000 < a.2.1.size ∨ 8000 < a.2.2.size then 5
 else if chk a.1 a.2.1 ≠ 0 ∨ chk false a.2.2 ≠ 0 ∨ a.2.2.size = 0 ∨ Int.gcd (rnum a) (rden a) ≠ 1 then 1 else 0
structure okR (a : RG) : Prop where
 sn : a.2.1.size ≤ 8000
 sd : a.2.2.size ≤ 8000
 kn : okI a.1 a.2.1
 kd : okI false a.2.2
 nz : a.2.2.size ≠ 0
 co : Int.gcd (rnum a) (rden a) = 1
theorem chkR_ok {a : RG} : chkR a = 0 ↔ okR a := by
 unfold chkR
 constructor
 ·intro h
  split at h
  ·exact absurd h (by decide)
  ·rename_i h1
   split at h
   ·exact absurd h (by decide)
   ·rename_i h2
    have h3 : chk a.1 a.2.1 = 0 := Decidable.byContradiction fun hc => h2 (.inl hc)
    have h4 : chk false a.2.2 = 0 := Decidable.byContradiction fun hc => h2 (.inr (.inl hc))
    have h5 : a.2.2.size ≠ 0 := fun hc => h2 (.inr (.inr (.inl hc)))
    have h6 : Int.gcd (rnum a) (rden a) = 1 := Decidable.byContradiction fun hc => h2 (.inr (.inr (.inr hc)))
    exact ⟨by omega, by omega, chk_ok.1 h3, chk_ok.1 h4, h5, h6⟩
 ·intro h
  rw [if_neg (by have := h.sn; have := h.sd; omega), if_neg (fun hc => by
   rcases hc with hc | hc | hc | hc
   ·exact hc (chk_ok.2 h.kn)
   ·exact hc (chk_ok.2 h.kd)
   ·exact h.nz hc
   ·exact hc h.co)]
theorem ba_nil {s : ByteArray} (h : s.size = 0) : s = ⟨#[]⟩ := by
 cases s with
 | mk d => exact congrArg ByteArray.mk (Array.eq_empty_of_size_eq_zero h)
theorem pv_zero : pv 0 = (false, ⟨#[]⟩) := by
 unfold pv encN
 rw [show (((0 : Int).natAbs : Nat) : Int) = 0 from rfl, nb_zero]
 rfl
theorem pv_neg1 {v : Int} (h : 0 ≤ v) : (pv v).1 = false := by
 show decide (v < 0) = false
 exact decide_eq_false (by omega)
theorem pv_nn {v : Int} (h : 0 ≤ v) : pv v = (false, (pv v).2) := by rw [← pv_neg1 h]
theorem ival_pn {v : Int} (h : 0 ≤ v) : ival false (pv v).2 = v := by have e := ival_pv v; rw [pv_nn h] at e; exact e
theorem ival_f (s : ByteArray) : ival false s = nv s := rfl
theorem nv_pn {v : Int} (h : 0 ≤ v) : nv (pv v).2 = v := ival_pn h
theorem pv_nv {s : ByteArray} (h : okI false s) : (pv (nv s)).2 = s := by
 have e := pv_ival h
 rw [ival_f] at e
 exact congrArg Prod.snd e
theorem okI_pn {v : Int} (h0 : 0 ≤ v) (h : (pv v).2.size ≤ 32000) : okI false (pv v).2 := by
 have e := okI_pv h
 rw [pv_neg1 h0] at e
 exact e
theorem tl_iff {s : ByteArray} {l : List UInt8} : s.toList = l ↔ s = ⟨l.toArray⟩ := by
 rw [ByteArray.toList_eq]
 constructor
 ·rintro rfl
  rfl
 ·rintro rfl
  rfl
theorem tl_nil {s : ByteArray} : s.toList = ([] : List UInt8) ↔ s.size = 0 := by
 rw [tl_iff]
 exact ⟨fun h => by rw [h]; rfl, ba_nil⟩
theorem pv_1 : pv 1 = (false, ⟨#[1]⟩) := by decide +kernel
theorem nv_1 : nv (⟨#[1]⟩ : ByteArray) = 1 := by decide +kernel
theorem one_iff {n : Nat} : (pv (n : Int)).2.toList = ([1] : List UInt8) ↔ n = 1 := by
 rw [tl_iff]
 constructor
 ·intro h
  have e := nv_pn (v := (n : Int)) (by omega)
  rw [h] at e
  have : nv (⟨[1].toArray⟩ : ByteArray) = 1 := nv_1
  omega
 ·rintro rfl
  exact congrArg Prod.snd pv_1
theorem okI_neg {n : Bool} {s : ByteArray} (h : okI n s) : okI (!n && decide (0 < s.size)) s :=
 ⟨h.1, h.2.1, fun hc => by simp at hc; exact hc.2⟩
theorem ival_ng {n : Bool} {s : ByteArray} (h : okI n s) : ival (!n && decide (0 < s.size)) s = - ival n s := by
 unfold ival sgn
 by_cases hs : 0 < s.size
 ·cases n <;> simp [hs]
 ·have e : s = ⟨#[]⟩ := ba_nil (by omega)
  have : nv s = 0 := by rw [e]; rfl
  have hn : n ≠ true := fun hc => hs (h.2.2 hc)
  cases n
  ·simp [hs, this]
  ·exact absurd rfl hn
theorem okR.dp {a : RG} (h : okR a) : 0 < rden a := nv_pos h.kd.2.1 (Nat.pos_of_ne_zero h.nz)
theorem okR.q {a : RG} (h : okR a) : (rq a).num = rnum a ∧ ((rq a).den : Int) = rden a := by
 have hd := h.dp
 unfold rq
 obtain ⟨n, hn⟩ : ∃ n, rnum a = n := ⟨_, rfl⟩
 obtain ⟨d, hd2⟩ : ∃ d : Nat, rden a = (d : Int) := ⟨(rden a).toNat, by omega⟩
 have hc := h.co
 rw [hn, hd2] at hc ⊢
 rw [hd2] at hd
 rw [← Rat.mk_eq_divInt (num := n) (den := d) (nz := by omega) (c := by
  have : n.natAbs.gcd d = 1 := by rw [← hc]; unfold Int.gcd; rw [Int.natAbs_natCast]
  exact this)]
 exact ⟨rfl, rfl⟩
theorem pq_rq {a : RG} (h : okR a) : pq (rq a) = a := by
 unfold pq
 rw [h.q.1, h.q.2]
 have e1 : pv (rnum a) = (a.1, a.2.1) := pv_ival h.kn
 have e2 : (pv (rden a)).2 = a.2.2 := pv_nv h.kd
 rw [e1, e2]
theorem rnum_pq (q : Rat) : rnum (pq q) = q.num := ival_pv _
theorem rden_pq (q : Rat) : rden (pq q) = (q.den : Int) := nv_pn (by omega)
theorem rq_pq (q : Rat) : rq (pq q) = q := by
 unfold rq
 rw [rnum_pq, rden_pq]
 exact Rat.num_divInt_den q
theorem pq_inj {p q : Rat} (h : pq p = pq q) : p = q := by rw [← rq_pq p, h, rq_pq]
theorem okR_pq {q : Rat} (h1 : (pq q).2.1.size ≤ 8000) (h2 : (pq q).2.2.size ≤ 8000) : okR (pq q) := by
 refine ⟨h1, h2, okI_pv (by have : (pv q.num).2.size ≤ 8000 := h1; omega), okI_pn (by omega) (by have : (pv (q.den : Int)).2.size ≤ 8000 := h2; omega), fun h => ?_, ?_⟩
 ·have e := rden_pq q
  have h3 : nv (pq q).2.2 = 0 := by rw [ba_nil h]; rfl
  have h4 : rden (pq q) = 0 := h3
  have := q.den_pos
  omega
 ·rw [rnum_pq, rden_pq]
  have := q.reduced
  unfold Int.gcd
  rw [Int.natAbs_natCast]
  exact this

/-! ### A quotient in its lowest terms -/
theorem low_num {n d : Int} (hd : 0 < d) : (Rat.divInt n d).num = n / (Int.gcd n d : Nat) := by
 rw [Rat.num_divInt, Int.sign_eq_one_of_pos hd, Int.one_mul, Int.gcd_comm]
theorem low_den {n d : Int} (hd : 0 < d) : ((Rat.divInt n d).den : Int) = d / (Int.gcd n d : Nat) := by
 rw [Rat.den_divInt, if_neg (by omega), Int.gcd_comm, Int.natCast_ediv]
 congr 1
 omega
theorem gcd_pos {n d : Int} (hd : 0 < d) : 0 < Int.gcd n d := Nat.pos_of_ne_zero fun h => by have := (Int.gcd_eq_zero_iff.1 h).2; omega
theorem low_num_le (n : Int) {d : Int} (hd : 0 < d) : ((Rat.divInt n d).num.natAbs : Int) ≤ (n.natAbs : Int) := by
 rw [low_num hd]
 have := Int.natAbs_ediv_le_natAbs n (Int.gcd n d : Nat)
 omega
theorem low_den_le (n : Int) {d : Int} (hd : 0 < d) : ((Rat.divInt n d).den : Int) ≤ d := by
 rw [low_den hd]
 exact Int.ediv_le_self _ (by omega)
theorem low_size {n d : Int} {k m : Nat} (hd : 0 < d) (h1 : (n.natAbs : Int) < 256 ^ k) (h2 : d < 256 ^ m) : (pq (Rat.divInt n d)).2.1.size ≤ k ∧ (pq (Rat.divInt n d)).2.2.size ≤ m :=
 ⟨size_pv (Int.lt_of_le_of_lt (low_num_le n hd) h1), size_pv (by have := low_den_le n hd; omega)⟩
/-! ### What is reckoned -/
theorem rq_eq {a : RG} : rq a = Rat.divInt (rnum a) (rden a) := rfl
theorem q_add {a b : RG} (ha : okR a) (hb : okR b) : Rat.divInt (rnum a * rden b + rnum b * rden a) (rden a * rden b) = rq a + rq b :=
 (Rat.divInt_add_divInt _ _ (by have := ha.dp; omega) (by have := hb.dp; omega)).symm
theorem q_sub {a b : RG} (ha : okR a) (hb : okR b) : Rat.divInt (rnum a * rden b - rnum b * rden a) (rden a * rden b) = rq a - rq b :=
 (Rat.divInt_sub_divInt _ _ (by have := ha.dp; omega) (by have := hb.dp; omega)).symm
theorem q_mul {a b : RG} : Rat.divInt (rnum a * rnum b) (rden a * rden b) = rq a * rq b := (Rat.divInt_mul_divInt _ _).symm
theorem q_div {a b : RG} : Rat.divInt (rnum a * rden b) (rden a * rnum b) = rq a / rq b := by
 rw [Rat.div_def]
 show _ = Rat.divInt _ _ * (Rat.divInt _ _)⁻¹
 rw [Rat.inv_divInt, Rat.divInt_mul_divInt]
theorem q_lt {a b : RG} (ha : okR a) (hb : okR b) : rq a < rq b ↔ rnum a * rden b < rnum b * rden a := by
 rw [Rat.lt_iff, ha.q.1, ha.q.2, hb.q.1, hb.q.2]
/-- The order of two. -/
def cmpQ (p q : Rat) : Int := if p < q then -1 else if q < p then 1 else 0
theorem q_cmp {a b : RG} (ha : okR a) (hb : okR b) : cmpI (rnum a * rden b) (rnum b * rden a) = cmpQ (rq a) (rq b) := by
 unfold cmpI cmpQ
 have h1 := q_lt ha hb
 have h2 := q_lt hb ha
 simp only [h1, h2]
end Go.Proofs.YtoijlbcbbblbfaaGreatDoor
