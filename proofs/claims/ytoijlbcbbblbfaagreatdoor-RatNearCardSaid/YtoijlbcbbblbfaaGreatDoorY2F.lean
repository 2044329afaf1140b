import Derived.Test.YtoijlbcbbblbfaaGreatDoorY2D
import Derived.Test.YtoijlbcbbblbfaaGreatDoorY2E
import Derived.StillTailTactics
import Derived.IntWalk
namespace Go.Proofs.YtoijlbcbbblbfaaGreatDoor
open Go.RowKit Num
set_option linter.unusedVariables false
set_option linter.unusedSimpArgs false

set_option maxHeartbeats 1000000 in
theorem lcmp_c (A0 A1 : Option Addr) (n m c0 c1 : Nat) (a b : List Int) (hn : a.length = n) (hm : b.length = m) (hn4 : n ≤ 4000) (hm4 : m ≤ 4000) (hc0 : n ≤ c0) (hc1 : m ≤ c1) (w : World) (ha : RL w A0 a) (hb : RL w A1 b) (hla : Lim a) (hlb : Lim b) :
  Calls Tryz.prog 100 #[.slice A0 n c0, .slice A1 m c1] w fun e w' => e = .returned (.tuple #[.int .i64 (cmpI (lv a) (lv b)), .int .i64 0]) ∧ Below w.heap.size w w' := by
 have hb0 : Below w.heap.size w (w.alloc (.cells #[.slice A0 n c0, .slice A1 m c1] 63)) := (Below.refl _ _).alloc (Nat.le_refl _) _
 have HA1 := Lib.hid (ha.below hb0 (Nat.le_refl _))
 have HB1 := Lib.hid (hb.below hb0 (Nat.le_refl _))
 have HN := Lib.hid hn
 have HM := Lib.hid hm
 have hord := ordL_val (hla.take (trimN a a.length)) (hlb.take (trimN b b.length)) (Tr_trim a) (Tr_trim b)
 rw [lv_trim, lv_trim, take_trim_len, take_trim_len, hn, hm] at hord
 have hpl := take_trim_len a
 have hql := take_trim_len b
 rw [hn] at hpl
 rw [hm] at hql
 have HP := Lib.hid hpl
 have HQ := Lib.hid hql
 have HO := Lib.hid hord
 have HS := Lib.hid hb0
 clear ha hb hn hm hla hlb hpl hql hb0 hord
 go_enter Tryz.func100, Tryz.ntmps100
 go_wp2_with fail
 refine (long2 _ _ _ _ _ _ _ hn4 hm4).mono ?_
 rintro e w' ⟨rfl, rfl⟩
 go_wp2_with fail
 refine (trimmed_c _ _ _ a HN.out hc0 _ HA1.out).mono ?_
 rintro e w5 ⟨rfl, ⟨nd, rfl⟩⟩
 go_wp2_with fail
 refine (trimmed_c _ _ _ b HM.out hc1 _ (HB1.out.drN _)).mono ?_
 rintro e w5 ⟨rfl, ⟨nd2, rfl⟩⟩
 go_wp2_with fail
 refine (order_c _ _ _ _ _ _ _ _ HP.out HQ.out _ ((HA1.out.take _).drN _) ((HB1.out.take _).drN _)).mono ?_
 rintro e w5 ⟨rfl, ⟨nd3, rfl⟩⟩
 rw [HO.out]
 go_wp2
 go_ret2
 exact ⟨rfl, bdrN HS.out _⟩

/-! guess -/
def guessI (h n t : Int) : Int := if t ≤ h then B - 1 else (h * B + n) / t
set_option maxHeartbeats 1000000 in
theorem guess_c (h n t : Int) (hh : 0 ≤ h) (hn : 0 ≤ n ∧ n < B) (ht : t < B) (w : World) :
  Calls Tryz.prog 113 #[.int .u64 h, .int .u64 n, .int .u64 t] w fun e w' => e = .returned (.int .u64 (guessI h n t)) ∧ Dr w w' := by
 unfold guessI
 by_cases hlt : t ≤ h
 ·rw [if_pos hlt]
  have h1 : decide (t ≤ h) = true := decide_eq_true hlt
  go_enter Tryz.func113, Tryz.ntmps113
  go_wp2
  go_ret
  exact ⟨rfl, by repeat (first | exact Dr.refl _ | apply Dr.step)⟩
 ·rw [if_neg hlt]
  have h1 : decide (t ≤ h) = false := decide_eq_false hlt
  have HD := Lib.hid (div64_c h n t ⟨hh, by omega⟩ hn ht)
  go_enter Tryz.func113, Tryz.ntmps113
  go_wp2_with fail
  refine (HD.out _).mono ?_
  rintro e w' ⟨rfl, ⟨nd, rfl⟩⟩
  go_wp2
  go_ret
  exact ⟨rfl, by repeat (first | exact Dr.refl _ | apply Dr.step)⟩

theorem or_comm (x y : Int) : bits .or .u64 x y = bits .or .u64 y x := by simp only [bits, BitVec.or_comm]
/-! shifted -/
structure ShlI (g n : Nat) (a : List Int) (S : Int) (w : World) (k : Nat) (L : List Int) (w1 : World) : Prop where
 blk : Blk w1 g L
 len : L.length = n + 1
 lim : Lim L
 low : lg L k < S
 zero : ∀ j, k < j → lg L j = 0
 val : win L 0 (k + 1) = S * sumB (lg a) k
 only : Only g w w1
/-- shifted's end: a row in a block of its own. -/
def ShlP (n : Nat) (v : Int) (w : World) (e : Ending) (w' : World) : Prop := ∃ g L, e = .returned (.slice (some ⟨g, 0, none⟩) (n + 1) (n + 1)) ∧ w.heap.size ≤ g ∧ Blk w' g L ∧ L.length = n + 1 ∧ Lim L ∧ lv L = v ∧ Below w.heap.size w w'

set_option maxHeartbeats 1000000 in
set_option maxRecDepth 100000 in
theorem shifted_c (A0 : Option Addr) (n c0 s : Nat) (a : List Int) (hn : a.length = n) (hn4 : n ≤ 5000) (hs : s ≤ 63) (w : World) (ha : RL w A0 a) (hla : Lim a) :
  Calls Tryz.prog 112 #[.slice A0 n c0, .int .i64 s] w (ShlP n (2 ^ s * lv a) w) := by
 obtain ⟨S, hS⟩ : ∃ S : Int, S = 2 ^ s := ⟨_, rfl⟩
 have hS0 : 0 < S := by rw [hS]; exact Int.pow_pos (by decide)
 obtain ⟨T, hT⟩ : ∃ T : Int, T = 2 ^ (64 - s) := ⟨_, rfl⟩
 have hT0 : 0 < T := by rw [hT]; exact Int.pow_pos (by decide)
 have hST : S * T = B := by
  rw [hS, hT, ← Int.pow_add, show s + (64 - s) = 64 by omega]; rfl
 rw [← hS]
 have hb1 : Below w.heap.size w (w.alloc (.cells (madeCells #[.int .u64 0] (n + 1)) 79)) := (Below.refl _ _).alloc (Nat.le_refl _) _
 have hk0 := made_blk w (n + 1)
 have hx1 := ha.below hb1 (Nat.le_refl _)
 have hax : 0 < a.length → ∀ ad, A0 = some ad → ad.block ≠ w.heap.size := fun h ad e => Nat.ne_of_lt (ha.lt h ad e)
 have hmk := make_run (n + 1) (by omega)
 rw [show ((n + 1 : Nat) : Int) = (n : Int) + 1 by omega] at hmk
 have HN := Lib.hid hn
 have HLA := Lib.hid hla
 have HP := Lib.hid (And.intro hS (And.intro hT (And.intro hS0 (And.intro hT0 hST))))
 clear hn hla hS hT hS0 hT0 hST ha
 go_enter Tryz.func112, Tryz.ntmps112
 go_wp2
 generalize hw3 : w.alloc (.cells (madeCells #[.int .u64 0] (n + 1)) 79) = w3 at *
 have HG : w.heap.size ≤ w.heap.size := Nat.le_refl _
 generalize hg : w.heap.size = g at HG hb1 hk0 hax ⊢
 have HI0 := Lib.hid (show ShlI g n a S w3 0 (List.replicate (n + 1) 0) w3 from ⟨hk0, by simp, Lim_zero _, by rw [lg_replicate]; exact HP.out.2.2.1, fun j _ => lg_replicate _ _, by
  have : win (List.replicate (n + 1) 0) 0 (0 + 1) = 0 := sumB_zero (m := 0) (by omega) fun j _ _ => lg_replicate _ _
  rw [this]; simp [sumB], Only.refl _ _⟩)
 have HX := Lib.hid hx1
 have HAX := Lib.hid hax
 have HBW := Lib.hid hb1
 have HGG := Lib.hid hg
 clear hk0 hx1 hax hb1 hw3 hmk hg
 go_loopw [6, 7, 14] (fun _ _ t w4 => ∃ (k : Nat) (L' : List Int), k ≤ n ∧ t = .int .i64 k ∧ ShlI g n a S w3 k L' w4) (fun _ _ t _ => n - (intOf t).toNat)
 case atStart => exact ⟨0, _, Nat.zero_le _, rfl, HI0.out⟩
 case round =>
  obtain ⟨k, L', hk, rfl, hI⟩ := hrel
  by_cases hlt : k < n
  ·have h1 : decide ((k : Int) < (n : Int)) = true := by simp; omega
   obtain ⟨ad, rfl, hcl⟩ := (HX.out.only hI.only HAX.out).2 (by have := HN.out; omega)
   have hc2 := hcl k (by have := HN.out; omega)
   have hce := hI.blk.cell k (by rw [hI.len]; omega)
   have hfr := hI.blk.free k
   obtain ⟨hS, hT, hS0, hT0, hST⟩ := HP.out
   obtain ⟨s1, s2, s3, s4, s5⟩ := shl_step hS0 hT0 hST (by rw [hI.len]; omega) hI.lim HLA.out hI.low hI.zero hI.val
   have e1 : IntKind.u64.wrap (lg a k * 2 ^ s) = lg a k * S % B := by rw [← hS, IntKind.wrap_u64]; rfl
   have r0 : 0 ≤ lg a k * S % B := Int.emod_nonneg _ (by decide)
   have r1 : lg a k * S % B < B := Int.emod_lt_of_pos _ (by decide)
   have e2 : bits .or .u64 (lg L' k) (lg a k * S % B) = lg L' k + lg a k * S % B := by
    have hm : lg a k * S % B % 2 ^ s = 0 := by
     rw [← hS, ← hST, Int.emod_emod_of_dvd _ (Int.dvd_mul_right S T)]
     exact Int.mul_emod_left _ _
    rw [or_comm, u64_join _ _ s ⟨r0, r1⟩ (hI.lim k).1 (by rw [← hS]; exact hI.low) (hI.lim k).2 hm, Int.add_comm]
   have e3 : lg a k / 2 ^ (64 - s) = lg a k / T := by rw [hT]
   have HI := Lib.hid hI
   have HST := Lib.hid (And.intro s2 (And.intro s3 (And.intro s4 s5)))
   clear hI hcl s1 s2 s3 s4 s5 hS hT hS0 hT0 hST r0 r1
   go_wp2
   have hib := eq_true (show (k : Int) < (n : Int) + 1 by omega)
   have hib2 := eq_true (show (0 : Int) ≤ (k : Int) by omega)
   go_still_tail 9, (by kernel_rfl)
   change wpList _ _ _ _ _ wr.drew
   have hce2 := ((HI.out.blk.set k (lg L' k + lg a k * S % B))).cell (k + 1) (by rw [List.length_set, HI.out.len]; omega)
   have hfr2 := ((HI.out.blk.set k (lg L' k + lg a k * S % B))).free (k + 1)
   clear hib hib2
   go_wp2
   obtain ⟨s2, s3, s4, s5⟩ := HST.out
   exact ⟨⟨k + 1, _, by omega, by go_num, ⟨(HI.out.blk.set _ _).set _ _, by rw [List.length_set, List.length_set]; exact HI.out.len, s2, s3, s4, s5, ((HI.out.only.set _ _).set _ _).dr⟩⟩, by simp [intOf]; omega⟩
  ·have he : k = n := by omega
   subst he
   have h1 : decide ((k : Int) < (k : Int)) = false := by simp
   have hlv : lv L' = S * lv a := by
    have h2 := hI.val
    rw [← hI.len, win_zero] at h2
    rw [h2]
    unfold lv
    rw [HN.out]
   have HF := Lib.hid hlv
   have HI := Lib.hid hI
   clear hI hlv
   go_wp2
   go_ret
   exact ⟨g, L', rfl, by rw [HGG.out]; exact HG, HI.out.blk, HI.out.len, HI.out.lim, HF.out, by rw [HGG.out]; exact Only.below HBW.out HI.out.only (Nat.le_refl _)⟩

/-! lowered -/
structure ShrI (g n : Nat) (a : List Int) (S : Int) (w : World) (k : Nat) (L : List Int) (w1 : World) : Prop where
 blk : Blk w1 g L
 len : L.length = n
 lim : Lim L
 val : win L 0 k * S = sumB (lg a) k - lg a 0 % S + lg a k % S * B ^ k
 only : Only g w w1
def RowP (v : Int) (w : World) (e : Ending) (w' : World) : Prop := ∃ x r, e = .returned x ∧ IsRow w' x r ∧ Lim r ∧ Tr r ∧ lv r = v ∧ Below w.heap.size w w'
theorem rowP_end {w wr : World} {A : Option Addr} {L : List Int} {n nd : Nat} {v : Int} (hn : L.length = n) (hr : RL wr A L) (hl : Lim L) (hv : lv L = v) (hb : Below w.heap.size w wr) :
  RowP v w (.returned (.slice A (trimN L n) (trimN L n))) (wr.drewN nd) := by
 subst hn
 exact ⟨_, L.take (trimN L L.length), rfl, ⟨A, _, by rw [take_trim_len], by rw [take_trim_len]; exact Nat.le_refl _, (hr.take _).drN _⟩, hl.take _, Tr_trim _, by rw [lv_trim]; exact hv, bdrN hb _⟩

set_option maxHeartbeats 1000000 in
set_option maxRecDepth 100000 in
theorem lowered_c (A0 : Option Addr) (n c0 s : Nat) (a : List Int) (v : Int) (hn : a.length = n) (hn4 : n ≤ 5000) (hs : s ≤ 63) (w : World) (ha : RL w A0 a) (hla : Lim a) (hv : lv a = v * 2 ^ s) :
  Calls Tryz.prog 115 #[.slice A0 n c0, .int .i64 s] w (RowP v w) := by
 obtain ⟨S, hS⟩ : ∃ S : Int, S = 2 ^ s := ⟨_, rfl⟩
 have hS0 : 0 < S := by rw [hS]; exact Int.pow_pos (by decide)
 obtain ⟨T, hT⟩ : ∃ T : Int, T = 2 ^ (64 - s) := ⟨_, rfl⟩
 have hT0 : 0 < T := by rw [hT]; exact Int.pow_pos (by decide)
 have hST : S * T = B := by
  rw [hS, hT, ← Int.pow_add, show s + (64 - s) = 64 by omega]; rfl
 rw [← hS] at hv
 have hb1 : Below w.heap.size w (w.alloc (.cells (madeCells #[.int .u64 0] n) 79)) := (Below.refl _ _).alloc (Nat.le_refl _) _
 have hk0 := made_blk w n
 have hx1 := ha.below hb1 (Nat.le_refl _)
 have hax : 0 < a.length → ∀ ad, A0 = some ad → ad.block ≠ w.heap.size := fun h ad e => Nat.ne_of_lt (ha.lt h ad e)
 have hmk := make_run n (by omega)
 have HN := Lib.hid hn
 have HLA := Lib.hid hla
 have HV := Lib.hid hv
 have HP := Lib.hid (And.intro hS (And.intro hT (And.intro hS0 (And.intro hT0 hST))))
 clear hn hla hS hT hS0 hT0 hST ha hv
 go_enter Tryz.func115, Tryz.ntmps115
 go_wp2
 generalize hw3 : w.alloc (.cells (madeCells #[.int .u64 0] n) 79) = w3 at *
 have HG : w.heap.size ≤ w.heap.size := Nat.le_refl _
 generalize hg : w.heap.size = g at HG hb1 hk0 hax ⊢
 have HI0 := Lib.hid (show ShrI g n a S w3 0 (List.replicate n 0) w3 from ⟨hk0, by simp, Lim_zero _, by simp [win, sumB]; omega, Only.refl _ _⟩)
 have HX := Lib.hid hx1
 have HAX := Lib.hid hax
 have HBW := Lib.hid hb1
 have HGG := Lib.hid hg
 clear hk0 hx1 hax hb1 hw3 hmk hg
 go_loopw [6, 7, 13] (fun _ _ t w4 => ∃ (k : Nat) (L' : List Int), k ≤ n ∧ t = .int .i64 k ∧ ShrI g n a S w3 k L' w4) (fun _ _ t _ => n - (intOf t).toNat)
 case atStart => exact ⟨0, _, Nat.zero_le _, rfl, HI0.out⟩
 case round =>
  obtain ⟨k, L', hk, rfl, hI⟩ := hrel
  by_cases hlt : k < n
  ·have h1 : decide ((k : Int) < (n : Int)) = true := by simp; omega
   obtain ⟨ad, rfl, hcl⟩ := (HX.out.only hI.only HAX.out).2 (by have := HN.out; omega)
   have hc2 := hcl k (by have := HN.out; omega)
   obtain ⟨hS, hT, hS0, hT0, hST⟩ := HP.out
   have hce0 := hI.blk.cell k (by rw [hI.len]; omega)
   have hfr0 := hI.blk.free k
   obtain ⟨s1, s2, s3, s4, s5⟩ := shr_step hS0 hT0 hST (by rw [hI.len]; omega) hI.lim HLA.out hI.val
   have e0 : lg a k / 2 ^ s = lg a k / S := by rw [hS]
   have hce := (hI.blk.set k (lg a k / S)).cell k (by rw [List.length_set, hI.len]; omega)
   rw [lg_set, if_pos ⟨rfl, by rw [hI.len]; omega⟩] at hce
   have hfr := (hI.blk.set k (lg a k / S)).free k
   by_cases hk1 : k + 1 < n
   ·have h2 : decide ((k : Int) + 1 < (n : Int)) = true := by simp; omega
    have hc3 := hcl (k + 1) (by have := HN.out; omega)
    have e1 : IntKind.u64.wrap (lg a (k + 1) * 2 ^ (64 - s)) = lg a (k + 1) * T % B := by rw [← hT, IntKind.wrap_u64]; rfl
    have e2 : bits .or .u64 (lg a k / S) (lg a (k + 1) * T % B) = lg a k / S + lg a (k + 1) * T % B := by
     rw [or_comm, u64_join _ _ (64 - s) s3 s1.1 (by rw [← hT]; exact s1.2.1) s1.2.2 (by rw [← hT]; exact s2), Int.add_comm]
    have hcl3 := ((HX.out.only (hI.only.set k (.int .u64 (lg a k / S))) HAX.out).2 (by have := HN.out; omega))
    obtain ⟨ad', had, hcl4⟩ := hcl3
    cases had
    have hc4 := hcl4 (k + 1) (by have := HN.out; omega)
    have HI := Lib.hid (And.intro (hI.blk.set k (lg a k / S)) (And.intro (hI.only.set k (.int .u64 (lg a k / S))) hI.len))
    have HCE := Lib.hid (And.intro hce (And.intro hfr hc4))
    have HST := Lib.hid (And.intro s4 s5)
    clear hI hcl s1 s2 s3 s4 s5 hS hT hS0 hT0 hST hce hfr hc3 hcl4 hc4
    have hib := eq_true (show (k : Int) < (n : Int) by omega)
    have hib2 := eq_true (show (0 : Int) ≤ (k : Int) by omega)
    have hib3 := eq_true (show (0 : Int) ≤ (k : Int) + 1 by omega)
    have hib4 := eq_true (show (k : Int) + 1 < (n : Int) by omega)
    go_wp2
    obtain ⟨hce, hfr, hc4⟩ := HCE.out
    rw [show ad.add (k + 1) = ⟨ad.block, ad.off + (k + 1), none⟩ by simp [Addr.add]] at hc4
    generalize wr.setCell ⟨g, k, none⟩ (.int .u64 (lg a k / S)) = wr2 at *
    have w1 := IntWalk.i64_in ((k : Int) + 1) (by omega)
    have w2 := IntWalk.i64_in (64 - (s : Int)) (by omega)
    have w3 : ((k : Int) + 1).toNat = k + 1 := by omega
    have w4 : (64 - (s : Int)).toNat = 64 - s := by omega
    have w5 := eq_true (show (0 : Int) ≤ 64 - (s : Int) by omega)
    go_still_tail 14, (by kernel_rfl)
    change wpList _ _ _ _ _ wr2.drew
    clear hib hib2 hib3 hib4 w1 w2 w3 w4 w5
    go_wp2
    obtain ⟨i1, i2, i3⟩ := HI.out
    obtain ⟨s4, s5⟩ := HST.out
    have hss := i1.set k (lg a k / S + lg a (k + 1) * T % B)
    rw [List.set_set] at hss
    exact ⟨⟨k + 1, _, by omega, by go_num, ⟨hss, by rw [List.length_set]; exact i3, s4, s5, (i2.set _ _).dr⟩⟩, by simp [intOf]; omega⟩
   ·have h2 : decide ((k : Int) + 1 < (n : Int)) = false := by simp; omega
    have hz : lg a (k + 1) = 0 := lg_out (by have := HN.out; omega)
    rw [hz] at s5 s4
    simp only [Int.zero_mul, Int.zero_emod, Int.add_zero] at s4 s5
    have HI := Lib.hid hI
    have HST := Lib.hid (And.intro s4 s5)
    clear hI hcl s1 s2 s3 s4 s5 hS hT hS0 hT0 hST hce hfr
    go_wp2
    obtain ⟨s4, s5⟩ := HST.out
    exact ⟨⟨k + 1, _, by omega, by go_num, ⟨HI.out.blk.set _ _, by rw [List.length_set]; exact HI.out.len, s4, by rw [s5, hz]; simp, HI.out.only.set _ _⟩⟩, by simp [intOf]; omega⟩
  ·have he : k = n := by omega
   subst he
   have h1 : decide ((k : Int) < (k : Int)) = false := by simp
   obtain ⟨hS, hT, hS0, hT0, hST⟩ := HP.out
   have hlv := shr_end hS0 hST hI.len HN.out HV.out hI.val
   have HF := Lib.hid hlv
   have HR := Lib.hid (hI.blk.RL (by rw [hI.len]; omega))
   have HI := Lib.hid hI
   clear hI hlv hS hT hS0 hT0 hST
   go_wp2_with fail
   refine (trimmed_c _ _ _ L' HI.out.len (by omega) _ HR.out).mono ?_
   rintro e w7 ⟨rfl, ⟨nd7, rfl⟩⟩
   go_wp2
   go_ret
   exact rowP_end HI.out.len HR.out HI.out.lim HF.out (by rw [HGG.out]; exact Only.below HBW.out HI.out.only (Nat.le_refl _))

/-! short -/
structure ShortI (g n : Nat) (a : List Int) (x : Int) (w : World) (k : Nat) (r : Int) (L : List Int) (w1 : World) : Prop where
 blk : Blk w1 g L
 len : L.length = n
 lim : Lim L
 rest : 0 ≤ r ∧ r < x
 val : win L k (n - k) * x + r = win a k (n - k)
 only : ∃ nd w2, Only g w w2 ∧ w1 = w2.drewN nd
def ShortP (v x : Int) (w : World) (e : Ending) (w' : World) : Prop := ∃ y q, e = .returned (.tuple #[y, .int .u64 (v % x)]) ∧ IsRow w' y q ∧ Lim q ∧ Tr q ∧ lv q = v / x ∧ Below w.heap.size w w'

theorem shortP_end {w wr : World} {A : Option Addr} {L : List Int} {n nd : Nat} {v x : Int} (hn : L.length = n) (hr : RL wr A L) (hl : Lim L) (hv : lv L = v / x) (hb : Below w.heap.size w wr) :
  ShortP v x w (.returned (.tuple #[.slice A (trimN L n) (trimN L n), .int .u64 (v % x)])) (wr.drewN nd) := by
 subst hn
 exact ⟨_, L.take (trimN L L.length), rfl, ⟨A, _, by rw [take_trim_len], by rw [take_trim_len]; exact Nat.le_refl _, (hr.take _).drN _⟩, hl.take _, Tr_trim _, by rw [lv_trim]; exact hv, bdrN hb _⟩

set_option maxHeartbeats 1000000 in
theorem short_c (A0 : Option Addr) (n c0 : Nat) (a : List Int) (x : Int) (hn : a.length = n) (hn4 : n ≤ 5000) (hx : 0 < x ∧ x < B) (w : World) (ha : RL w A0 a) (hla : Lim a) :
  Calls Tryz.prog 110 #[.slice A0 n c0, .int .u64 x] w (ShortP (lv a) x w) := by
 have hb1 : Below w.heap.size w (w.alloc (.cells (madeCells #[.int .u64 0] n) 79)) := (Below.refl _ _).alloc (Nat.le_refl _) _
 have hk0 := made_blk w n
 have hx1 := ha.below hb1 (Nat.le_refl _)
 have hax : 0 < a.length → ∀ ad, A0 = some ad → ad.block ≠ w.heap.size := fun h ad e => Nat.ne_of_lt (ha.lt h ad e)
 have hmk := make_run n (by omega)
 have HN := Lib.hid hn
 have HLA := Lib.hid hla
 have HXX := Lib.hid hx
 clear hn hla ha hx
 go_enter Tryz.func110, Tryz.ntmps110
 go_wp2
 generalize hw3 : w.alloc (.cells (madeCells #[.int .u64 0] n) 79) = w3 at *
 have HG : w.heap.size ≤ w.heap.size := Nat.le_refl _
 generalize hg : w.heap.size = g at HG hb1 hk0 hax ⊢
 have HI0 := Lib.hid (show ShortI g n a x w3 n 0 (List.replicate n 0) w3 from ⟨hk0, by simp, Lim_zero _, ⟨Int.le_refl _, HXX.out.1⟩, by simp [win, sumB], 0, w3, Only.refl _ _, rfl⟩)
 have HX := Lib.hid hx1
 have HAX := Lib.hid hax
 have HBW := Lib.hid hb1
 have HGG := Lib.hid hg
 clear hk0 hx1 hax hb1 hw3 hmk hg
 go_loopw [5, 6] (fun rv t w4 => ∃ (k : Nat) (r : Int) (L' : List Int), k ≤ n ∧ t = .int .i64 ((k : Int) - 1) ∧ rv = .int .u64 r ∧ ShortI g n a x w3 k r L' w4) (fun _ t _ => (intOf t + 1).toNat)
 case atStart => exact ⟨n, 0, _, Nat.le_refl _, rfl, rfl, HI0.out⟩
 case round =>
  obtain ⟨k, r, L', hk, rfl, rfl, hI⟩ := hrel
  cases k with
  | succ k =>
   have h1 : decide (0 ≤ ((k + 1 : Nat) : Int) - 1) = true := by simp
   have e1 : ((k + 1 : Nat) : Int) - 1 = (k : Int) := by omega
   rw [e1] at h1 ⊢
   clear e1
   obtain ⟨nd, w5, ho, rfl⟩ := hI.only
   obtain ⟨ad, rfl, hcl⟩ := (HX.out.only ho HAX.out).2 (by have := HN.out; omega)
   have hc2 := hcl k (by have := HN.out; omega)
   have hblk : Blk w5 g L' := hI.blk
   have hce := hblk.cell k (by rw [hI.len]; omega)
   have hfr := hblk.free k
   have hm : n - k = n - (k + 1) + 1 := by omega
   have hst := short_step (m := n - (k + 1)) HXX.out hI.rest (by rw [hI.len]; omega) hI.lim HLA.out hI.val
   have HD := Lib.hid (div64_c r (lg a k) x hI.rest (HLA.out k) HXX.out.2)
   have HST := Lib.hid hst
   have HI := Lib.hid (And.intro hblk (And.intro hI.len ho))
   have HM := Lib.hid hm
   have hkn : (k : Int) < (n : Int) := by omega
   clear hI hcl hst ho hm hblk
   go_wp2_with fail
   refine (HD.out _).mono ?_
   rintro e w' ⟨rfl, ⟨nd2, rfl⟩⟩
   go_wp2
   obtain ⟨i1, i2, i3⟩ := HI.out
   obtain ⟨s1, s2, s3, s4⟩ := HST.out
   refine ⟨⟨k, _, _, by omega, by go_num, rfl, ⟨i1.set _ _, by rw [List.length_set]; exact i2, s3, s2, by rw [HM.out]; exact s4, ?_⟩⟩, by simp [intOf]⟩
   exact ⟨_, _, i3.set _ _, rfl⟩
  | zero =>
   have h1 : decide (0 ≤ ((0 : Nat) : Int) - 1) = false := by simp
   obtain ⟨nd, w5, ho, rfl⟩ := hI.only
   have hval : lv L' = lv a / x ∧ r = lv a % x := by
    have h2 := hI.val
    have h3 := hI.len
    rw [Nat.sub_zero] at h2
    have e1 : win L' 0 n = lv L' := by rw [← h3]; exact win_zero L'
    have e2 : win a 0 n = lv a := by rw [← HN.out]; exact win_zero a
    rw [e1, e2] at h2
    have := hI.rest
    obtain ⟨g1, g2⟩ := ediv_of (U := lv a) (q := lv L') HXX.out.1 (by omega) (by omega)
    exact ⟨g1.symm, by omega⟩
   have HF := Lib.hid hval
   have HR := Lib.hid (hI.blk.RL (by rw [hI.len]; omega))
   have HI := Lib.hid (And.intro hI.len (And.intro hI.lim ho))
   clear hI hval ho
   go_wp2_with fail
   refine (trimmed_c _ _ _ L' HI.out.1 (by omega) _ HR.out).mono ?_
   rintro e w7 ⟨rfl, ⟨nd7, rfl⟩⟩
   go_wp2
   go_ret2
   obtain ⟨i1, i2, i3⟩ := HI.out
   rw [HF.out.2]
   exact shortP_end i1 HR.out i2 HF.out.1 (by rw [HGG.out]; first | exact bdrN (Only.below HBW.out i3 (Nat.le_refl _)) _ | exact Only.below HBW.out i3 (Nat.le_refl _))
end Go.Proofs.YtoijlbcbbblbfaaGreatDoor
