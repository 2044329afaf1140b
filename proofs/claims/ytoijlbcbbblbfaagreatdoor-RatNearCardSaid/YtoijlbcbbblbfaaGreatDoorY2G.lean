import Derived.Test.YtoijlbcbbblbfaaGreatDoorY2F
namespace Go.Proofs.YtoijlbcbbblbfaaGreatDoor
open Go.RowKit Num
set_option linter.unusedVariables false
set_option linter.unusedSimpArgs false

/-- A quotient and a rest, as rows. -/
def DivP (v d : Int) (w : World) (e : Ending) (w' : World) : Prop := ∃ x y q r, e = .returned (.tuple #[x, y, .int .i64 0]) ∧ IsRow w' x q ∧ IsRow w' y r ∧ Lim q ∧ Tr q ∧ Lim r ∧ Tr r ∧ lv q = v / d ∧ lv r = v % d ∧ Below w.heap.size w w'

set_option maxHeartbeats 1000000 in
set_option maxRecDepth 100000 in
theorem div_zero (A0 A1 : Option Addr) (n m c0 c1 : Nat) (a b : List Int) (hn : a.length = n) (hm : b.length = m) (hn4 : n ≤ 4000) (hm4 : m ≤ 4000) (hc0 : n ≤ c0) (hc1 : m ≤ c1) (w : World) (ha : RL w A0 a) (hb : RL w A1 b) (hlb : Lim b) (hd : lv b = 0) :
  Calls Tryz.prog 90 #[.slice A0 n c0, .slice A1 m c1] w fun e w' => e = .returned (.tuple #[.slice none 0 0, .slice none 0 0, .int .i64 3]) ∧ Below w.heap.size w w' := by
 have hb0 : Below w.heap.size w (w.alloc (.cells #[.slice A0 n c0, .slice A1 m c1] 63)) := (Below.refl _ _).alloc (Nat.le_refl _) _
 have HA1 := Lib.hid (ha.below hb0 (Nat.le_refl _))
 have HB1 := Lib.hid (hb.below hb0 (Nat.le_refl _))
 have HN := Lib.hid hn
 have HM := Lib.hid hm
 have h0 : trimN b m = 0 := by
  rw [← hm, ← take_trim_len]
  have := len_of_lv (Tr_trim b) (hlb.take _) (k := 0) (by rw [lv_trim, hd]; exact Bp 0)
  omega
 have H0 := Lib.hid h0
 have HS := Lib.hid hb0
 clear ha hb hn hm hlb hd hb0 h0
 go_enter Tryz.func90, Tryz.ntmps90
 go_wp2_with fail
 refine (long2 _ _ _ _ _ _ _ hn4 hm4).mono ?_
 rintro e w' ⟨rfl, rfl⟩
 go_wp2_with fail
 refine (trimmed_c _ _ _ a HN.out hc0 _ HA1.out).mono ?_
 rintro e w5 ⟨rfl, ⟨nd, rfl⟩⟩
 go_wp2_with fail
 refine (trimmed_c _ _ _ b HM.out hc1 _ (HB1.out.drN _)).mono ?_
 rintro e w5 ⟨rfl, ⟨nd2, rfl⟩⟩
 rw [H0.out]
 go_wp2
 go_ret3
 exact ⟨rfl, bdrN HS.out _⟩

theorem one_rl (w : World) (r : Int) : RL (w.alloc (.cells #[.int .u64 r] 79)) (some ⟨w.heap.size, 0, none⟩) [r] :=
 ⟨by simp, fun _ => ⟨_, rfl, fun j hj => by
  have : j = 0 := by simp at hj; exact hj
  subst this
  simp [Addr.add, go_sem, lg]⟩⟩
theorem IsRow.below {B : Nat} {w w1 : World} {v : Value} {r : List Int} (h : IsRow w v r) (ho : Below B w w1) (hB : w.heap.size ≤ B) : IsRow w1 v r := by
 obtain ⟨A, c, rfl, h1, h2⟩ := h
 exact ⟨A, c, rfl, h1, h2.below ho hB⟩
theorem Lim_one {r : Int} (h : 0 ≤ r ∧ r < B) : Lim [r] := fun j => by
 cases j with
 | zero => exact h
 | succ j => rw [lg_out (by simp)]; exact ⟨Int.le_refl _, by decide⟩
theorem Lim_nil : Lim [] := fun j => by rw [lg_out (by simp)]; exact ⟨Int.le_refl _, by decide⟩
theorem isrow_copy {w : World} {g m cap : Nat} {l : List Int} (h : Blk w g l) (hl : l.length = m) (hm : m ≤ 100000) (hc : m ≤ cap) : IsRow w (.slice (some ⟨g, 0, none⟩) m cap) l :=
 ⟨_, cap, by rw [hl], by rw [hl]; exact hc, h.RL (by omega)⟩
theorem isrow_nil (w : World) : IsRow w (.slice none 0 0) [] := ⟨none, 0, rfl, Nat.le_refl _, by simp, fun h => by simp at h⟩

set_option maxHeartbeats 1000000 in
set_option maxRecDepth 100000 in
theorem div_less (A0 A1 : Option Addr) (n m c0 c1 : Nat) (a b : List Int) (hn : a.length = n) (hm : b.length = m) (hn4 : n ≤ 4000) (hm4 : m ≤ 4000) (hc0 : n ≤ c0) (hc1 : m ≤ c1) (w : World) (ha : RL w A0 a) (hb : RL w A1 b) (hla : Lim a) (hlb : Lim b) (hlt : lv a < lv b) :
  Calls Tryz.prog 90 #[.slice A0 n c0, .slice A1 m c1] w (DivP (lv a) (lv b) w) := by
 have hb0 : Below w.heap.size w (w.alloc (.cells #[.slice A0 n c0, .slice A1 m c1] 63)) := (Below.refl _ _).alloc (Nat.le_refl _) _
 have HA1 := Lib.hid (ha.below hb0 (Nat.le_refl _))
 have HB1 := Lib.hid (hb.below hb0 (Nat.le_refl _))
 have HN := Lib.hid hn
 have HM := Lib.hid hm
 have hord := ordL_val (hla.take (trimN a a.length)) (hlb.take (trimN b b.length)) (Tr_trim a) (Tr_trim b)
 rw [lv_trim, lv_trim, take_trim_len, take_trim_len, hn, hm, cmpI_lt hlt] at hord
 have hpl := take_trim_len a
 have hql := take_trim_len b
 have h0 : trimN b m ≠ 0 := by
  intro h
  rw [hm, h] at hql
  have h1 := lv_trim b
  rw [hm, h] at h1
  have := (lv_bd hla).1
  simp [lv_nil] at h1
  omega
 have h0b : ((trimN b m : Int) == 0) = false := beq_eq_false_iff_ne.mpr (by omega)
 have hva : lv (a.take (trimN a n)) = lv a := by rw [← hn]; exact lv_trim a
 have hta : Tr (a.take (trimN a n)) := by rw [← hn]; exact Tr_trim a
 rw [hn] at hpl
 rw [hm] at hql
 have hp4 := trimN_le a n
 have HP := Lib.hid hpl
 have HQ := Lib.hid hql
 have HO := Lib.hid hord
 have HS := Lib.hid hb0
 have HF := Lib.hid (And.intro hva (And.intro hta (And.intro (hla.take (trimN a n)) (And.intro (lv_bd hla).1 hlt))))
 clear ha hb hn hm hla hlb hpl hql hb0 hord hlt h0 hva hta
 go_enter Tryz.func90, Tryz.ntmps90
 go_wp2_with fail
 refine (long2 _ _ _ _ _ _ _ hn4 hm4).mono ?_
 rintro e w' ⟨rfl, rfl⟩
 go_wp2_with fail
 refine (trimmed_c _ _ _ a HN.out hc0 _ HA1.out).mono ?_
 rintro e w5 ⟨rfl, ⟨nd, rfl⟩⟩
 go_wp2_with fail
 refine (trimmed_c _ _ _ b HM.out hc1 _ (HB1.out.drN _)).mono ?_
 rintro e w5 ⟨rfl, ⟨nd2, rfl⟩⟩
 go_wp2_with fail
 refine (order_c _ _ _ _ _ _ _ _ HP.out HQ.out _ ((HA1.out.take _).drN _) ((HB1.out.take _).drN _)).mono ?_
 rintro e w5 ⟨rfl, ⟨nd3, rfl⟩⟩
 rw [HO.out]
 go_wp2_with (at_builtin; refine wp_copy rfl (.tmp 34) (.tmp 35) rfl _ (w.heap.size + 1) (trimN a n) (trimN a n) A0 (a.take (trimN a n)) rfl rfl ?_ HP.out (by omega) ?_ ?_; exact alloc_last _ _ _ (by simp); exact ((HA1.out.take _).drN _).below ((Below.refl _ _).alloc (Nat.le_refl _) _) (Nat.le_refl _); intro g cap w2 hk hg hb2 hcap)
 go_ret3
 obtain ⟨f1, f2, f3, f4, f5⟩ := HF.out
 have hb3 : Below w.heap.size w w2 := (bdrN HS.out (nd + nd2 + nd3)).trans ((((Below.refl _ _).alloc (by simp) _).trans hb2).mono (by omega))
 exact ⟨_, _, [], _, rfl, isrow_nil _, isrow_copy hk HP.out (by omega) hcap, Lim_nil, .inl rfl, f3, f2, by rw [lv_nil, Int.ediv_eq_zero_of_lt f4 f5], by rw [f1, Int.emod_eq_of_lt f4 f5], hb3⟩

set_option maxHeartbeats 1000000 in
set_option maxRecDepth 100000 in
theorem div_one (A0 A1 : Option Addr) (n m c0 c1 : Nat) (a b : List Int) (hn : a.length = n) (hm : b.length = m) (hn4 : n ≤ 4000) (hm4 : m ≤ 4000) (hc0 : n ≤ c0) (hc1 : m ≤ c1) (w : World) (ha : RL w A0 a) (hb : RL w A1 b) (hla : Lim a) (hlb : Lim b)
  (hle : lv b ≤ lv a) (h1 : trimN b m = 1) :
  Calls Tryz.prog 90 #[.slice A0 n c0, .slice A1 m c1] w (DivP (lv a) (lv b) w) := by
 have hb0 : Below w.heap.size w (w.alloc (.cells #[.slice A0 n c0, .slice A1 m c1] 63)) := (Below.refl _ _).alloc (Nat.le_refl _) _
 have HA1 := Lib.hid (ha.below hb0 (Nat.le_refl _))
 have hb1 := hb.below hb0 (Nat.le_refl _)
 have HB1 := Lib.hid hb1
 have HN := Lib.hid hn
 have HM := Lib.hid hm
 have hord := ordL_val (hla.take (trimN a a.length)) (hlb.take (trimN b b.length)) (Tr_trim a) (Tr_trim b)
 rw [lv_trim, lv_trim, take_trim_len, take_trim_len, hn, hm] at hord
 have h2 : decide (cmpI (lv a) (lv b) < 0) = false := by
  rcases cmpI_cases (lv a) (lv b) with ⟨h, hc⟩ | ⟨h, hc⟩ | ⟨h, hc⟩ <;> rw [hc] <;> first | rfl | omega
 rw [← hord] at h2
 have hpl := take_trim_len a
 have hql := take_trim_len b
 rw [hn] at hpl
 rw [hm] at hql
 have hva : lv (a.take (trimN a n)) = lv a := by rw [← hn]; exact lv_trim a
 have hvb : lv (b.take (trimN b m)) = lv b := by rw [← hm]; exact lv_trim b
 have htb : Tr (b.take (trimN b m)) := by rw [← hm]; exact Tr_trim b
 have hp4 := trimN_le a n
 have hq4 := trimN_le b m
 have hlt1 := hlb.take (trimN b m)
 rw [h1] at hql hvb htb hlt1 h2
 have hb2 := hb1.take 1
 generalize hy : b.take 1 = y at *
 have hy0 : lv y = lg y 0 := by unfold lv; rw [hql]; simp [sumB]
 have hyp : 0 < lg y 0 ∧ lg y 0 < B := by
  have := hlt1 0
  rcases htb with h | h
  ·omega
  ·rw [hql] at h
   exact ⟨by have : lg y 0 ≠ 0 := h; omega, this.2⟩
 obtain ⟨bd, rfl, hcb⟩ := hb2.2 (by omega)
 have hcb0 := hcb 0 (by omega)
 have hcbw : (w.alloc (.cells #[.slice A0 n c0, .slice (some bd) m c1] 63)).cell? bd = some (.int .u64 (lg y 0)) := hcb0
 have HP := Lib.hid hpl
 have HQ := Lib.hid hql
 have HO := Lib.hid h2
 have H1 := Lib.hid h1
 have HS := Lib.hid hb0
 have HY := Lib.hid hb2
 have HF := Lib.hid (And.intro hva (And.intro (hla.take (trimN a n)) (And.intro (hvb.symm.trans hy0) hyp)))
 clear ha hb hn hm hla hlb hpl hql hb0 hord h2 hva hvb htb hlt1 hy hy0 hyp h1 hb2 hcb hcb0 hb1
 go_enter Tryz.func90, Tryz.ntmps90
 go_wp2_with fail
 refine (long2 _ _ _ _ _ _ _ hn4 hm4).mono ?_
 rintro e w' ⟨rfl, rfl⟩
 go_wp2_with fail
 refine (trimmed_c _ _ _ a HN.out hc0 _ HA1.out).mono ?_
 rintro e w5 ⟨rfl, ⟨nd, rfl⟩⟩
 go_wp2_with fail
 refine (trimmed_c _ _ _ b HM.out hc1 _ (HB1.out.drN _)).mono ?_
 rintro e w5 ⟨rfl, ⟨nd2, rfl⟩⟩
 rw [H1.out]
 go_wp2_with fail
 refine (order_c _ _ _ _ _ _ _ y HP.out HQ.out _ ((HA1.out.take _).drN _) (HY.out.drN _)).mono ?_
 rintro e w5 ⟨rfl, ⟨nd3, rfl⟩⟩
 have HO2 := HO.out
 go_wp2_with fail
 refine (short_c A0 _ _ _ (lg y 0) HP.out (by omega) HF.out.2.2.2 _ ((HA1.out.take _).drN _) HF.out.2.1).mono ?_
 rintro e w5 ⟨u, qq, rfl, hq1, hq2, hq3, hq4, hq5⟩
 obtain ⟨f1, f2, f3, f4⟩ := HF.out
 have hr0 : 0 ≤ lv (a.take (trimN a n)) % lg y 0 := Int.emod_nonneg _ (by omega)
 have hr1 : lv (a.take (trimN a n)) % lg y 0 < lg y 0 := Int.emod_lt_of_pos _ f4.1
 rw [f1] at hr0 hr1 hq4 ⊢
 rw [← f3] at hr0 hr1 hq4 f4 ⊢
 generalize hrr : lv a % lv b = rr at *
 have HQ1 := Lib.hid (And.intro hq1 (And.intro hq2 (And.intro hq3 (And.intro hq4 (And.intro hq5 hrr)))))
 have HR := Lib.hid (one_rl w5 rr)
 have HL := Lib.hid (Lim_one (r := rr) ⟨hr0, by omega⟩)
 clear hq1 hq2 hq3 hq4 hq5 f1 f2 f3 f4 hr0 hr1 hrr
 go_wp2_with fail
 refine (trimmed_c _ 1 _ [rr] rfl (Nat.le_refl _) _ HR.out).mono ?_
 rintro e w6 ⟨rfl, ⟨nd6, rfl⟩⟩
 go_wp2
 go_ret3
 obtain ⟨hq1, hq2, hq3, hq4, hq5, hrr⟩ := HQ1.out
 have hb5 : Below w5.heap.size w5 ((w5.alloc (.cells #[.int .u64 rr] 79)).drewN nd6) := bdrN ((Below.refl _ _).alloc (Nat.le_refl _) _) _
 have htr := Tr_trim [rr]
 have hlv := lv_trim [rr]
 have hlen := take_trim_len [rr]
 refine ⟨_, _, qq, [rr].take (trimN [rr] 1), rfl, hq1.below hb5 (Nat.le_refl _), ⟨_, _, by rw [show (1 : Nat) = [rr].length from rfl, hlen]; rfl, by rw [show (1 : Nat) = [rr].length from rfl, hlen]; exact Nat.le_refl _, (HR.out.take _).drN _⟩, hq2, hq3, HL.out.take _, htr, hq4, ?_, ?_⟩
 ·rw [hrr]
  refine hlv.trans ?_
  simp [lv, sumB, lg]
 ·have hx : Below w.heap.size w w5 := (bdrN HS.out _).trans (hq5.mono (by simp))
  exact hx.trans (hb5.mono hx.size)
end Go.Proofs.YtoijlbcbbblbfaaGreatDoor
