import Derived.Test.YtoijlbcbbblbfaaGreatDoorY2Y
import Derived.Test.YtoijlbcbbblbfaaGreatDoorY2Zb
import Derived.Test.YtoijlbcbbblbfaaGreatDoorY2N6
namespace Go.Proofs.YtoijlbcbbblbfaaGreatDoor
open Go.RowKit Num
set_option linter.unusedVariables false
set_option linter.unusedSimpArgs false

/-- A number's text, of a sign and a magnitude. -/
def textL (n : Bool) (V : Nat) : List UInt8 := if n then 45 :: dec V else if V = 0 then [48] else dec V
def printV (n : Bool) (s : ByteArray) : Value := if chk n s ≠ 0 then .tuple #[.string ⟨#[]⟩, .int .i64 (chk n s)] else .tuple #[.string ⟨(textL n (nv s).toNat).toArray⟩, .int .i64 0]

theorem bel_grown {B : Nat} {w0 w w' : World} {row : Option Nat} (h : Below B w0 w) (hg : w.grownBy w' row) (hB : B ≤ w.heap.size) (hr : ∀ k, row = some k → B ≤ k) : Below B w0 w' :=
 ⟨hg.os.trans h.os, hg.tape.trans h.tape, hg.output.trans h.output, Nat.le_trans h.size hg.size, fun i hi => (hg.block i (by omega) fun e => by have := hr i e.symm; omega).trans (h.block i hi)⟩

structure OutI (base V k : Nat) (w0 w1 : World) (v : Value) (A : Option Addr) (l : List Int) (c : Nat) : Prop where
 own : w1.ownsRow base 5 1 v (18 * k) ((ds V (18 * k)).map enc8)
 n64 : No64 w1 v
 rl : RL w1 A l
 ll : Lim l
 tl : Tr l
 le : l.length ≤ 4000
 cl : l.length ≤ c
 val : lv l = ((V / 10 ^ (18 * k) : Nat) : Int)
 bel : Below base w0 w1
 bz : base ≤ w1.heap.size
 kb : k ≤ 2301
structure InI (base V k C j : Nat) (w0 w1 : World) (v : Value) (A : Option Addr) (q : List Int) : Prop where
 own : w1.ownsRow base 5 1 v (18 * k + j) ((ds V (18 * k) ++ ds C j).map enc8)
 n64 : No64 w1 v
 rl : RL w1 A q
 bel : Below base w0 w1
 bz : base ≤ w1.heap.size
theorem InI.alloc {base V k C j : Nat} {w0 w1 : World} {v : Value} {A : Option Addr} {q : List Int} (h : InI base V k C j w0 w1 v A q) (o : Obj) : InI base V k C j w0 (w1.alloc o) v A q :=
 ⟨h.own.alloc o, h.n64.keep fun g hg => heap_alloc_old w1 o (h.own.lt g hg).2, rl_below ((Below.refl _ _).alloc (Nat.le_refl _) _) h.rl (Nat.le_refl _), h.bel.alloc (Nat.le_trans h.bz (Nat.le_refl _)) o, by simp; exact Nat.le_succ_of_le h.bz⟩
theorem InI.step {base V k C j : Nat} {w0 w1 w2 : World} {v v' : Value} {A : Option Addr} {q : List Int} (h : InI base V k C j w0 w1 v A q) (ho : w2.ownsRow base 5 1 v' (18 * k + j + 1) ((ds V (18 * k) ++ ds C j).map enc8 ++ [.int .u8 ((48 + C / 10 ^ j % 10 : Nat) : Int)]))
  (hg : w1.grownBy w2 v.ownBlock) (hn : No64 w2 v') : InI base V k C (j + 1) w0 w2 v' A q :=
 ⟨by
  rw [show 18 * k + (j + 1) = 18 * k + j + 1 from rfl]
  simpa [ds] using ho, hn, h.rl.grown h.n64 hg, bel_grown h.bel hg h.bz fun k hk => (h.own.lt k hk).1, Nat.le_trans h.bz hg.size⟩
theorem own_keep {base B : Nat} {w w' : World} {v : Value} {n : Nat} {xs : List Value} (h : w.ownsRow base 5 1 v n xs) (hb : Below B w w') (hB : w.heap.size ≤ B) : w'.ownsRow base 5 1 v n xs := by
 refine h.kept (row := none) ⟨hb.os, hb.tape, hb.output, hb.size, fun k hk _ => hb.block k (by omega)⟩ ?_
 cases v.ownBlock with
 | none => exact .inl rfl
 | some g => exact .inr (by simp)
theorem OutI.div {base V k : Nat} {w0 w1 w2 : World} {v : Value} {A A1 : Option Addr} {l q : List Int} {c : Nat} (h : OutI base V k w0 w1 v A l c) (hb : Below w1.heap.size w1 w2) (hq : RL w2 A1 q) (C : Nat) : InI base V k C 0 w0 w2 v A1 q :=
 ⟨by simpa [ds] using own_keep h.own hb (Nat.le_refl _), h.n64.keep fun g hg => hb.block g (h.own.lt g hg).2, hq, h.bel.trans (hb.mono h.bz), Nat.le_trans h.bz hb.size⟩
theorem InI.out {base V k C : Nat} {w0 w1 : World} {v : Value} {A : Option Addr} {q : List Int} (h : InI base V k C 18 w0 w1 v A q) (hC : C = V / 10 ^ (18 * k) % 1000000000000000000) (hl : Lim q) (ht : Tr q) {c : Nat} (hc : q.length ≤ c)
  (h4 : q.length ≤ 4000) (hv : lv q = ((V / 10 ^ (18 * k) / 1000000000000000000 : Nat) : Int)) (hk : k ≤ 2300) : OutI base V (k + 1) w0 w1 v A q c := by
 have e : 18 * (k + 1) = 18 * k + 18 := by omega
 refine ⟨?_, h.n64, h.rl, hl, ht, h4, hc, ?_, h.bel, h.bz, by omega⟩
 ·have := h.own
  rw [hC, ds_join V (18 * k) 18 (by omega)] at this
  rw [e]
  exact this
 ·rw [hv, e, Nat.pow_add, Nat.div_div_eq_div_mul]
theorem k_small {V k : Nat} (hV : (V : Int) < 256 ^ 15000) (h : 0 < V / 10 ^ (18 * k)) : k ≤ 2300 := by
 have h1 : 10 ^ (18 * k) ≤ V := by
  refine Nat.le_of_not_lt fun h2 => ?_
  rw [Nat.div_eq_of_lt h2] at h
  omega
 refine Nat.le_of_not_lt fun h2 => ?_
 obtain ⟨E, hE⟩ : ∃ E : Nat, E = 15000 := ⟨_, rfl⟩
 rw [← hE] at hV
 have h3 : 2 ^ (54 * k) ≤ 10 ^ (18 * k) := by
  rw [Nat.pow_mul, Nat.pow_mul]
  exact Nat.pow_le_pow_left (by decide) k
 have h4 : (2 : Nat) ^ (8 * E) ≤ 2 ^ (54 * k) := Nat.pow_le_pow_right (by decide) (by omega)
 have h5 : (256 : Int) ^ E = ((2 ^ (8 * E) : Nat) : Int) := by
  rw [Nat.pow_mul, Int.natCast_pow]
  rfl
 rw [h5] at hV
 have hV := Int.ofNat_lt.1 hV
 omega

theorem one8 (w : World) (y : Int) (t : TypeId) : (w.alloc (.cells #[.int .u8 y] t)).cell? ⟨w.heap.size, 0, none⟩ = some (.int .u8 y) := by simp [go_sem]
theorem info8 : ∃ i, Tryz.prog.info? 5 = some i ∧ i.zero = some (.int .u8 0) ∧ i.size = 1 ∧ i.bytes = 1 := by
 have h : (Tryz.prog.info? 5).map (fun i => (i.zero, i.size, i.bytes)) = some (some (.int .u8 0), 1, 1) := by kernel_rfl
 cases hi : Tryz.prog.info? 5 with
 | none => rw [hi] at h; cases h
 | some i =>
  rw [hi] at h
  simp only [Option.map_some, Option.some.injEq, Prod.mk.injEq] at h
  exact ⟨i, rfl, h.1, h.2.1, h.2.2⟩

set_option maxHeartbeats 1000000 in
set_option maxRecDepth 100000 in
theorem print_c (n1 : Bool) (s1 : ByteArray) (h1 : s1.size ≤ 15000) (w : World) :
  Calls Tryz.prog 61 #[.agg #[.bool n1, .string s1]] w fun e w' => e = .returned (printV n1 s1) ∧ Below w.heap.size w w' := by
 obtain ⟨w2, hw2⟩ : ∃ w2, w2 = (w.alloc (.cells #[.bool n1, .string s1] 24)).alloc (.cells #[.bool n1, .string s1] 24) := ⟨_, rfl⟩
 have hb2 : Below w.heap.size w w2 := by rw [hw2]; exact ((Below.refl _ _).alloc (Nat.le_refl _) _).alloc (by simp; try omega) _
 have d0 : w2.cell? ⟨w.heap.size + 1, 0, none⟩ = some (.bool n1) := by rw [hw2]; simp [go_sem]
 have d1 : w2.cell? ⟨w.heap.size + 1, 1, none⟩ = some (.string s1) := by rw [hw2]; simp [go_sem]
 have u0 : w2.cell? ⟨w.heap.size, 0, none⟩ = some (.bool n1) := by rw [hw2]; simp [go_sem]
 have u1 : w2.cell? ⟨w.heap.size, 1, none⟩ = some (.string s1) := by rw [hw2]; simp [go_sem]
 have hsz : w2.heap.size = w.heap.size + 2 := by rw [hw2]; simp
 have HW := Lib.hid hw2
 have HS := Lib.hid hb2
 have HSZ := Lib.hid hsz
 unfold printV
 by_cases hb : chk n1 s1 = 0
 ·rw [if_neg (fun h => h hb)]
  have HC := Lib.hid (read1_c n1 s1 _ 1 w2 d0 d1 (chk_ok.1 hb))
  have HV := Lib.hid (show nv s1 < 256 ^ 15000 ∧ 0 ≤ nv s1 from ⟨size_pow h1, (nv_bd s1).1⟩)
  obtain ⟨V, hV⟩ : ∃ V, (nv s1).toNat = V := ⟨_, rfl⟩
  have HVV := Lib.hid hV
  rw [hV]
  clear d0 d1 hsz hb2 hw2 hb h1 hV
  go_enter Tryz.func61, Tryz.ntmps61
  go_wp2_with fail
  rw [← HW.out]
  refine (HC.out).mono ?_
  rintro e w3 ⟨g, c, g1, k1, r1, rfl, hg, hc, N1, hbr⟩
  have c0 := N1.c0
  have c1 := N1.c1
  have HB3 := Lib.hid (HS.out.trans (hbr.mono HS.out.size))
  have HZ3 := Lib.hid (show w.heap.size + 2 ≤ w3.heap.size by have := hbr.size; rw [HSZ.out] at this; exact this)
  have e0 := (hbr.cell (p := ⟨w.heap.size, 0, none⟩) (by simp [HSZ.out])).trans u0
  have e1 := (hbr.cell (p := ⟨w.heap.size, 1, none⟩) (by simp [HSZ.out])).trans u1
  have H0 := Lib.hid (show OutI w3.heap.size V 0 w3 w3 (.slice none 0 0) (some ⟨g1, 0, none⟩) r1 k1 from ⟨World.ownsRow_nil _ _ _ _, No64.nil _, N1.row, N1.lim, N1.tr, by rw [N1.len]; exact N1.le, by rw [N1.len]; exact Nat.le_refl _, by rw [N1.val]; simp; have h1 := HVV.out; have h2 := HV.out.2; omega, Below.refl _ _, Nat.le_refl _, by omega⟩)
  have HK := Lib.hid N1.len
  clear hg hbr N1 u0 u1
  go_wp2
  clear c0 c1 hc
  go_loopg [6, 7] V (fun gk o x w1 => ∃ k v A l na c, Hid (gk = V / 10 ^ (18 * k)) ∧ v = o ∧ x = .slice A na c ∧ Hid (l.length = na) ∧ Hid (OutI w3.heap.size V k w3 w1 v A l c))
  case atStart => exact ⟨0, _, _, r1, _, _, Lib.hid (by simp), rfl, rfl, HK, H0⟩
  case round =>
   obtain ⟨k, v, A, l, na, c', hgk, rfl, rfl, HLN, HI⟩ := hrel
   have HNA := Lib.hid (show na ≤ 4000 by have h1 := HI.out.le; rw [HLN.out] at h1; exact h1)
   have HCA := Lib.hid (show na ≤ c' by have h1 := HI.out.cl; rw [HLN.out] at h1; exact h1)
   by_cases hz : na = 0
   ·have ht : decide ((0 : Int) < (na : Int)) = false := decide_eq_false (by omega)
    have ht2 : (0 < na) = False := eq_false (by omega)
    have ht3 : ((0 : Int) < (na : Int)) = False := eq_false (by omega)
    have hV0 : V < 10 ^ (18 * k) := by
     have h1 := HI.out.val
     have h2 : l = [] := List.eq_nil_of_length_eq_zero (by rw [HLN.out]; exact hz)
     rw [h2, show lv ([] : List Int) = 0 from lv_nil] at h1
     refine Nat.lt_of_not_le fun h3 => ?_
     have := Nat.div_pos h3 (Nat.pow_pos (by decide))
     omega
    obtain ⟨S, hS⟩ : ∃ S : ByteArray, (⟨(bys (ds V (18 * k)).reverse).toArray⟩ : ByteArray) = S := ⟨_, rfl⟩
    obtain ⟨T, hT⟩ : ∃ T : ByteArray, (⟨(Lib.trimLeftS S.data.toList [48]).toArray⟩ : ByteArray) = T := ⟨_, rfl⟩
    have hTd : T.data.toList = dec V := by
     rw [← hT, ← hS]
     show Lib.trimLeftS (bys (ds V (18 * k)).reverse) [48] = dec V
     rw [← dec_ds (18 * k) V hV0]
     unfold Lib.trimLeftS
     congr 1
     funext b
     simp
     rfl
    have HREV := Lib.hid (rev_own w3.heap.size v (18 * k) (ds V (18 * k)) wr HI.out.own (by have := HI.out.kb; omega))
    have HTL := Lib.hid (fun w => Any.strings_TrimLeft_laid Tryz.lays161 (by kernel_rfl) S ⟨#[48]⟩ w (by decide) (ascii_of_all (by decide)))
    rw [hS] at HREV
    rw [show (⟨#[48]⟩ : ByteArray).data.toList = [48] from rfl, hT] at HTL
    have hts : T.size ≤ 50000 := by
     have h1 : T.size = T.data.toList.length := by simp
     have h2 : T.data.toList.length ≤ S.data.toList.length := by
      rw [← hT]
      exact (List.dropWhile_sublist _).length_le
     have h3 : S.data.toList.length = 18 * k := by
      rw [← hS]
      show (bys (ds V (18 * k)).reverse).length = _
      simp [bys, ds_len]
     have := HI.out.kb
     omega
    have hl1 : (9223372036854775807 < 1 + T.size) = False := eq_false (by omega)
    have hl2 : ((9223372036854775807 : Int) < 1 + (T.size : Int)) = False := eq_false (by omega)
    have HTD := Lib.hid hTd
    clear hts
    have HBI := Lib.hid HI.out.bel
    have HBZ := Lib.hid HI.out.bz
    clear hV0 hS hT hTd hz
    go_wp2_with fail
    refine (HREV.out).mono ?_
    rintro e w4 ⟨rfl, hbr, hcv⟩
    have HB4 := Lib.hid (HBI.out.trans hbr)
    clear hbr
    go_wp2_with fail
    refine (HTL.out _).mono ?_
    rintro e w5 ⟨rfl, hbr⟩
    have hb5 : Below w3.heap.size w3 w5 := HB4.out.trans (hbr.mono HB4.out.size)
    have q0 := (hb5.cell (p := ⟨w.heap.size, 0, none⟩) (by have := HZ3.out; simp; omega)).trans e0
    have HB5 := Lib.hid (HB3.out.trans (hb5.mono HB3.out.size))
    clear hb5 hbr hcv e0 e1
    cases n1 with
    | true =>
     go_wp2
     go_ret2
     refine ⟨?_, HB5.out⟩
     have : (⟨#[45]⟩ : ByteArray) ++ T = ⟨(textL true V).toArray⟩ := by
      unfold textL
      rw [if_pos rfl, ← HTD.out]
      apply ByteArray.ext
      simp
     rw [this]
     rfl
    | false =>
     by_cases hv0 : V = 0
     ·have hsz0 : T.size = 0 := by
       have h1 : T.size = T.data.toList.length := by simp
       rw [h1, HTD.out, hv0, dec_zero]
       rfl
      obtain ⟨t1, t2⟩ := toList_nil hsz0
      have HV0 := Lib.hid hv0
      clear hsz0 hv0
      go_wp2
      go_ret2
      refine ⟨?_, HB5.out⟩
      rw [HV0.out]
      rfl
     ·have hsz0 : 0 < T.size := by
       have h1 : T.size = T.data.toList.length := by simp
       have h2 := dec_ne (v := V) (by omega)
       rw [h1, HTD.out]
       exact List.length_pos_iff.2 h2
      obtain ⟨t1, t2⟩ := toList_ne hsz0
      have HV0 := Lib.hid hv0
      clear hsz0 hv0
      go_wp2
      go_ret2
      refine ⟨?_, HB5.out⟩
      have : T = ⟨(textL false V).toArray⟩ := by
       unfold textL
       rw [if_neg (by decide), if_neg HV0.out, ← HTD.out]
      rw [← this]
      rfl
   ·have ht : decide ((0 : Int) < (na : Int)) = true := decide_eq_true (by omega)
    have ht2 : (0 < na) = True := eq_true (by omega)
    have ht3 : ((0 : Int) < (na : Int)) = True := eq_true (by omega)
    have hpos : 0 < lv l := by
     have h1 := (lv_bd HI.out.ll).1
     have h2 : lv l ≠ 0 := fun e => hz (by rw [← HLN.out]; exact len_zero HI.out.tl e HI.out.ll)
     omega
    have HP := Lib.hid (show 0 < V / 10 ^ (18 * k) by have := HI.out.val; omega)
    have HKS := Lib.hid (k_small (by have h1 := HVV.out; have h2 := HV.out; rw [← h1]; omega) HP.out)
    clear hz hpos
    go_wp2_with fail
    refine (div_c A (some ⟨wr.heap.size, 0, none⟩) na 1 c' 1 l [1000000000000000000] HLN.out rfl HNA.out (by omega) HCA.out (by omega) (wr.alloc (.cells #[.int .u64 1000000000000000000] 79)) (rl_below ((Below.refl _ _).alloc (Nat.le_refl _) _) HI.out.rl (Nat.le_refl _)) (rl_one wr _) HI.out.ll (lim_one ⟨by omega, by rw [B_eq]; omega⟩) (by rw [lv_one]; decide)).mono ?_
    rintro e w4 ⟨x, y, q, r, rfl, ⟨A1, c1, rfl, hqc, hql⟩, ⟨A2, c2, rfl, hrc, hrl⟩, hlq, htq, hlr, htr, hvq, hvr, hbr⟩
    rw [lv_one] at hvq hvr
    have hb4 : Below wr.heap.size wr w4 := ((Below.refl _ _).alloc (Nat.le_refl _) _).trans (hbr.mono (by simp))
    obtain ⟨C, hC⟩ : ∃ C, C = V / 10 ^ (18 * k) % 1000000000000000000 := ⟨_, rfl⟩
    have hvC : lv r = (C : Int) := by rw [hvr, HI.out.val, hC]; rfl
    have HC18 := Lib.hid (show C = V / 10 ^ (18 * k) % 1000000000000000000 ∧ C < 1000000000000000000 from ⟨hC, by rw [hC]; exact Nat.mod_lt _ (by decide)⟩)
    have HQ := Lib.hid (And.intro hlq (And.intro htq (show lv q = ((V / 10 ^ (18 * k) / 1000000000000000000 : Nat) : Int) by rw [hvq, HI.out.val]; rfl)))
    have hr1 : r.length ≤ 1 := by
     apply len_of_lv htr hlr
     rw [hvC]
     have := HC18.out.2
     have h3 : (B : Int) = 18446744073709551616 := B_eq
     rw [h3]
     omega
    obtain ⟨nr, hnr⟩ : ∃ nr, r.length = nr := ⟨_, rfl⟩
    obtain ⟨nq, hnq⟩ : ∃ nq, q.length = nq := ⟨_, rfl⟩
    have HNQ := Lib.hid (show q.length = nq ∧ nq ≤ c1 ∧ q.length ≤ 4000 from ⟨hnq, by rw [← hnq]; exact hqc, by
     have h1 : q.length ≤ l.length := by
      apply len_of_lv htq hlq
      have h2 := (lv_bd HI.out.ll)
      have h3 := HQ.out.2.2
      have h4 := HI.out.val
      have h5 := Nat.div_le_self (V / 10 ^ (18 * k)) 1000000000000000000
      omega
     have := HI.out.le
     omega⟩)
    have H1 := Lib.hid (HI.out.div hb4 hql C)
    rw [hnr, hnq]
    rw [hnr] at hr1
    have HR := Lib.hid (And.intro hrl (And.intro hnr (And.intro hvC hr1)))
    clear hbr hb4 hC hvC hlq htq hlr htr hvq hvr hqc hql hrc hrl hnr hnq hr1
    go_upto_if 38 with fail
    go_cut [11] (fun a wx => a = .int .u64 (C : Int) ∧ w4 = wx)
    case first =>
     by_cases hz : nr = 0
     ·have hC0 : C = 0 := by
       have h1 := HR.out.2.2.1
       have h2 : r = [] := List.eq_nil_of_length_eq_zero (by rw [HR.out.2.1]; exact hz)
       rw [h2] at h1
       have h3 : lv ([] : List Int) = 0 := lv_nil
       omega
      subst hz
      go_wp2
      go_meet
      exact ⟨by rw [hC0]; rfl, rfl⟩
     ·have ht : decide ((0 : Int) < (nr : Int)) = true := decide_eq_true (by omega)
      have ht2 : (0 < nr) = True := eq_true (by omega)
      have ht3 : ((0 : Int) < (nr : Int)) = True := eq_true (by omega)
      obtain ⟨x1, hx1⟩ : ∃ x1, r = [x1] := by
       have h1 := HR.out.2.1
       have h2 := HR.out.2.2.2
       match r, h1 with
       | [], h1 => simp at h1; omega
       | [x], h1 => exact ⟨x, rfl⟩
       | x :: y :: l, h1 => simp at h1; omega
      have hrl := HR.out.1
      have hCx := HR.out.2.2.1
      have hn1 : nr = 1 := by
       have := HR.out.2.2.2
       omega
      subst hx1
      subst hn1
      rw [lv_one] at hCx
      obtain ⟨ad, rfl, hcell⟩ := hrl.2 (by simp)
      have hc0 := hcell 0 (by simp)
      have hadz : ad.add 0 = ad := by simp [Addr.add]
      rw [hadz, show lg [x1] 0 = x1 from rfl, hCx] at hc0
      clear hcell hrl hCx hz ht ht2 ht3
      go_wp2
      go_meet
      exact ⟨rfl, rfl⟩
    case rest =>
     obtain ⟨rfl, rfl⟩ := hcut
     go_wp2
     have HKB := Lib.hid (show 18 * k ≤ 50000 by have := HKS.out; omega)
     obtain ⟨i8, hi8, hz8, hs8, hy8⟩ := info8
     have HI8 := Lib.hid (And.intro hi8 (And.intro hz8 (And.intro hs8 hy8)))
     clear hi8 hz8 hs8 hy8
     go_loopg [6, 11, 42] 18 (fun gk o x t w1 => ∃ j v, Hid (gk = 18 - j ∧ j ≤ 18) ∧ v = o ∧ x = .int .u64 ((C / 10 ^ j : Nat) : Int) ∧ t = .int .i64 (j : Int) ∧ Hid (InI w3.heap.size V k C j w3 w1 v A1 q))
     case atStart => exact ⟨0, _, Lib.hid ⟨rfl, by omega⟩, rfl, by simp, rfl, H1⟩
     case round =>
      obtain ⟨j, v, hgj, rfl, rfl, rfl, HJ⟩ := hrel
      by_cases hlt : j < 18
      ·have t1 : decide ((j : Int) < 18) = true := decide_eq_true (by omega)
       obtain ⟨R, hR⟩ : ∃ R, C / 10 ^ j = R := ⟨_, rfl⟩
       have hRC : R < 1000000000000000000 := by rw [← hR]; exact Nat.lt_of_le_of_lt (Nat.div_le_self _ _) HC18.out.2
       have hR2 : C / 10 ^ (j + 1) = R / 10 := by rw [← hR, Nat.div_div_eq_div_mul, Nat.pow_succ]
       have HR2 := Lib.hid (And.intro hR hR2)
       rw [hR]
       have a1 : (R : Int).tmod 10 = ((R % 10 : Nat) : Int) := by rw [Int.tmod_eq_emod_of_nonneg (by omega)]; omega
       have a2 : (R : Int).tdiv 10 = ((R / 10 : Nat) : Int) := by rw [Int.tdiv_eq_ediv_of_nonneg (by omega)]; omega
       obtain ⟨E, hE⟩ : ∃ E, R % 10 = E := ⟨_, rfl⟩
       obtain ⟨G, hG⟩ : ∃ G, R / 10 = G := ⟨_, rfl⟩
       rw [hE] at a1
       rw [hG] at a2
       have a3 : IntKind.u64.wrap (48 + (E : Int)) = ((48 + E : Nat) : Int) := by rw [wrap_u _ ⟨by omega, by rw [B_eq]; omega⟩]; omega
       have a4 : IntKind.u8.wrap ((48 + E : Nat) : Int) = ((48 + E : Nat) : Int) := by unfold IntKind.wrap; simp [IntKind.bits, IntKind.signed]; omega
       have a5 : IntKind.u64.wrap (E : Int) = (E : Int) := wrap_u _ ⟨by omega, by rw [B_eq]; omega⟩
       have a6 : IntKind.u64.wrap (G : Int) = (G : Int) := wrap_u _ ⟨by omega, by rw [B_eq]; omega⟩
       have a7 : IntKind.i64.wrap ((j : Int) + 1) = ((j + 1 : Nat) : Int) := by rw [IntWalk.i64_in _ (by omega)]; rfl
       have HEG := Lib.hid (And.intro hE hG)
       have HLT := Lib.hid hlt
       clear hE hG hR hR2 hRC hlt
       have HE := Lib.hid (show (48 + (E : Int)) % 256 = ((48 + C / 10 ^ j % 10 : Nat) : Int) by have h1 := HEG.out.1; have h2 := HR2.out.1; rw [h2, h1]; omega)
       go_wp2_with (at_builtin; refine wpList_append8 _ rfl (.tmp 44) (.tmp 49) 94 rfl w3.heap.size 5 i8 (by kernel_rfl) HI8.out.1 HI8.out.2.1 HI8.out.2.2.1 HI8.out.2.2.2 v (18 * k + j) _ rfl (HJ.out.alloc _).own (HJ.out.alloc _).n64 ⟨wr.heap.size, 0, none⟩ 1 _ rfl (one8 _ _ _) (by have h1 := HKB.out; have h2 := HLT.out; omega) (HJ.out.alloc _).bz ?_; intro v' w5 hown5 hgr5 hn5)
       rw [HE.out] at hown5
       have HF := Lib.hid ((HJ.out.alloc _).step hown5 hgr5 hn5)
       clear hown5 hgr5 hn5
       go_wp2
       go_roundg (18 - (j + 1))
       case measure => have := hgj.out; have := HLT.out; omega
       case rel => exact ⟨j + 1, v', Lib.hid ⟨rfl, HLT.out⟩, rfl, by rw [HR2.out.2, ← HEG.out.2], rfl, HF⟩
      ·have hj18 : j = 18 := by have := hgj.out.2; omega
       subst hj18
       have HF := Lib.hid (HJ.out.out HC18.out.1 HQ.out.1 HQ.out.2.1 (by rw [HNQ.out.1]; exact HNQ.out.2.1) HNQ.out.2.2 HQ.out.2.2 HKS.out)
       clear hlt
       go_wp2
       go_roundg (V / 10 ^ (18 * (k + 1)))
       case measure =>
        rw [hgk.out, show 18 * (k + 1) = 18 * k + 18 by omega, Nat.pow_add, ← Nat.div_div_eq_div_mul]
        exact Nat.div_lt_self HP.out (by decide)
       case rel => exact ⟨k + 1, v, A1, q, nq, c1, Lib.hid rfl, rfl, rfl, Lib.hid HNQ.out.1, HF⟩
 ·have HC := Lib.hid (read1_bad n1 s1 _ 1 w2 d0 d1 hb)
  have hz1 : (chk n1 s1 == 0) = false := beq_eq_false_iff_ne.mpr hb
  have hz2 : (chk n1 s1 != 0) = true := bne_iff_ne.mpr hb
  rw [if_pos hb]
  clear d0 d1 u0 u1 hsz hb2 hw2 hb h1
  go_enter Tryz.func61, Tryz.ntmps61
  go_wp2_with fail
  rw [← HW.out]
  refine (HC.out).mono ?_
  rintro e w' ⟨rfl, hbr⟩
  have HR := Lib.hid (HS.out.trans (hbr.mono HS.out.size))
  clear hbr
  go_wp2
  go_ret2
  exact ⟨rfl, HR.out⟩
end Go.Proofs.YtoijlbcbbblbfaaGreatDoor
