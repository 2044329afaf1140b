import Derived.Test.YtoijlbcbbblbfaaGreatDoorZzG3x0
import Derived.Test.YtoijlbcbbblbfaaGreatDoorY2Rd
namespace Go.Proofs.YtoijlbcbbblbfaaGreatDoor
open Go.RowKit
open Num hiding B B_eq Lim sumB win sumB_congr Bp Bs sumB_bd subD subC sub_one addD addC add_one win_s win_congr take_step mul_one addp_step lv sumB_zero lv_of lv_bd lv_nil lv_trim Lim_zero win_zero sum_step Bmono sum_end len_of_lv ordN_val lv_lt_of_len ordL_val take_end win_split mul_step win_low win_bd win_change YB lv_set OfI dgt_lv
open Num32
set_option linter.unusedVariables false
set_option linter.unusedSimpArgs false

structure TxtI (V : Nat) (k : Nat) (w0 w1 : World) (A : Option Addr) (l : List Int) (c : Nat) (S : ByteArray) : Prop where
 rl : RL w1 A l
 ll : Lim l
 tl : Tr l
 le : l.length ≤ 9000
 cl : l.length ≤ c
 val : lv l = ((V / 10 ^ k : Nat) : Int)
 txt : dec V = dec (V / 10 ^ k) ++ S.data.toList
 sz : S.size = k
 bel : Below w0.heap.size w0 w1
 kb : k ≤ 3001
theorem k_small3 {V k : Nat} (hV : (V : Int) < 256 ^ 1000) (h : 0 < V / 10 ^ k) : k ≤ 3000 := by
 have h1 : 10 ^ k ≤ V := by
  refine Nat.le_of_not_lt fun h2 => ?_
  rw [Nat.div_eq_of_lt h2] at h
  omega
 refine Nat.le_of_not_lt fun h2 => ?_
 obtain ⟨E, hE⟩ : ∃ E : Nat, E = 1000 := ⟨_, rfl⟩
 rw [← hE] at hV
 have h3 : 2 ^ (3 * k) ≤ 10 ^ k := by
  rw [Nat.pow_mul]
  exact Nat.pow_le_pow_left (by decide) k
 have h4 : (2 : Nat) ^ (8 * E) ≤ 2 ^ (3 * k) := Nat.pow_le_pow_right (by decide) (by omega)
 have h5 : (256 : Int) ^ E = ((2 ^ (8 * E) : Nat) : Int) := by
  rw [Nat.pow_mul, Int.natCast_pow]
  rfl
 rw [h5] at hV
 have hV := Int.ofNat_lt.1 hV
 omega
theorem byte_text (d : Nat) (hd : d < 256) (w : World) : (convert 94 9 (.slice (some ⟨w.heap.size, 0, none⟩) 1 1)).run Tryz.prog (w.alloc (.cells #[.int .u8 (d : Int)] 5)) = .ok (.string ⟨#[UInt8.ofNat d]⟩) (w.alloc (.cells #[.int .u8 (d : Int)] 5)) := by
 have := run_convert_bytes_back (P := Tryz.prog) (w.alloc (.cells #[.int .u8 (d : Int)] 5)) 94 9 5 ⟨w.heap.size, 0, none⟩ 1 [UInt8.ofNat d] Tryz.underlying94 Tryz.underlying5 Tryz.underlying9 (fun j hj => by
  have : j = 0 := by simpa using hj
  subst this
  rw [show (⟨w.heap.size, 0, none⟩ : Addr).add 0 = ⟨w.heap.size, 0, none⟩ from by simp [Addr.add], one8]
  simp [ofNat_toNat_lt hd])
 exact this

set_option maxHeartbeats 2000000 in
set_option maxRecDepth 100000 in
theorem text_r (n1 : Bool) (s1 : ByteArray) (h1 : s1.size ≤ 1000) (hok : okI n1 s1) (w : World) :
  Calls Tryz.prog 66 #[.agg #[.bool n1, .string s1]] w fun e w' => e = .returned (.string ⟨(textL n1 (nv s1).toNat).toArray⟩) ∧ Below w.heap.size w w' := by
 obtain ⟨w1, hw1⟩ : ∃ w1, w1 = w.alloc (.cells #[.bool n1, .string s1] 24) := ⟨_, rfl⟩
 have hb1 : Below w.heap.size w w1 := by rw [hw1]; exact (Below.refl _ _).alloc (Nat.le_refl _) _
 have u0 : w1.cell? ⟨w.heap.size, 0, none⟩ = some (.bool n1) := by rw [hw1]; simp [go_sem]
 have u1 : w1.cell? ⟨w.heap.size, 1, none⟩ = some (.string s1) := by rw [hw1]; simp [go_sem]
 have hsz : w1.heap.size = w.heap.size + 1 := by rw [hw1]; simp
 have HW := Lib.hid hw1
 have HS := Lib.hid hb1
 have HSZ := Lib.hid hsz
 have HU := Lib.hid (And.intro u0 u1)
 have HC := Lib.hid (digits_r s1 (by omega) w1)
 have HV := Lib.hid (show nv s1 < 256 ^ 1000 ∧ 0 ≤ nv s1 from ⟨size_pow h1, (nv_bd s1).1⟩)
 obtain ⟨V, hV⟩ : ∃ V, (nv s1).toNat = V := ⟨_, rfl⟩
 have HVV := Lib.hid hV
 have HNV := Lib.hid (show n1 = true → V ≠ 0 by
  intro hn h0
  have h2 := hok.2.2 hn
  have h3 := size_of_canon hok.2.1
  have h4 := (nv_bd s1).1
  rw [show nv s1 = 0 by omega, nb_zero] at h3
  omega)
 have HL := Lib.hid h1
 rw [hV]
 clear u0 u1 hsz hb1 hw1 hV h1 hok
 go_enter Tryz.func66, Tryz.ntmps66
 go_wp2_with fail
 rw [← HW.out]
 refine (HC.out).mono ?_
 rintro e w3 ⟨_, r1, rfl, ⟨g1, c1, rfl, hg1, hc1, hr1⟩, hl1, ht1, hv1, hbr⟩
 have hlen : r1.length ≤ 9000 := by
  have h2 := size_pow HL.out
  have : r1.length ≤ 250 := by
   apply len_of_lv ht1 hl1
   rw [hv1, ← YB]
   exact h2
  omega
 obtain ⟨n0, hn0⟩ : ∃ n0, r1.length = n0 := ⟨_, rfl⟩
 have HN0 := Lib.hid hn0
 have H0 := Lib.hid (show TxtI V 0 w1 w3 (some ⟨g1, 0, none⟩) r1 c1 ⟨#[]⟩ from ⟨hr1, hl1, ht1, hlen, hc1, by rw [hv1]; simp; have h1 := HVV.out; have h2 := HV.out.2; omega, by simp, rfl, hbr, by omega⟩)
 rw [hn0]
 clear hr1 hl1 ht1 hv1 hbr hc1 hg1 hlen hn0
 go_wp2
 go_loopg [3, 4] V (fun gk x s w4 => ∃ (k : Nat) (A : Option Addr) (na c : Nat) (l : List Int) (S : ByteArray), Hid (gk = V / 10 ^ k) ∧ x = .slice A na c ∧ s = .string S ∧ Hid (l.length = na) ∧ Hid (TxtI V k w1 w4 A l c S))
 case atStart => exact ⟨0, _, n0, c1, r1, _, Lib.hid (by simp), rfl, rfl, HN0, H0⟩
 case round =>
  obtain ⟨k, A, na, c, l, S, hgk, rfl, rfl, HLN, HI⟩ := hrel
  have HNA := Lib.hid (show na ≤ 9000 by have h1 := HI.out.le; rw [HLN.out] at h1; exact h1)
  by_cases hz : na = 0
  ·subst hz
   have hV0 : V / 10 ^ k = 0 := by
    have h1 := HI.out.val
    have h2 : l = [] := List.eq_nil_of_length_eq_zero HLN.out
    rw [h2, show lv ([] : List Int) = 0 from rfl] at h1
    omega
   have hT := HI.out.txt
   rw [hV0, dec_zero, List.nil_append] at hT
   have hsl : S.size = S.data.toList.length := by simp
   have q0 := (HI.out.bel.cell (p := ⟨w.heap.size, 0, none⟩) (by have := HSZ.out; simp; omega)).trans HU.out.1
   have HB := Lib.hid (HS.out.trans (HI.out.bel.mono HS.out.size))
   have hss : S.size ≤ 3001 := by
    have h1 := HI.out.sz
    have h2 := HI.out.kb
    omega
   have hl1 : (9223372036854775807 < 1 + S.size) = False := eq_false (by omega)
   have hl2 : ((9223372036854775807 : Int) < 1 + (S.size : Int)) = False := eq_false (by omega)
   have HT := Lib.hid hT
   by_cases hv0 : V = 0
   ·have hs0 : S.size = 0 := by rw [hsl, ← hT, hv0, dec_zero]; rfl
    obtain ⟨t1, t2⟩ := toList_nil hs0
    have hnf : n1 = false := by
     cases n1 with
     | false => rfl
     | true => exact absurd hv0 (HNV.out rfl)
    subst hnf
    have HV0 := Lib.hid hv0
    clear hT hsl hss hs0 hv0 hV0
    go_wp2
    go_ret
    exact ⟨by rw [HV0.out] <;> rfl, HB.out⟩
   ·have hs0 : 0 < S.size := by rw [hsl, ← hT]; exact List.length_pos_iff.2 (dec_ne (by omega))
    obtain ⟨t1, t2⟩ := toList_ne hs0
    have HV0 := Lib.hid hv0
    clear hT hsl hss hs0 hv0 hV0
    cases n1 with
    | true =>
     go_wp2
     go_ret
     refine ⟨?_, HB.out⟩
     have : (⟨#[45]⟩ : ByteArray) ++ S = ⟨(textL true V).toArray⟩ := by
      unfold textL
      rw [if_pos rfl, HT.out]
      apply ByteArray.ext
      simp
     rw [← this]
     rfl
    | false =>
     go_wp2
     go_ret
     refine ⟨?_, HB.out⟩
     have : S = ⟨(textL false V).toArray⟩ := by
      unfold textL
      rw [if_neg (by decide), if_neg HV0.out, HT.out]
     rw [← this]
     rfl
  ·have ht : decide ((0 : Int) < (na : Int)) = true := decide_eq_true (by omega)
   have ht2 : (0 < na) = True := eq_true (by omega)
   have ht3 : ((0 : Int) < (na : Int)) = True := eq_true (by omega)
   have hpos : 0 < lv l := by
    have h1 := (lv_bd HI.out.ll).1
    have h2 : lv l ≠ 0 := fun e => hz (by
     rw [← HLN.out]
     have h3 := len_of_lv (k := 0) HI.out.tl HI.out.ll (by rw [e]; decide)
     omega)
    omega
   have hN0 : 0 < V / 10 ^ k := by have := HI.out.val; omega
   have HP := Lib.hid hN0
   have HKS := Lib.hid (k_small3 (by have h1 := HVV.out; have h2 := HV.out; rw [← h1]; omega) hN0)
   have HDM := Lib.hid (divmod_r A (some ⟨wr.heap.size, 0, none⟩) na 1 c 1 l [10] HLN.out rfl (by have := HNA.out; omega) (by omega) (by omega) (wr.alloc (.cells #[.int .u64 10] 79)) (rl_below ((Below.refl _ _).alloc (Nat.le_refl _) _) HI.out.rl (Nat.le_refl _)) (rl_one wr _) HI.out.ll (lim_one32 ⟨by omega, by omega⟩) (.inr (by decide)) (by rw [lv_one32]; decide))
   clear hz hpos hN0
   go_wp2_with fail
   refine (HDM.out).mono ?_
   rintro e w4 ⟨x, y, q, r, rfl, ⟨A1, c1', rfl, hqc, hql⟩, ⟨A2, c2, rfl, hrc, hrl⟩, hlq, htq, hlr, htr, hvq, hvr, hbr⟩
   rw [lv_one32] at hvq hvr
   have hb4 : Below wr.heap.size wr w4 := ((Below.refl _ _).alloc (Nat.le_refl _) _).trans (hbr.mono (by simp))
   obtain ⟨C, hC⟩ : ∃ C, C = V / 10 ^ k % 10 := ⟨_, rfl⟩
   have hvC : lv r = (C : Int) := by rw [hvr, HI.out.val, hC]; rfl
   have hvq2 : lv q = ((V / 10 ^ (k + 1) : Nat) : Int) := by
    rw [hvq, HI.out.val, Nat.pow_succ, ← Nat.div_div_eq_div_mul]; rfl
   have hC10 : C < 10 := by rw [hC]; exact Nat.mod_lt _ (by decide)
   have hr1 : r.length ≤ 1 := by
    apply len_of_lv htr hlr
    rw [hvC]
    have h3 : (B : Int) = 4294967296 := rfl
    rw [h3]
    omega
   obtain ⟨nr, hnr⟩ : ∃ nr, r.length = nr := ⟨_, rfl⟩
   obtain ⟨nq, hnq⟩ : ∃ nq, q.length = nq := ⟨_, rfl⟩
   have hq9 : q.length ≤ 9000 := by
    have h1 : q.length ≤ l.length := by
     apply len_of_lv htq hlq
     have h2 := (lv_bd HI.out.ll)
     have h3 := HI.out.val
     have h5 := Nat.div_le_self (V / 10 ^ k) 10
     rw [Nat.pow_succ, ← Nat.div_div_eq_div_mul] at hvq2
     omega
    have := HI.out.le
    omega
   have HR := Lib.hid (And.intro hrl (And.intro hnr (And.intro hvC hr1)))
   have HQ := Lib.hid (And.intro hql (And.intro hnq (And.intro hlq (And.intro htq (And.intro hqc (And.intro hvq2 hq9))))))
   have HC10 := Lib.hid (And.intro hC hC10)
   have HB4 := Lib.hid hb4
   rw [hnr, hnq]
   rw [hnr] at hr1
   clear hbr hb4 hvC hlq htq hlr htr hvq hvr hqc hql hrc hrl hnr hnq hvq2 hq9 hC
   obtain ⟨dg, hdg⟩ : ∃ dg : Nat, 48 + C = dg := ⟨_, rfl⟩
   have HDG := Lib.hid hdg
   clear hdg
   go_upto_if 22 with fail
   go_cut [7] (fun a wx => a = .int .u8 (dg : Int) ∧ w4 = wx)
   case first =>
    by_cases hz : nr = 0
    ·have hC0 : C = 0 := by
      have h1 := HR.out.2.2.1
      have h2 : r = [] := List.eq_nil_of_length_eq_zero (by rw [HR.out.2.1]; exact hz)
      rw [h2, show lv ([] : List Int) = 0 from rfl] at h1
      omega
     subst hz
     go_wp2
     go_meet
     exact ⟨by rw [← HDG.out, hC0]; rfl, rfl⟩
    ·obtain ⟨x1, hx1⟩ : ∃ x1, r = [x1] := by
      have h1 := HR.out.2.1
      have h2 := HR.out.2.2.2
      match r, h1 with
      | [], h1 => simp at h1; omega
      | [x], h1 => exact ⟨x, rfl⟩
      | x :: y :: l, h1 => simp at h1; omega
     have hrl := HR.out.1
     have hCx := HR.out.2.2.1
     have hn1 : nr = 1 := by
      have := HR.out.2.2.2
      omega
     subst hx1
     subst hn1
     rw [lv_one32] at hCx
     obtain ⟨ad, rfl, hcell⟩ := hrl.2 (by simp)
     have hc0 := hcell 0 (by simp)
     have hadz : ad.add 0 = ad := by simp [Addr.add]
     rw [hadz, show lg [x1] 0 = x1 from rfl, hCx] at hc0
     have b1 : IntKind.u64.wrap (48 + (C : Int)) = 48 + (C : Int) := wrap_u _ ⟨by omega, by rw [Num.B_eq]; omega⟩
     have b2 : IntKind.u8.wrap (48 + (C : Int)) = 48 + (C : Int) := by unfold IntKind.wrap; simp [IntKind.bits, IntKind.signed]; omega
     clear hcell hrl hCx hz
     go_wp2
     go_meet
     exact ⟨by rw [← HDG.out]; first | rfl | (congr 1; omega), rfl⟩
   case rest =>
    obtain ⟨rfl, rfl⟩ := hcut
    have hcv := byte_text dg (by have := HDG.out; omega)
    have hl1 : (9223372036854775807 < 1 + S.size) = False := eq_false (by have h1 := HI.out.sz; have h2 := HI.out.kb; omega)
    have hl2 : ((9223372036854775807 : Int) < 1 + (S.size : Int)) = False := eq_false (by have h1 := HI.out.sz; have h2 := HI.out.kb; omega)
    have HF := Lib.hid (fun (w7 : World) (hb : Below w4.heap.size w4 w7) => show TxtI V (k + 1) w1 w7 A1 q c1' (⟨#[UInt8.ofNat dg]⟩ ++ S) from ⟨rl_below hb HQ.out.1 (Nat.le_refl _), HQ.out.2.2.1, HQ.out.2.2.2.1, HQ.out.2.2.2.2.2.2, HQ.out.2.2.2.2.1, HQ.out.2.2.2.2.2.1, by
     rw [HI.out.txt, dec_pos HP.out, Nat.pow_succ, ← Nat.div_div_eq_div_mul, ← HC10.out.1, HDG.out, List.append_assoc]
     congr 1, by
     have := HI.out.sz
     rw [ByteArray.size_append, this]
     show 1 + k = k + 1
     omega, HI.out.bel.trans ((HB4.out.trans (hb.mono HB4.out.size)).mono HI.out.bel.size), by have := HKS.out; omega⟩)
    go_wp2
    go_roundg (V / 10 ^ (k + 1))
    case measure =>
     rw [hgk.out, Nat.pow_succ, ← Nat.div_div_eq_div_mul]
     exact Nat.div_lt_self HP.out (by decide)
    case rel => exact ⟨k + 1, A1, nq, c1', q, _, Lib.hid rfl, rfl, rfl, Lib.hid HQ.out.2.1, Lib.hid (HF.out _ ((Below.refl _ _).alloc (Nat.le_refl _) _))⟩
end Go.Proofs.YtoijlbcbbblbfaaGreatDoor
