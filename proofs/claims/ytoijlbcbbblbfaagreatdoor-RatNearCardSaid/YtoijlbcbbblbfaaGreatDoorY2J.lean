import Derived.Test.YtoijlbcbbblbfaaGreatDoorY2I
import Derived.Test.YtoijlbcbbblbfaaGreatDoorY2G1x0
import Derived.Laws.IdiomStrings
namespace Go.Proofs.YtoijlbcbbblbfaaGreatDoor
open Go.RowKit Num
set_option linter.unusedVariables false
set_option linter.unusedSimpArgs false

/-- Block g begins with these bytes. -/
def BlkB (w : World) (g : Nat) (l : List Int) : Prop := ∃ cur : Array Value, w.heap[g]? = some (.cells cur 5 (0, 0)) ∧ l.length ≤ cur.size ∧ ∀ j, j < l.length → cur[j]? = some (.int .u8 (lg l j))
theorem BlkB.cell {w : World} {g : Nat} {l : List Int} (h : BlkB w g l) (j : Nat) (hj : j < l.length) : w.cell? ⟨g, j, none⟩ = some (.int .u8 (lg l j)) := by
 obtain ⟨cur, h, _, hc⟩ := h
 unfold World.cell?
 rw [show w.heap[(⟨g, j, none⟩ : Addr).block]? = _ from h]
 simpa using hc j hj
theorem BlkB.free {w : World} {g : Nat} {l : List Int} (h : BlkB w g l) (j : Nat) : w.frozen? ⟨g, j, none⟩ = false := by
 obtain ⟨cur, h, _, hc⟩ := h
 unfold World.frozen?
 rw [show w.heap[(⟨g, j, none⟩ : Addr).block]? = _ from h]
 simp
theorem BlkB.set {w : World} {g : Nat} {l : List Int} (h : BlkB w g l) (j : Nat) (x : Int) : BlkB (w.setCell ⟨g, j, none⟩ (.int .u8 x)) g (l.set j x) := by
 obtain ⟨cur, h, hl, hc⟩ := h
 refine ⟨cur.setIfInBounds j (.int .u8 x), by simp [World.setCell, Array.getElem?_modify, h], by simpa using hl, fun k hk => ?_⟩
 rw [List.length_set] at hk
 rw [lg_set, Array.getElem?_setIfInBounds]
 by_cases e : j = k
 ·subst e
  rw [if_pos rfl, if_pos (by omega), if_pos ⟨rfl, hk⟩]
 ·rw [if_neg e, if_neg (by omega)]
  exact hc k hk
theorem u8_info : (Tryz.prog.info? 5).map (fun i => (i.zero, i.size, i.bytes)) = some (some (.int .u8 0), 1, 1) := by kernel_rfl
theorem make_runB (n : Nat) (hn : n ≤ 100000) (w : World) : (Instr.makeSlice 94 (.int .i64 (n : Int)) (.int .i64 (n : Int))).run Tryz.prog w = .ok (.slice (some ⟨w.heap.size, 0, none⟩) n n) (w.alloc (.cells (madeCells #[.int .u8 0] n) 5)) :=
 run_make_row' 94 5 (.int .u8 0) 1 Tryz.underlying94 u8_info (by kernel_rfl) .i64 .i64 n (by omega) (by omega) w
theorem made_blkB (w : World) (n : Nat) : BlkB (w.alloc (.cells (madeCells #[.int .u8 0] n) 5)) w.heap.size (List.replicate n 0) := by
 refine ⟨madeCells #[.int .u8 0] n, ?_, by rw [size_madeCells]; simp, fun j hj => ?_⟩
 ·rw [show (w.alloc (.cells (madeCells #[.int .u8 0] n) 5)).heap = w.heap.push (.cells (madeCells #[.int .u8 0] n) 5) from rfl, Array.getElem?_push_size]
 ·rw [lg_replicate]
  rw [List.length_replicate] at hj
  have : (madeCells #[.int .u8 0] n).toList[j]? = some (.int .u8 0) := by rw [toList_madeCells_one]; simp [hj]
  simpa using this
theorem BlkB.text {w : World} {g n c : Nat} {l : List Int} (h : BlkB w g l) (hl : l.length = n) (hb : ∀ j, 0 ≤ lg l j ∧ lg l j < 256) :
  (convert 94 22 (.slice (some ⟨g, 0, none⟩) n c)).run Tryz.prog w = .ok (.string ⟨(l.map fun x => UInt8.ofNat x.toNat).toArray⟩) w := by
 have := run_convert_bytes_back (P := Tryz.prog) w 94 22 5 ⟨g, 0, none⟩ c (l.map fun x => UInt8.ofNat x.toNat) Tryz.underlying94 Tryz.underlying5 Tryz.underlying22 (fun j hj => by
  rw [List.length_map] at hj
  have hc := h.cell j hj
  rw [show (⟨g, 0, none⟩ : Addr).add j = ⟨g, j, none⟩ by unfold Addr.add; split <;> simp_all, hc]
  have hx : lg l j = l[j] := by unfold lg; rw [List.getD_eq_getElem?_getD, List.getElem?_eq_getElem hj]; rfl
  have := hb j
  rw [List.getElem_map, ofNat_toNat_lt (by rw [hx] at this; omega), ← hx]
  congr 2
  omega)
 rw [List.length_map, hl] at this
 exact this

structure NatW (g N : Nat) (v : Int) (w : World) (k : Nat) (b : List Int) (w1 : World) : Prop where
 blk : BlkB w1 g b
 len : b.length = N
 bd : ∀ j, 0 ≤ lg b j ∧ lg b j < 256
 val : ∀ i, i < k → lg b (N - 1 - i) = dgt v i
 only : Only g w w1
theorem NatW.text {g N : Nat} {v : Int} {w : World} {b : List Int} {w1 : World} (h : NatW g N v w N b w1) (hN : nb v = N) : (⟨(b.map fun x => UInt8.ofNat x.toNat).toArray⟩ : ByteArray) = encN v := by
 unfold encN
 rw [hN]
 congr 2
 apply List.ext_getElem
 ·simp [h.len]
 ·intro i h1 h2
  rw [List.length_map, h.len] at h1
  have hv := h.val (N - 1 - i) (by omega)
  rw [show N - 1 - (N - 1 - i) = i by omega] at hv
  have hx : lg b i = b[i]'(by rw [h.len]; exact h1) := by unfold lg; rw [List.getD_eq_getElem?_getD, List.getElem?_eq_getElem (by rw [h.len]; exact h1)]; rfl
  rw [hx] at hv
  simp [hv]

set_option maxHeartbeats 1000000 in
set_option maxRecDepth 100000 in
theorem nat_c (A0 : Option Addr) (n c0 : Nat) (l : List Int) (hn : l.length = n) (hn4 : n ≤ 4000) (hc0 : n ≤ c0) (w : World) (ha : RL w A0 l) (hla : Lim l) :
  Calls Tryz.prog 105 #[.slice A0 n c0] w fun e w' => e = .returned (.tuple #[.string (encN (lv l)), .int .i64 0]) ∧ Below w.heap.size w w' := by
 have hb0 : Below w.heap.size w (w.alloc (.cells #[.slice A0 n c0] 63)) := (Below.refl _ _).alloc (Nat.le_refl _) _
 have HA1 := Lib.hid (ha.below hb0 (Nat.le_refl _))
 have HN := Lib.hid hn
 have hpl := take_trim_len l
 have hva := lv_trim l
 have htr := Tr_trim l
 rw [hn] at hpl hva htr
 have hp4 := trimN_le l n
 have hlx := hla.take (trimN l n)
 have hxr := HA1.out.take (trimN l n)
 have hb0' := hb0
 rw [← hva]
 generalize hx : l.take (trimN l n) = x at *
 generalize hp : trimN l n = p at *
 have HTA := Lib.hid hp
 have HS := Lib.hid hb0
 clear ha hn hla hb0 hx hp hva
 cases p with
 | zero =>
  have hx0 : lv x = 0 := by unfold lv; rw [hpl]; rfl
  have HX0 := Lib.hid hx0
  clear hx0 hpl htr hlx hxr
  go_enter Tryz.func105, Tryz.ntmps105
  go_wp2_with fail
  refine (long1 _ _ _ _ hn4).mono ?_
  rintro e w' ⟨rfl, rfl⟩
  go_wp2_with fail
  refine (trimmed_c _ _ _ l HN.out hc0 _ HA1.out).mono ?_
  rintro e w5 ⟨rfl, ⟨nd, rfl⟩⟩
  rw [HTA.out]
  go_wp2
  go_ret2
  rw [HX0.out, encN_zero]
  exact ⟨rfl, bdrN HS.out _⟩
 | succ p =>
  have htop : 0 < lg x p ∧ lg x p < B := by
   have := hlx p
   rcases htr with h | h
   ·omega
   ·rw [hpl] at h
    exact ⟨by have : lg x p ≠ 0 := h; omega, this.2⟩
  obtain ⟨s, hs, hs63, hs1, hs2⟩ := lz_spec (lg x p) htop.1 htop.2
  have hnb := nb_lv hlx hpl hs63 hs1 hs2
  obtain ⟨N, hN⟩ : ∃ N, 8 * (p + 1) - s / 8 = N := ⟨_, rfl⟩
  rw [hN] at hnb
  obtain ⟨ad, rfl, hc⟩ := hxr.2 (by omega)
  have hct := hc p (by omega)
  have HLZ := Lib.hid (lz_c (lg x p) ⟨by omega, htop.2⟩)
  have hmk := make_runB N (by omega)
  have HXR := Lib.hid hxr
  have HSZ := Lib.hid hs
  have HNB := Lib.hid hnb
  have HLX := Lib.hid (And.intro hlx hpl)
  have hz1 : ((p : Int) + 1 == 0) = false := beq_eq_false_iff_ne.mpr (by omega)
  have a1 : ((p : Int) + 1) * 8 - (s : Int) / 8 = (N : Int) := by omega
  have HN8 := Lib.hid hN
  clear hs hs1 hs2 hnb hxr hlx hpl htr htop hc hN
  go_enter Tryz.func105, Tryz.ntmps105
  go_wp2_with fail
  refine (long1 _ _ _ _ hn4).mono ?_
  rintro e w' ⟨rfl, rfl⟩
  go_wp2_with fail
  refine (trimmed_c _ _ _ l HN.out hc0 _ HA1.out).mono ?_
  rintro e w5 ⟨rfl, ⟨nd, rfl⟩⟩
  rw [HTA.out]
  go_wp2_with fail
  refine (HLZ.out _).mono ?_
  rintro e w5 ⟨rfl, rfl⟩
  rw [HSZ.out]
  go_wp2
  have hb1 : Below (w.heap.size + 1) ((w.alloc (.cells #[.slice (some ad) n c0] 63)).drewN nd) (((w.alloc (.cells #[.slice (some ad) n c0] 63)).drewN nd).alloc (.cells (madeCells #[.int .u8 0] N) 5)) := (Below.refl _ _).alloc (by simp) _
  have hk0 := made_blkB ((w.alloc (.cells #[.slice (some ad) n c0] 63)).drewN nd) N
  rw [show ((w.alloc (.cells #[.slice (some ad) n c0] 63)).drewN nd).heap.size = w.heap.size + 1 by simp] at hk0
  have hx1 := (HXR.out.drN nd).below hb1 (by simp)
  have hxg : ad.block ≠ w.heap.size + 1 := Nat.ne_of_lt (by have := HXR.out.lt (by rw [HLX.out.2]; omega) ad rfl; simpa using this)
  have hbw := (bdrN HS.out nd).trans (hb1.mono (by omega))
  have HG : w.heap.size ≤ w.heap.size + 1 := by omega
  generalize hw3 : ((w.alloc (.cells #[.slice (some ad) n c0] 63)).drewN nd).alloc (.cells (madeCells #[.int .u8 0] N) 5) = w3 at *
  generalize w.heap.size + 1 = g at *
  have H0 := Lib.hid (show NatW g N (lv x) w3 0 (List.replicate N 0) w3 from ⟨hk0, by simp, fun j => by rw [lg_replicate]; exact ⟨Int.le_refl _, by decide⟩, fun i h => by omega, Only.refl _ _⟩)
  have HX := Lib.hid hx1
  have HXG := Lib.hid hxg
  have HBW := Lib.hid hbw
  clear hk0 hx1 hxg hb1 hbw hw3 hmk hct a1 hz1
  go_loopw [6, 30] (fun _ t w1 => ∃ (k : Nat) (b : List Int), k ≤ N ∧ t = .int .i64 k ∧ NatW g N (lv x) w3 k b w1) (fun _ t _ => N - (intOf t).toNat)
  case atStart => exact ⟨0, _, Nat.zero_le _, rfl, H0.out⟩
  case round =>
   obtain ⟨k, b, hk, rfl, hI⟩ := hrel
   by_cases hlt : k < N
   ·have h1 : decide ((k : Int) < (N : Int)) = true := by simp; omega
    obtain ⟨q8, hq8⟩ : ∃ q8, k / 8 = q8 := ⟨_, rfl⟩
    obtain ⟨e8, he8⟩ : ∃ e8, 8 * (k % 8) = e8 := ⟨_, rfl⟩
    obtain ⟨j, hj⟩ : ∃ j, j = N - 1 - k := ⟨_, rfl⟩
    have hq : q8 < p + 1 := by have := HN8.out; omega
    obtain ⟨ad', had, hcl⟩ := (HX.out.only hI.only (fun _ ad' e => by cases e; exact HXG.out)).2 (by rw [HLX.out.2]; omega)
    cases had
    have hc2 := hcl q8 (by rw [HLX.out.2]; exact hq)
    have hce := hI.blk.cell j (by rw [hI.len]; omega)
    have hfr := hI.blk.free j
    have hd : lg x q8 / 2 ^ e8 % 256 = dgt (lv x) k := by rw [dgt_lv HLX.out.1, hq8, Y2, he8]
    have HD := Lib.hid hd
    have HI := Lib.hid hI
    have HJ := Lib.hid (And.intro hj hk)
    have a0 : (k : Int) / 8 = (q8 : Int) := by omega
    have a2 : (N : Int) - 1 - (k : Int) = (j : Int) := by omega
    have a3 : 8 * ((k : Int) % 8) = (e8 : Int) := by omega
    have hjN : j < N := by omega
    have hN9 : N ≤ 40000 := by have := HN8.out; omega
    have hq9 : q8 < p + 1 := by omega
    have he64 : e8 ≤ 64 := by omega
    clear hI hcl hd hj hk hq8 he8 hq
    go_wp2
    rw [HD.out]
    obtain ⟨hj, hk⟩ := HJ.out
    refine ⟨⟨k + 1, _, by omega, by go_num, ⟨HI.out.blk.set _ _, by rw [List.length_set]; exact HI.out.len, ?_, ?_, HI.out.only.set _ _⟩⟩, by simp [intOf]; omega⟩
    ·intro t
     rw [lg_set]
     split
     ·exact dgt_bd _ _
     ·exact HI.out.bd t
    ·intro t ht
     rw [lg_set]
     by_cases e : t = k
     ·subst e
      rw [if_pos ⟨hj, by rw [HI.out.len]; omega⟩]
     ·rw [if_neg (by omega)]
      exact HI.out.val t (by omega)
   ·have he : k = N := by omega
    subst he
    have h1 : decide ((k : Int) < (k : Int)) = false := by simp
    have hcv := hI.blk.text (c := k) hI.len hI.bd
    rw [hI.text HNB.out] at hcv
    have hbl : Below w.heap.size w wr := Only.below HBW.out hI.only HG
    have HBL := Lib.hid hbl
    clear hI hbl
    go_wp2
    go_ret2
    exact ⟨rfl, HBL.out⟩
end Go.Proofs.YtoijlbcbbblbfaaGreatDoor
