import Derived.Test.YtoijlbcbbblbfaaGreatDoorY2X
import Derived.Laws.IdiomStrings
namespace Go.Proofs.YtoijlbcbbblbfaaGreatDoor
open Go.RowKit Num
set_option linter.unusedVariables false
set_option linter.unusedSimpArgs false

/-- Whether digits and a sign are a number's text. -/
def numS (d : List UInt8) (n : Bool) : Bool := okS d && (d.head? != some 48 || (d == [48] && !n))
/-- The number of digits. -/
def dv (l : List UInt8) : Int := l.foldl (fun v x => v * 10 + ((x.toNat : Int) - 48)) 0
def parseV (l : List UInt8) : Value := if numS (restS l) (negS l) then .tuple #[putV (sgn (negS l) (dv (restS l))), .int .i64 0] else .tuple #[.agg #[.bool false, .string ⟨#[]⟩], .int .i64 4]

theorem shapeV_is (d : ByteArray) (n : Bool) : ∃ x y, shapeV d n = .tuple #[.string x, .bool y, .bool (numS d.data.toList n)] ∧ (numS d.data.toList n = true → x = d ∧ y = n) := by
 unfold shapeV numS
 cases h : okS d.data.toList with
 | false => exact ⟨_, _, rfl, by simp⟩
 | true => exact ⟨d, n, rfl, fun _ => ⟨rfl, rfl⟩⟩
theorem dig_of {d : List UInt8} (h : okS d = true) {k : Nat} {x : UInt8} (hx : d[k]? = some x) : 48 ≤ x.toNat ∧ x.toNat ≤ 57 := by
 unfold okS at h
 simp only [Bool.and_eq_true] at h
 have h3 := List.all_eq_true.1 h.2 x (List.mem_of_getElem? hx)
 have hd : ∀ y ∈ digs, 48 ≤ y.toNat ∧ y.toNat ≤ 57 := by decide
 exact hd x (by simpa using h3)
theorem okS_len {d : List UInt8} (h : okS d = true) : 0 < d.length ∧ d.length ≤ 60 := by
 unfold okS at h
 simp only [Bool.and_eq_true, decide_eq_true_eq] at h
 exact h.1
theorem dv_take {d : List UInt8} {k : Nat} {x : UInt8} (hx : d[k]? = some x) : dv (d.take (k + 1)) = dv (d.take k) * 10 + ((x.toNat : Int) - 48) := by
 unfold dv
 rw [List.take_add_one, hx, List.foldl_append]
 rfl

structure ParI (D : List UInt8) (g n : Nat) (w w1 : World) (k : Nat) (A : Option Addr) (l : List Int) (c : Nat) : Prop where
 ra : RL w1 A l
 la : Lim l
 ta : Tr l
 val : lv l = dv (D.take k)
 bd : lv l < B ^ k
 ca : l.length ≤ c
 bel : Below w.heap.size w w1
 e0 : w1.cell? ⟨n, 0, none⟩ = some (.bool false)
 e1 : w1.cell? ⟨n, 1, none⟩ = some (.string ⟨#[]⟩)
 f0 : w1.frozen? ⟨n, 0, none⟩ = false
 f1 : w1.frozen? ⟨n, 1, none⟩ = false
 sz : n < w1.heap.size
 gz : g < w1.heap.size
 row : ∀ j x, D[j]? = some x → w1.cell? ⟨g, j, none⟩ = some (.int .u8 (x.toNat : Int))
theorem ParI.le {D : List UInt8} {g n : Nat} {w w1 : World} {k : Nat} {A : Option Addr} {l : List Int} {c : Nat} (h : ParI D g n w w1 k A l c) : l.length ≤ k := len_of_lv h.ta h.la h.bd
theorem ParI.step {D : List UInt8} {g n : Nat} {w w1 w2 : World} {k : Nat} {A : Option Addr} {l : List Int} {c : Nat} {x : UInt8} (h : ParI D g n w w1 k A l c) (hb : Below w1.heap.size w1 w2) (hx : D[k]? = some x) (hd : 48 ≤ x.toNat ∧ x.toNat ≤ 57)
  {A2 : Option Addr} {r : List Int} {c2 : Nat} (hr : RL w2 A2 r) (hl : Lim r) (ht : Tr r) (hc : r.length ≤ c2) (hv : lv r = lv l * 10 + ((x.toNat : Int) - 48)) : ParI D g n w w2 (k + 1) A2 r c2 := by
 refine ⟨hr, hl, ht, by rw [hv, h.val, dv_take hx], ?_, hc, h.bel.trans (hb.mono h.bel.size), (hb.cell h.sz).trans h.e0, (hb.cell h.sz).trans h.e1, (hb.frozen h.sz).trans h.f0, (hb.frozen h.sz).trans h.f1, Nat.lt_of_lt_of_le h.sz hb.size, Nat.lt_of_lt_of_le h.gz hb.size, fun j y hy => (hb.cell h.gz).trans (h.row j y hy)⟩
 have h1 := h.bd
 have h2 := (lv_bd h.la).1
 rw [hv, Int.pow_succ]
 generalize B ^ k = p at *
 have h3 : (B : Int) = 18446744073709551616 := B_eq
 rw [h3]
 omega
theorem bytesRow_cell (d : ByteArray) (cap : Nat) (w : World) (e : TypeId) (fr : Nat × Nat) (j : Nat) (x : UInt8) (hx : d.data.toList[j]? = some x) : (w.alloc (.cells (bytesRow d cap) e fr)).cell? ⟨w.heap.size, j, none⟩ = some (.int .u8 (x.toNat : Int)) := by
 have hj : j < d.data.size := by
  have := (List.getElem?_eq_some_iff.1 hx).1
  simpa using this
 have hx2 : d.data[j]? = some x := by rw [← hx]; simp
 have : (bytesRow d cap)[j]? = some (.int .u8 (x.toNat : Int)) := by
  unfold bytesRow
  rw [Array.getElem?_append_left (by simpa using hj), Array.getElem?_map, hx2]
  rfl
 unfold World.cell?
 rw [show (w.alloc (.cells (bytesRow d cap) e fr)).heap[(⟨w.heap.size, j, none⟩ : Addr).block]? = _ from heap_alloc_new w _]
 simpa using this

set_option maxHeartbeats 1000000 in
set_option maxRecDepth 100000 in
theorem parse_c (s : ByteArray) (w : World) :
  Calls Tryz.prog 79 #[.string s] w fun e w' => e = .returned (parseV s.data.toList) ∧ Below w.heap.size w w' := by
 obtain ⟨w0, hw0⟩ : ∃ w0, w0 = w.alloc (.cells #[.bool false, .string ⟨#[]⟩] 24) := ⟨_, rfl⟩
 have hb0 : Below w.heap.size w w0 := by rw [hw0]; exact (Below.refl _ _).alloc (Nat.le_refl _) _
 have d0 : w0.cell? ⟨w.heap.size, 0, none⟩ = some (.bool false) := by rw [hw0]; simp [go_sem]
 have d1 : w0.cell? ⟨w.heap.size, 1, none⟩ = some (.string ⟨#[]⟩) := by rw [hw0]; simp [go_sem]
 have d2 : w0.frozen? ⟨w.heap.size, 0, none⟩ = false := by rw [hw0]; simp [go_sem]
 have d3 : w0.frozen? ⟨w.heap.size, 1, none⟩ = false := by rw [hw0]; simp [go_sem]
 have hsz : w0.heap.size = w.heap.size + 1 := by rw [hw0]; simp
 have HW := Lib.hid hw0
 have HB := Lib.hid hb0
 have HSZ := Lib.hid hsz
 have HC := Lib.hid (shape_c s w0)
 unfold parseV
 obtain ⟨d, hd⟩ : ∃ d : ByteArray, (⟨(restS s.data.toList).toArray⟩ : ByteArray) = d := ⟨_, rfl⟩
 have hdl : restS s.data.toList = d.data.toList := by rw [← hd]
 obtain ⟨n, hn⟩ : ∃ n, negS s.data.toList = n := ⟨_, rfl⟩
 obtain ⟨x, y, hv, hxy⟩ := shapeV_is d n
 rw [hd, hn, hv] at HC
 rw [hdl, hn]
 cases hok : numS d.data.toList n with
 | false =>
  rw [hok] at HC
  clear hv hxy hok hd hdl hn hw0 hb0 hsz
  go_enter Tryz.func79, Tryz.ntmps79
  go_wp2_with fail
  rw [← HW.out]
  refine (HC.out).mono ?_
  rintro e w' ⟨rfl, hbr⟩
  have e0 := (hbr.cell (by simp [HSZ.out])).trans d0
  have e1 := (hbr.cell (by simp [HSZ.out])).trans d1
  have e2 := (hbr.frozen (by simp [HSZ.out])).trans d2
  have e3 := (hbr.frozen (by simp [HSZ.out])).trans d3
  have HR := Lib.hid (HB.out.trans (hbr.mono (by rw [HSZ.out]; omega)))
  clear hbr d0 d1 d2 d3
  go_wp2
  refine bodyPost_ret (by simp [results, Tryz.results79, go_sem, e0, e1, e2, e3]; try rfl) rfl ?_
  exact ⟨rfl, (HR.out.setCell (by simp; try omega) _).setCell (by simp; try omega) _⟩
 | true =>
  obtain ⟨rfl, rfl⟩ := hxy hok
  rw [hok] at HC
  have hos : okS x.data.toList = true := by
   unfold numS at hok
   simp only [Bool.and_eq_true] at hok
   exact hok.1
  have HO := Lib.hid hos
  have hlen : x.size = x.data.toList.length := by simp
  have HL := Lib.hid (show x.size = x.data.toList.length ∧ 0 < x.size ∧ x.size ≤ 60 from ⟨hlen, by rw [hlen]; exact (okS_len hos).1, by rw [hlen]; exact (okS_len hos).2⟩)
  clear hv hxy hok hd hdl hn hw0 hb0 hsz hos hlen
  go_enter Tryz.func79, Tryz.ntmps79
  go_wp2_with fail
  rw [← HW.out]
  refine (HC.out).mono ?_
  rintro e w' ⟨rfl, hbr⟩
  have e0 := (hbr.cell (by simp [HSZ.out])).trans d0
  have e1 := (hbr.cell (by simp [HSZ.out])).trans d1
  have e2 := (hbr.frozen (by simp [HSZ.out])).trans d2
  have e3 := (hbr.frozen (by simp [HSZ.out])).trans d3
  have HR := Lib.hid (HB.out.trans (hbr.mono (by rw [HSZ.out]; omega)))
  have HW1 := Lib.hid (show w.heap.size < w'.heap.size by have := hbr.size; rw [HSZ.out] at this; omega)
  have hcv := run_bytes_of_string (P := Tryz.prog) w' 9 94 5 x (by kernel_rfl) (by kernel_rfl) (by kernel_rfl)
  obtain ⟨cap, hcap⟩ : ∃ cap, grownCap w' x.size 0 5 = cap := ⟨_, rfl⟩
  rw [hcap] at hcv
  clear hbr d0 d1 d2 d3 hcap
  go_wp2
  have hb2 : Below w'.heap.size w' ((w'.alloc (.cells (bytesRow x cap) 5 ((bytesRow x cap).size, (bytesRow x cap).size + 1))).drew) := ((Below.refl _ _).alloc (Nat.le_refl _) _).drew
  have hrow := fun j y hy => bytesRow_cell x cap w' 5 ((bytesRow x cap).size, (bytesRow x cap).size + 1) j y hy
  have hrow : ∀ j y, x.data.toList[j]? = some y → ((w'.alloc (.cells (bytesRow x cap) 5 ((bytesRow x cap).size, (bytesRow x cap).size + 1))).drew).cell? ⟨w'.heap.size, j, none⟩ = some (.int .u8 (y.toNat : Int)) := hrow
  generalize hw2 : (w'.alloc (.cells (bytesRow x cap) 5 ((bytesRow x cap).size, (bytesRow x cap).size + 1))).drew = w2 at *
  have H0 := Lib.hid (show ParI x.data.toList w'.heap.size w.heap.size w w2 0 none [] 0 from ⟨⟨by simp, fun h => absurd h (by simp)⟩, Lim_nil, .inl rfl, rfl, by decide, Nat.le_refl _, HR.out.trans (hb2.mono HR.out.size), (hb2.cell HW1.out).trans e0, (hb2.cell HW1.out).trans e1, (hb2.frozen HW1.out).trans e2, (hb2.frozen HW1.out).trans e3, Nat.lt_of_lt_of_le HW1.out hb2.size, by rw [← hw2]; simp [World.drew], hrow⟩)
  obtain ⟨g, hg⟩ : ∃ g, w'.heap.size = g := ⟨_, rfl⟩
  rw [hg] at H0 ⊢
  clear e0 e1 e2 e3 hb2 hrow hw2 hcv HR HW1 hg
  go_loopg [7, 22] x.size (fun gk o t w1 => ∃ k A l na c, Hid (gk = x.size - k ∧ k ≤ x.size) ∧ o = .slice A na c ∧ t = .int .i64 k ∧ Hid (l.length = na) ∧ Hid (ParI x.data.toList g w.heap.size w w1 k A l c))
  case atStart => exact ⟨0, none, [], 0, 0, Lib.hid ⟨rfl, Nat.zero_le _⟩, rfl, rfl, Lib.hid rfl, H0⟩
  case round =>
   obtain ⟨k, A, l, na, c, hgk, rfl, rfl, HLN, HI⟩ := hrel
   have HNA := Lib.hid (show na ≤ 4000 by have h1 := HI.out.le; have h2 := HL.out.2.2; have h3 := hgk.out.2; rw [HLN.out] at h1; omega)
   have HCA := Lib.hid (show na ≤ c by have h1 := HI.out.ca; rw [HLN.out] at h1; exact h1)
   by_cases hlt : k < x.size
   ·have h1 : decide ((k : Int) < (x.size : Int)) = true := by simp; omega
    obtain ⟨y, hy⟩ : ∃ y, x.data.toList[k]? = some y := by
     have : k < x.data.toList.length := by rw [← HL.out.1]; exact hlt
     exact ⟨_, List.getElem?_eq_getElem this⟩
    obtain ⟨hd1, hd2⟩ := dig_of HO.out hy
    have hce := HI.out.row k y hy
    obtain ⟨z, hz⟩ : ∃ z : Nat, y.toNat = z := ⟨_, rfl⟩
    have HY := Lib.hid (And.intro hy hz)
    rw [hz] at hd1 hd2 hce
    have a1 : IntKind.u8.wrap ((z : Int) - 48) = (z : Int) - 48 := by unfold IntKind.wrap; simp [IntKind.bits, IntKind.signed]; omega
    have a2 : IntKind.u64.wrap ((z : Int) - 48) = (z : Int) - 48 := wrap_u _ ⟨by omega, by rw [B_eq]; omega⟩
    have c1 := eq_true (show (k : Int) < (x.size : Int) by omega)
    have c2 := eq_true (show (0 : Int) ≤ (k : Int) by omega)
    have c3 := eq_true hlt
    have a3 : IntKind.i64.wrap ((k : Int) + 1) = ((k + 1 : Nat) : Int) := by rw [IntWalk.i64_in _ (by have := HL.out.2.2; omega)]; rfl
    have HZ := Lib.hid (And.intro hd1 hd2)
    have HLT := Lib.hid hlt
    clear hlt hy hz hd1 hd2
    go_wp2_with fail
    refine (mul_c A (some ⟨wr.heap.size, 0, none⟩) na 1 c 1 l [10] HLN.out rfl HNA.out (by omega) (wr.alloc (.cells #[.int .u64 10] 79)) (rl_below ((Below.refl _ _).alloc (Nat.le_refl _) _) HI.out.ra (Nat.le_refl _)) (rl_one wr 10) HI.out.la (lim_one ⟨by omega, by rw [B_eq]; omega⟩)).mono ?_
    rintro e w3 ⟨q, r, rfl, ⟨A1, c1', rfl, hr0, hrl⟩, hlr, htr, hvr, hbr⟩
    have HB1 := Lib.hid (show Below wr.heap.size wr w3 from ((Below.refl _ _).alloc (Nat.le_refl _) _).trans (hbr.mono (by simp)))
    have hv10 : lv r = lv l * 10 := by rw [hvr, lv_one]
    have hr4 : r.length ≤ k + 1 := by
     apply len_of_lv htr hlr
     have h1 := HI.out.bd
     rw [hv10, Int.pow_succ]
     generalize B ^ k = p at *
     have h3 : (B : Int) = 18446744073709551616 := B_eq
     have h4 := (lv_bd HI.out.la).1
     rw [h3]
     omega
    obtain ⟨nr, hnr⟩ : ∃ nr, r.length = nr := ⟨_, rfl⟩
    have HNR := Lib.hid (show r.length = nr ∧ nr ≤ 4000 from ⟨hnr, by have := HL.out.2.2; have := HLT.out; omega⟩)
    have HR1 := Lib.hid (And.intro hrl (And.intro hlr hv10))
    rw [hnr]
    clear hbr hvr hv10 hr4 hr0 hnr hrl hlr htr
    go_wp2_with fail
    refine (add_c A1 (some ⟨w3.heap.size, 0, none⟩) nr 1 c1' 1 r [(z : Int) - 48] HNR.out.1 rfl HNR.out.2 (by omega) (w3.alloc (.cells #[.int .u64 ((z : Int) - 48)] 79)) (rl_below ((Below.refl _ _).alloc (Nat.le_refl _) _) HR1.out.1 (Nat.le_refl _)) (rl_one w3 _) HR1.out.2.1 (lim_one (by obtain ⟨h1, h2⟩ := HZ.out; exact ⟨by omega, by rw [B_eq]; omega⟩))).mono ?_
    rintro e w4 ⟨q2, r2, rfl, ⟨A2, c2', rfl, hr20, hrl2⟩, hlr2, htr2, hvr2, hbr2⟩
    have hfin := HI.out.step (HB1.out.trans (((Below.refl _ _).alloc (Nat.le_refl _) _).trans (hbr2.mono (by simp)) |>.mono HB1.out.size)) HY.out.1 (by rw [HY.out.2]; exact HZ.out) hrl2 hlr2 htr2 hr20 (by rw [hvr2, lv_one, HR1.out.2.2, HY.out.2])
    have HF := Lib.hid hfin
    clear hfin hrl2 hlr2 htr2 hr20 hvr2 hbr2
    go_wp2
    go_roundg (x.size - (k + 1))
    case measure => have := hgk.out; have := HLT.out; omega
    case rel => exact ⟨k + 1, A2, r2, _, _, Lib.hid ⟨rfl, HLT.out⟩, rfl, by simp, Lib.hid rfl, HF⟩
   ·have h1 : decide ((k : Int) < (x.size : Int)) = false := by simp; omega
    have hke : k = x.size := by have := hgk.out.2; omega
    subst hke
    have e0 := HI.out.e0
    have e1 := HI.out.e1
    have e2 := HI.out.f0
    have e3 := HI.out.f1
    clear hlt
    go_wp2_with fail
    refine (told_c y A na c l HLN.out HNA.out HCA.out _ HI.out.ra HI.out.la).mono ?_
    rintro e w2 ⟨rfl, hbt⟩
    have q0 := (hbt.cell HI.out.sz).trans e0
    have q1 := (hbt.cell HI.out.sz).trans e1
    have q2 := (hbt.frozen HI.out.sz).trans e2
    have q3 := (hbt.frozen HI.out.sz).trans e3
    have HB3 := Lib.hid (HI.out.bel.trans (hbt.mono HI.out.bel.size))
    clear hbt e0 e1 e2 e3
    go_wp2
    refine bodyPost_ret (by simp [results, Tryz.results79, go_sem, q0, q1]; try rfl) rfl ?_
    refine ⟨?_, (HB3.out.setCell (by simp; try omega) _).setCell (by simp; try omega) _⟩
    rw [put_sgn HI.out.la rfl, HI.out.val, HL.out.1, List.take_length]
end Go.Proofs.YtoijlbcbbblbfaaGreatDoor
