import Derived.Test.YtoijlbcbbblbfaaGreatDoorY2J
import Derived.Laws.AppendOwn
import Derived.Handy
namespace Go.Proofs.YtoijlbcbbblbfaaGreatDoor
open Go.RowKit Num
set_option linter.unusedVariables false
set_option linter.unusedSimpArgs false

/-- What Check tells of a whole number: its sign and its bytes. -/
def chk (n : Bool) (s : ByteArray) : Int := if 32000 < s.size then 5 else if 0 < s.size ∧ byt s (s.size - 1) = 0 then 1 else if n = true ∧ s.size = 0 then 1 else 0
def okI (n : Bool) (s : ByteArray) : Prop := s.size ≤ 32000 ∧ Canon s ∧ (n = true → 0 < s.size)
theorem chk_ok {n : Bool} {s : ByteArray} : chk n s = 0 ↔ okI n s := by
 unfold chk okI Canon
 constructor
 ·intro h
  split at h
  ·omega
  ·split at h
   ·omega
   ·split at h
    ·omega
    ·rename_i h1 h2 h3
     refine ⟨by omega, fun h0 hz => h2 ⟨h0, hz⟩, fun hn => ?_⟩
     rcases Nat.eq_zero_or_pos s.size with h0 | h0
     ·exact absurd ⟨hn, h0⟩ h3
     ·exact h0
 ·rintro ⟨h1, h2, h3⟩
  rw [if_neg (by omega), if_neg (fun h => h2 h.1 h.2), if_neg (fun h => by have := h3 h.1; omega)]

set_option maxHeartbeats 1000000 in
theorem check_c (n : Bool) (s : ByteArray) (w : World) :
  Calls Tryz.prog 46 #[.agg #[.bool n, .string s]] w fun e w' => e = .returned (.int .i64 (chk n s)) ∧ Below w.heap.size w w' := by
 have hu := Tryz.underlying24
 have hb0 : Below w.heap.size w (w.alloc (.cells #[.bool n, .string s] 24)) := (Below.refl _ _).alloc (Nat.le_refl _) _
 have HS := Lib.hid hb0
 clear hb0
 unfold chk
 by_cases h1 : 32000 < s.size
 ·rw [if_pos h1]
  have HO := Lib.hid (of_limit s h1)
  clear h1
  go_enter Tryz.func46, Tryz.ntmps46
  go_wp2_with fail
  refine (HO.out _).mono ?_
  rintro e w' ⟨rfl, rfl⟩
  go_wp2
  go_ret
  exact ⟨rfl, HS.out⟩
 ·rw [if_neg h1]
  by_cases h2 : 0 < s.size ∧ byt s (s.size - 1) = 0
  ·rw [if_pos h2]
   have HO := Lib.hid (of_arg s h2.1 (by omega) h2.2)
   clear h1 h2
   go_enter Tryz.func46, Tryz.ntmps46
   go_wp2_with fail
   refine (HO.out _).mono ?_
   rintro e w' ⟨rfl, rfl⟩
   go_wp2
   go_ret
   exact ⟨rfl, HS.out⟩
  ·rw [if_neg h2]
   have HO := Lib.hid (of_ok s (by omega) (fun h0 hz => h2 ⟨h0, hz⟩))
   clear h1 h2
   cases n with
   | false =>
    rw [if_neg (by simp)]
    go_enter Tryz.func46, Tryz.ntmps46
    go_wp2_with fail
    refine (HO.out _).mono ?_
    rintro e w' ⟨x, r, rfl, hr1, hr2, hr3, hr4, hr5⟩
    have hce := hr5.cell (p := ⟨w.heap.size, 0, none⟩) (by simp)
    have hce1 := hr5.cell (p := ⟨w.heap.size, 1, none⟩) (by simp)
    have hbl := HS.out.trans (hr5.mono (by simp))
    have HBL := Lib.hid hbl
    clear hr1 hr2 hr3 hr4 hr5 hbl
    go_wp2
    go_ret
    exact ⟨rfl, HBL.out⟩
   | true =>
    by_cases h0 : s.size = 0
    ·obtain ⟨t1, t2⟩ := toList_nil h0
     rw [if_pos ⟨rfl, h0⟩]
     clear h0
     go_enter Tryz.func46, Tryz.ntmps46
     go_wp2_with fail
     refine (HO.out _).mono ?_
     rintro e w' ⟨x, r, rfl, hr1, hr2, hr3, hr4, hr5⟩
     have hce := hr5.cell (p := ⟨w.heap.size, 0, none⟩) (by simp)
     have hce1 := hr5.cell (p := ⟨w.heap.size, 1, none⟩) (by simp)
     have hbl := HS.out.trans (hr5.mono (by simp))
     have HBL := Lib.hid hbl
     clear hr1 hr2 hr3 hr4 hr5 hbl
     go_wp2
     go_ret
     exact ⟨rfl, HBL.out⟩
    ·obtain ⟨t1, t2⟩ := toList_ne (by omega : 0 < s.size)
     rw [if_neg (fun h => h0 h.2)]
     clear h0
     go_enter Tryz.func46, Tryz.ntmps46
     go_wp2_with fail
     refine (HO.out _).mono ?_
     rintro e w' ⟨x, r, rfl, hr1, hr2, hr3, hr4, hr5⟩
     have hce := hr5.cell (p := ⟨w.heap.size, 0, none⟩) (by simp)
     have hce1 := hr5.cell (p := ⟨w.heap.size, 1, none⟩) (by simp)
     have hbl := HS.out.trans (hr5.mono (by simp))
     have HBL := Lib.hid hbl
     clear hr1 hr2 hr3 hr4 hr5 hbl
     go_wp2
     go_ret
     exact ⟨rfl, HBL.out⟩
end Go.Proofs.YtoijlbcbbblbfaaGreatDoor

namespace Go.Proofs.YtoijlbcbbblbfaaGreatDoor
open Go.RowKit Num
set_option linter.unusedVariables false
set_option linter.unusedSimpArgs false

theorem num_info : (Tryz.prog.info? 96).map (fun i => (i.zero, i.size, i.bytes)) = some (some (.agg #[.bool false, .slice none 0 0]), 2, 32) := by kernel_rfl
/-- The whole numbers that a call is asked, as they lie at an address. -/
def AskAt (w : World) (ad : Addr) (xs : List (Bool × ByteArray)) : Prop := ∀ j n s, xs[j]? = some (n, s) → w.cell? (ad.add (j * 2)) = some (.bool n) ∧ w.cell? ⟨(ad.add (j * 2)).block, (ad.add (j * 2)).off + 1, none⟩ = some (.string s)
/-- One number, read: its sign, and a row of limbs in a block of its own. -/
def NumOk (base : Nat) (w : World) (p : Bool × ByteArray) (v : Value × Value) : Prop := v.1 = .bool p.1 ∧ ∃ g n r, v.2 = .slice (some ⟨g, 0, none⟩) n n ∧ base ≤ g ∧ r.length = n ∧ n ≤ 4000 ∧ Blk w g r ∧ Lim r ∧ Tr r ∧ lv r = nv p.2
theorem NumOk.keep {base : Nat} {w w' : World} {p : Bool × ByteArray} {v : Value × Value} (h : NumOk base w p v) (hk : ∀ g l, Blk w g l → w'.heap[g]? = w.heap[g]?) : NumOk base w' p v := by
 obtain ⟨h1, g, n, r, h2, hb, h3, h4, h5, h6⟩ := h
 refine ⟨h1, g, n, r, h2, hb, h3, h4, ?_, h6⟩
 have := hk g r h5
 obtain ⟨cur, hc, h⟩ := h5
 exact ⟨cur, this.trans hc, h⟩
def flat (l : List (Value × Value)) : List Value := l.flatMap fun p => [p.1, p.2]
theorem flat_snoc (l : List (Value × Value)) (p : Value × Value) : flat (l ++ [p]) = flat l ++ [p.1, p.2] := by simp [flat]
theorem flat_len (l : List (Value × Value)) : (flat l).length = 2 * l.length := by
 induction l with
 | nil => rfl
 | cons a t ih => simp only [flat, List.flatMap_cons, List.length_append, List.length_cons, List.length_nil] at *; omega
theorem own_below {w w1 : World} {base : Nat} {e : TypeId} {size n : Nat} {v : Value} {xs : List Value} (h : w.ownsRow base e size v n xs) (hb : Below w.heap.size w w1) : w1.ownsRow base e size v n xs :=
 h.kept (row := none) ⟨hb.os, hb.tape, hb.output, hb.size, fun i hi _ => hb.block i hi⟩ (by cases v.ownBlock <;> simp)
theorem own_type {w : World} {base : Nat} {e : TypeId} {size n : Nat} {v : Value} {xs : List Value} (h : w.ownsRow base e size v n xs) (k : Nat) (hk : v.ownBlock = some k) : ∃ cells, w.heap[k]? = some (.cells cells e (0, 0)) := by
 rcases h.2 with ⟨rfl, _⟩ | ⟨g, cap, cur, rfl, hg, hh, r⟩
 ·simp [Value.ownBlock] at hk
 ·have : g = k := by simpa [Value.ownBlock] using hk
  subst this
  exact ⟨cur, hh⟩
theorem two_new (w : World) (a b : Value) (t : TypeId) : ∀ j u, [a, b][j]? = some u → (w.alloc (.cells #[a, b] t)).cell? ((⟨w.heap.size, 0, none⟩ : Addr).add j) = some u := by
 intro j u h
 match j, h with
 | 0, h => simp at h; subst h; simp [Addr.add, go_sem]
 | 1, h => simp at h; subst h; simp [Addr.add, go_sem]
 | j + 2, h => simp at h
theorem two_one (n : Bool) (A : Option Addr) (l c : Nat) : ∀ u ∈ [Value.bool n, Value.slice A l c], u.oneCell' = true := by
 intro u h
 simp at h
 rcases h with rfl | rfl <;> rfl
theorem blk_far {w w' : World} {base n : Nat} {v : Value} {xs : List Value} {size : Nat} (ho : w.ownsRow base 96 size v n xs) (hg : w.grownBy w' v.ownBlock) : ∀ g l, Blk w g l → w'.heap[g]? = w.heap[g]? := by
 intro g l hb
 refine hg.block g hb.lt ?_
 intro e
 obtain ⟨cells, hc⟩ := own_type ho g e.symm
 obtain ⟨cur, hh, _⟩ := hb
 rw [hc] at hh
 injection hh with hh
 injection hh with _ ht
 revert ht
 decide
theorem blk_bel {w w' : World} (hb : Below w.heap.size w w') : ∀ g l, Blk w g l → w'.heap[g]? = w.heap[g]? := fun g l h => hb.block g h.lt
structure ReadW (base : Nat) (xs : List (Bool × ByteArray)) (w : World) (k : Nat) (v : Value) (rs : List (Value × Value)) (w1 : World) : Prop where
 own : w1.ownsRow base 96 2 v k (flat rs)
 len : rs.length = k
 ok : ∀ j p q, j < k → xs[j]? = some p → rs[j]? = some q → NumOk base w1 p q
 below : Below w.heap.size w w1

set_option maxHeartbeats 1000000 in
set_option maxRecDepth 100000 in
theorem read_ok (ad : Addr) (xs : List (Bool × ByteArray)) (m c : Nat) (hm : xs.length = m) (hm4 : m ≤ 100) (w : World) (ha : AskAt w ad xs) (hok : ∀ p ∈ xs, okI p.1 p.2) :
  Calls Tryz.prog 88 #[.slice (some ad) m c] w fun e w' => ∃ v rs, e = .returned (.tuple #[v, .int .i64 0]) ∧ ReadW w.heap.size xs w m v rs w' := by
 obtain ⟨i0, hi0, hz0, hz1, hz2⟩ := info_parts num_info
 have HM := Lib.hid hm
 have HA := Lib.hid ha
 have HOK := Lib.hid hok
 have HI := Lib.hid (And.intro hi0 (And.intro hz0 (And.intro hz1 hz2)))
 clear hm ha hok hi0 hz0 hz1 hz2
 have hu := Tryz.underlying24
 go_enter Tryz.func88, Tryz.ntmps88
 go_wp2
 go_loopw [4, 6, 7, 8, 9, 12] (fun v _ _ _ _ t w1 => ∃ (k : Nat) (rs : List (Value × Value)), k ≤ m ∧ t = .int .i64 k ∧ ReadW w.heap.size xs w k v rs w1) (fun _ _ _ _ _ t _ => m - (intOf t).toNat)
 case atStart => exact ⟨0, [], Nat.zero_le _, rfl, ⟨⟨rfl, .inl ⟨rfl, rfl⟩⟩, rfl, fun j p q h => by omega, Below.refl _ _⟩⟩
 case round =>
  obtain ⟨k, rs, hk, rfl, hI⟩ := hrel
  by_cases hlt : k < m
  ·have h1 : decide ((k : Int) < (m : Int)) = true := by simp; omega
   have hkx : k < xs.length := by rw [HM.out]; exact hlt
   obtain ⟨n, s, hp⟩ : ∃ n s, xs[k]? = some (n, s) := ⟨_, _, List.getElem?_eq_getElem hkx⟩
   obtain ⟨a1, a2⟩ := HA.out k n s hp
   have hblk := World.block_lt_of_cell? w _ a1
   have a1' := (hI.below.cell hblk).trans a1
   have a2' := (hI.below.cell (World.block_lt_of_cell? w _ a2)).trans a2
   have hokk := HOK.out (n, s) (List.mem_of_getElem? hp)
   have hck := chk_ok.mpr hokk
   have hcc := Lib.hid (check_c n s)
   have hof := Lib.hid (of_blk s hokk.1 hokk.2.1)
   have HII := Lib.hid hI
   have HP := Lib.hid hp
   have HCK := Lib.hid hck
   clear a1 a2 hI hp hck hokk hblk hkx
   go_wp2_with fail
   refine (hcc.out _).mono ?_
   rintro e w2 ⟨rfl, hb2⟩
   rw [HCK.out]
   have c1 := hb2.cell (p := ⟨wr.heap.size, 0, none⟩) (by simp)
   have c2 := hb2.cell (p := ⟨wr.heap.size, 1, none⟩) (by simp)
   have HB2 := Lib.hid hb2
   clear hb2
   go_wp2_with fail
   refine (hof.out _).mono ?_
   rintro e w3 ⟨g, n3, r, rfl, hg, hrl, hn3, hkr, hlr, htr, hvr, hb3⟩
   have hsz2 := HB2.out.size
   simp at hsz2
   have c3 := (hb3.cell (p := ⟨wr.heap.size, 0, none⟩) (by simp; omega)).trans c1
   have c4 := (hb3.cell (p := ⟨wr.heap.size, 1, none⟩) (by simp; omega)).trans c2
   have HR := Lib.hid (And.intro hg (And.intro hrl (And.intro hn3 (And.intro hkr (And.intro hlr (And.intro htr (And.intro hvr hb3)))))))
   clear c1 c2 hg hrl hn3 hkr hlr htr hvr hb3
   have hbw : Below wr.heap.size wr (w3.alloc (.cells #[.bool n, .slice (some ⟨g, 0, none⟩) n3 n3] 96)) := by
    have h1 : Below wr.heap.size wr w2 := ((Below.refl _ _).alloc (Nat.le_refl _) _).trans (HB2.out.mono (by simp))
    have h2 := h1.trans (HR.out.2.2.2.2.2.2.2.mono h1.size)
    exact h2.alloc h2.size _
   have hown := own_below HII.out.own hbw
   have hsz3 := hbw.size
   have hbw0 := HII.out.below.trans (hbw.mono HII.out.below.size)
   have HOWN := Lib.hid hown
   have HBW := Lib.hid (And.intro hbw hbw0)
   clear hbw hown hbw0 hsz3
   go_wp2_with (at_builtin; refine wpList_append_own _ rfl (.tmp 27) (.tmp 32) 99 rfl w.heap.size 96 i0 (.agg #[.bool false, .slice none 0 0]) 2 32 Tryz.underlying99 HI.out.1 HI.out.2.1 HI.out.2.2.1 HI.out.2.2.2 rfl (by omega) u4 k (flat rs) rfl HOWN.out ⟨w3.heap.size, 0, none⟩ 1 1 [.bool n, .slice (some ⟨g, 0, none⟩) n3 n3] rfl rfl ?_ ?_ (by simp only [maxLen]; omega) (by omega) ?_ ?_; exact two_new _ _ _ _; exact two_one _ _ _ _; exact HBW.out.2.size; intro v4 w4 hown4 hg4 hiff4)
   obtain ⟨b1, b2⟩ := HBW.out
   obtain ⟨r1, r2, r3, r4, r5, r6, r7, r8⟩ := HR.out
   have hfar := blk_far HOWN.out hg4
   refine ⟨⟨k + 1, rs ++ [(.bool n, .slice (some ⟨g, 0, none⟩) n3 n3)], by omega, by go_num, ⟨by rw [flat_snoc]; exact hown4, by simp [HII.out.len], ?_, ?_⟩⟩, by simp [intOf]; omega⟩
   ·intro j p q hj hp hq
    by_cases e : j = k
    ·subst e
     rw [HP.out] at hp
     cases hp
     rw [List.getElem?_append_right (by rw [HII.out.len]; exact Nat.le_refl _), HII.out.len, Nat.sub_self] at hq
     cases hq
     have hk3 : Blk (w3.alloc (.cells #[.bool n, .slice (some ⟨g, 0, none⟩) n3 n3] 96)) g r := r4.below ((Below.refl _ _).alloc (Nat.le_refl _) _) r4.lt
     refine ⟨rfl, g, n3, r, rfl, ?_, r2, r3, ?_, r5, r6, r7⟩
     ·have := HB2.out.size
      have := HII.out.below.size
      simp at *
      omega
     ·have := hfar g r hk3
      obtain ⟨cur, hc, h⟩ := hk3
      exact ⟨cur, this.trans hc, h⟩
    ·rw [List.getElem?_append_left (by rw [HII.out.len]; omega)] at hq
     exact ((HII.out.ok j p q (by omega) hp hq).keep (blk_bel b1)).keep hfar
   ·refine b2.trans ?_
    exact ⟨hg4.os, hg4.tape, hg4.output, hg4.size, fun i hi => hg4.block i (by have := b2.size; omega) (fun e => by
     rcases HOWN.out.2 with ⟨e2, _⟩ | ⟨g', cap, cur, e2, hg', _⟩
     ·rw [e2] at e; simp [Value.ownBlock] at e
     ·rw [e2] at e; simp [Value.ownBlock] at e; omega)⟩
  ·have he : k = m := by omega
   have h1 : decide ((k : Int) < (m : Int)) = false := by simp; omega
   subst he
   have HII := Lib.hid hI
   clear hI
   go_wp2
   go_ret2
   exact ⟨_, rs, rfl, HII.out⟩
set_option maxHeartbeats 1000000 in
set_option maxRecDepth 100000 in
theorem read_bad (ad : Addr) (xs : List (Bool × ByteArray)) (m c : Nat) (hm : xs.length = m) (hm4 : m ≤ 100) (w : World) (ha : AskAt w ad xs) (b : Nat) (nb : Bool) (sb : ByteArray) (hb : xs[b]? = some (nb, sb)) (hbad : chk nb sb ≠ 0) (hok : ∀ j p, j < b → xs[j]? = some p → okI p.1 p.2) :
  Calls Tryz.prog 88 #[.slice (some ad) m c] w fun e w' => e = .returned (.tuple #[.slice none 0 0, .int .i64 (chk nb sb)]) ∧ Below w.heap.size w w' := by
 obtain ⟨i0, hi0, hz0, hz1, hz2⟩ := info_parts num_info
 have HM := Lib.hid hm
 have HA := Lib.hid ha
 have HOK := Lib.hid hok
 have hbm : b < m := by rw [← hm]; exact (List.getElem?_eq_some_iff.1 hb).1
 have HBAD := Lib.hid (And.intro hb hbad)
 have HI := Lib.hid (And.intro hi0 (And.intro hz0 (And.intro hz1 hz2)))
 clear hb hbad hm ha hok hi0 hz0 hz1 hz2
 have hu := Tryz.underlying24
 go_enter Tryz.func88, Tryz.ntmps88
 go_wp2
 go_loopw [4, 6, 7, 8, 9, 12] (fun v _ _ _ _ t w1 => ∃ (k : Nat) (rs : List (Value × Value)), k ≤ b ∧ t = .int .i64 k ∧ ReadW w.heap.size xs w k v rs w1) (fun _ _ _ _ _ t _ => m - (intOf t).toNat)
 case atStart => exact ⟨0, [], Nat.zero_le _, rfl, ⟨⟨rfl, .inl ⟨rfl, rfl⟩⟩, rfl, fun j p q h => by omega, Below.refl _ _⟩⟩
 case round =>
  obtain ⟨k, rs, hk, rfl, hI⟩ := hrel
  by_cases hlt : k < b
  ·have h1 : decide ((k : Int) < (m : Int)) = true := by simp; omega
   have hkm : k < m := by omega
   have hkx : k < xs.length := by rw [HM.out]; exact hkm
   obtain ⟨n, s, hp⟩ : ∃ n s, xs[k]? = some (n, s) := ⟨_, _, List.getElem?_eq_getElem hkx⟩
   obtain ⟨a1, a2⟩ := HA.out k n s hp
   have hblk := World.block_lt_of_cell? w _ a1
   have a1' := (hI.below.cell hblk).trans a1
   have a2' := (hI.below.cell (World.block_lt_of_cell? w _ a2)).trans a2
   have hokk := HOK.out k (n, s) hlt hp
   have hck := chk_ok.mpr hokk
   have hcc := Lib.hid (check_c n s)
   have hof := Lib.hid (of_blk s hokk.1 hokk.2.1)
   have HII := Lib.hid hI
   have HP := Lib.hid hp
   have HCK := Lib.hid hck
   clear a1 a2 hI hp hck hokk hblk hkx
   go_wp2_with fail
   refine (hcc.out _).mono ?_
   rintro e w2 ⟨rfl, hb2⟩
   rw [HCK.out]
   have c1 := hb2.cell (p := ⟨wr.heap.size, 0, none⟩) (by simp)
   have c2 := hb2.cell (p := ⟨wr.heap.size, 1, none⟩) (by simp)
   have HB2 := Lib.hid hb2
   clear hb2
   go_wp2_with fail
   refine (hof.out _).mono ?_
   rintro e w3 ⟨g, n3, r, rfl, hg, hrl, hn3, hkr, hlr, htr, hvr, hb3⟩
   have hsz2 := HB2.out.size
   simp at hsz2
   have c3 := (hb3.cell (p := ⟨wr.heap.size, 0, none⟩) (by simp; omega)).trans c1
   have c4 := (hb3.cell (p := ⟨wr.heap.size, 1, none⟩) (by simp; omega)).trans c2
   have HR := Lib.hid (And.intro hg (And.intro hrl (And.intro hn3 (And.intro hkr (And.intro hlr (And.intro htr (And.intro hvr hb3)))))))
   clear c1 c2 hg hrl hn3 hkr hlr htr hvr hb3
   have hbw : Below wr.heap.size wr (w3.alloc (.cells #[.bool n, .slice (some ⟨g, 0, none⟩) n3 n3] 96)) := by
    have h1 : Below wr.heap.size wr w2 := ((Below.refl _ _).alloc (Nat.le_refl _) _).trans (HB2.out.mono (by simp))
    have h2 := h1.trans (HR.out.2.2.2.2.2.2.2.mono h1.size)
    exact h2.alloc h2.size _
   have hown := own_below HII.out.own hbw
   have hsz3 := hbw.size
   have hbw0 := HII.out.below.trans (hbw.mono HII.out.below.size)
   have HOWN := Lib.hid hown
   have HBW := Lib.hid (And.intro hbw hbw0)
   clear hbw hown hbw0 hsz3
   go_wp2_with (at_builtin; refine wpList_append_own _ rfl (.tmp 27) (.tmp 32) 99 rfl w.heap.size 96 i0 (.agg #[.bool false, .slice none 0 0]) 2 32 Tryz.underlying99 HI.out.1 HI.out.2.1 HI.out.2.2.1 HI.out.2.2.2 rfl (by omega) u4 k (flat rs) rfl HOWN.out ⟨w3.heap.size, 0, none⟩ 1 1 [.bool n, .slice (some ⟨g, 0, none⟩) n3 n3] rfl rfl ?_ ?_ (by simp only [maxLen]; omega) (by omega) ?_ ?_; exact two_new _ _ _ _; exact two_one _ _ _ _; exact HBW.out.2.size; intro v4 w4 hown4 hg4 hiff4)
   obtain ⟨b1, b2⟩ := HBW.out
   obtain ⟨r1, r2, r3, r4, r5, r6, r7, r8⟩ := HR.out
   have hfar := blk_far HOWN.out hg4
   refine ⟨⟨k + 1, rs ++ [(.bool n, .slice (some ⟨g, 0, none⟩) n3 n3)], by omega, by go_num, ⟨by rw [flat_snoc]; exact hown4, by simp [HII.out.len], ?_, ?_⟩⟩, by simp [intOf]; omega⟩
   ·intro j p q hj hp hq
    by_cases e : j = k
    ·subst e
     rw [HP.out] at hp
     cases hp
     rw [List.getElem?_append_right (by rw [HII.out.len]; exact Nat.le_refl _), HII.out.len, Nat.sub_self] at hq
     cases hq
     have hk3 : Blk (w3.alloc (.cells #[.bool n, .slice (some ⟨g, 0, none⟩) n3 n3] 96)) g r := r4.below ((Below.refl _ _).alloc (Nat.le_refl _) _) r4.lt
     refine ⟨rfl, g, n3, r, rfl, ?_, r2, r3, ?_, r5, r6, r7⟩
     ·have := HB2.out.size
      have := HII.out.below.size
      simp at *
      omega
     ·have := hfar g r hk3
      obtain ⟨cur, hc, h⟩ := hk3
      exact ⟨cur, this.trans hc, h⟩
    ·rw [List.getElem?_append_left (by rw [HII.out.len]; omega)] at hq
     exact ((HII.out.ok j p q (by omega) hp hq).keep (blk_bel b1)).keep hfar
   ·refine b2.trans ?_
    exact ⟨hg4.os, hg4.tape, hg4.output, hg4.size, fun i hi => hg4.block i (by have := b2.size; omega) (fun e => by
     rcases HOWN.out.2 with ⟨e2, _⟩ | ⟨g', cap, cur, e2, hg', _⟩
     ·rw [e2] at e; simp [Value.ownBlock] at e
     ·rw [e2] at e; simp [Value.ownBlock] at e; omega)⟩
  ·have he : k = b := by omega
   subst he
   have h1 : decide ((k : Int) < (m : Int)) = true := by simp; omega
   obtain ⟨a1, a2⟩ := HA.out k nb sb HBAD.out.1
   have a1' := (hI.below.cell (World.block_lt_of_cell? w _ a1)).trans a1
   have a2' := (hI.below.cell (World.block_lt_of_cell? w _ a2)).trans a2
   have hcc := Lib.hid (check_c nb sb)
   have hz1 : (chk nb sb == 0) = false := beq_eq_false_iff_ne.mpr HBAD.out.2
   have hz2 : (chk nb sb != 0) = true := bne_iff_ne.mpr HBAD.out.2
   have HII := Lib.hid hI
   clear a1 a2 hI
   go_wp2_with fail
   refine (hcc.out _).mono ?_
   rintro e w2 ⟨rfl, hb2⟩
   have HB2 := Lib.hid hb2
   clear hb2
   go_wp2
   go_ret2
   exact ⟨rfl, HII.out.below.trans ((((Below.refl _ _).alloc (Nat.le_refl _) _).trans (HB2.out.mono (by simp))).mono HII.out.below.size)⟩
end Go.Proofs.YtoijlbcbbblbfaaGreatDoor

namespace Go.Proofs.YtoijlbcbbblbfaaGreatDoor
open Go.RowKit Num
set_option linter.unusedVariables false
set_option linter.unusedSimpArgs false

def sgn (n : Bool) (v : Int) : Int := if n then -v else v

set_option maxHeartbeats 1000000 in
theorem told_c (n : Bool) (A0 : Option Addr) (k c0 : Nat) (l : List Int) (hk : l.length = k) (hk4 : k ≤ 4000) (hc0 : k ≤ c0) (w : World) (ha : RL w A0 l) (hla : Lim l) :
  Calls Tryz.prog 87 #[.agg #[.bool n, .slice A0 k c0]] w fun e w' => e = .returned (.agg #[.bool (decide (sgn n (lv l) < 0)), .string (encN (lv l))]) ∧ Below w.heap.size w w' := by
 have hb2 : Below w.heap.size w ((w.alloc (.cells #[.bool n, .slice A0 k c0] 96)).alloc (.cells #[.bool false, .string ⟨#[]⟩] 24)) := ((Below.refl _ _).alloc (Nat.le_refl _) _).alloc (by simp) _
 have HN := Lib.hid (nat_c A0 k c0 l hk hk4 hc0 _ (ha.below hb2 (Nat.le_refl _)) hla)
 have hpos := lv_bd hla
 have h1 : decide ((4000 : Int) < (k : Int)) = false := by simp; omega
 have HS := Lib.hid hb2
 have hz : lv l = 0 ∨ 0 < lv l := by omega
 obtain ⟨s, hs⟩ : ∃ s, encN (lv l) = s := ⟨_, rfl⟩
 have hss : s.size = nb (lv l) := by rw [← hs]; exact encN_size _
 obtain ⟨b, hb⟩ : ∃ b, decide (sgn n (lv l) < 0) = b := ⟨_, rfl⟩
 rw [hs, hb]
 have HE := Lib.hid hs
 cases n with
 | false =>
  have hbf : b = false := by rw [← hb]; simp [sgn]; omega
  subst hbf
  clear ha hla hk hb2 hpos hz hs hss hb
  go_enter Tryz.func87, Tryz.ntmps87
  go_wp2_with fail
  refine (HN.out).mono ?_
  rintro e w' ⟨rfl, hbn⟩
  rw [HE.out]
  have c0 := hbn.cell (p := ⟨w.heap.size, 0, none⟩) (by simp; omega)
  have c1 : w'.cell? ⟨w.heap.size + 1, 0, none⟩ = some (.bool false) := (hbn.cell (by simp)).trans (by simp [go_sem])
  have c2 : w'.cell? ⟨w.heap.size + 1, 1, none⟩ = some (.string ⟨#[]⟩) := (hbn.cell (by simp)).trans (by simp [go_sem])
  have f1 := hbn.frozen (p := ⟨w.heap.size + 1, 0, none⟩) (by simp)
  have f2 := hbn.frozen (p := ⟨w.heap.size + 1, 1, none⟩) (by simp)
  have HB := Lib.hid (HS.out.trans (hbn.mono (by simp; omega)))
  clear hbn
  go_wp2
  refine bodyPost_ret (by simp [results, Tryz.results87, go_sem, c1, c2]; try rfl) rfl ?_
  exact ⟨rfl, (HB.out.setCell (by simp) _).setCell (by simp) _⟩
 | true =>
  rcases hz with hz | hz
  ·have hbf : b = false := by rw [← hb]; simp [sgn]; omega
   obtain ⟨t1, t2⟩ := toList_nil (s := s) (by rw [hss, hz, nb_zero])
   subst hbf
   clear ha hla hk hb2 hpos hz hs hss hb
   go_enter Tryz.func87, Tryz.ntmps87
   go_wp2_with fail
   refine (HN.out).mono ?_
   rintro e w' ⟨rfl, hbn⟩
   rw [HE.out]
   have c0 := hbn.cell (p := ⟨w.heap.size, 0, none⟩) (by simp; omega)
   have c1 : w'.cell? ⟨w.heap.size + 1, 0, none⟩ = some (.bool false) := (hbn.cell (by simp)).trans (by simp [go_sem])
   have c2 : w'.cell? ⟨w.heap.size + 1, 1, none⟩ = some (.string ⟨#[]⟩) := (hbn.cell (by simp)).trans (by simp [go_sem])
   have f1 := hbn.frozen (p := ⟨w.heap.size + 1, 0, none⟩) (by simp)
   have f2 := hbn.frozen (p := ⟨w.heap.size + 1, 1, none⟩) (by simp)
   have HB := Lib.hid (HS.out.trans (hbn.mono (by simp; omega)))
   clear hbn
   go_wp2
   refine bodyPost_ret (by simp [results, Tryz.results87, go_sem, c1, c2]; try rfl) rfl ?_
   exact ⟨rfl, (HB.out.setCell (by simp) _).setCell (by simp) _⟩
  ·have hbf : b = true := by rw [← hb]; simp [sgn]; omega
   obtain ⟨t1, t2⟩ := toList_ne (s := s) (by rw [hss]; exact (nb_spec hz).2.2)
   subst hbf
   clear ha hla hk hb2 hpos hz hs hss hb
   go_enter Tryz.func87, Tryz.ntmps87
   go_wp2_with fail
   refine (HN.out).mono ?_
   rintro e w' ⟨rfl, hbn⟩
   rw [HE.out]
   have c0 := hbn.cell (p := ⟨w.heap.size, 0, none⟩) (by simp; omega)
   have c1 : w'.cell? ⟨w.heap.size + 1, 0, none⟩ = some (.bool false) := (hbn.cell (by simp)).trans (by simp [go_sem])
   have c2 : w'.cell? ⟨w.heap.size + 1, 1, none⟩ = some (.string ⟨#[]⟩) := (hbn.cell (by simp)).trans (by simp [go_sem])
   have f1 := hbn.frozen (p := ⟨w.heap.size + 1, 0, none⟩) (by simp)
   have f2 := hbn.frozen (p := ⟨w.heap.size + 1, 1, none⟩) (by simp)
   have HB := Lib.hid (HS.out.trans (hbn.mono (by simp; omega)))
   clear hbn
   go_wp2
   refine bodyPost_ret (by simp [results, Tryz.results87, go_sem, c1, c2]; try rfl) rfl ?_
   exact ⟨rfl, (HB.out.setCell (by simp) _).setCell (by simp) _⟩
end Go.Proofs.YtoijlbcbbblbfaaGreatDoor

namespace Go.Proofs.YtoijlbcbbblbfaaGreatDoor
open Go.RowKit Num
set_option linter.unusedVariables false
set_option linter.unusedSimpArgs false

def SumP (v : Int) (w : World) (e : Ending) (w' : World) : Prop := ∃ n x r, e = .returned (.agg #[.bool n, x]) ∧ IsRow w' x r ∧ Lim r ∧ Tr r ∧ sgn n (lv r) = v ∧ Below w.heap.size w w'

theorem RL.setO {w : World} {A : Option Addr} {l : List Int} {p : Addr} {v : Value} (h : RL w A l) (hc : w.cell? p = some v) (hv : ∀ x, v ≠ .int .u64 x) (u : Value) : RL (w.setCell p u) A l :=
 ⟨h.1, fun hn => by
  obtain ⟨ad, e, hcl⟩ := h.2 hn
  refine ⟨ad, e, fun j hj => ?_⟩
  rw [World.cell?_setCell_other]
  ·exact hcl j hj
  ·intro e2
   have := hcl j hj
   rw [← e2, hc] at this
   injection this with this
   exact hv _ this⟩
/-- The variable that holds a sign and a row is set: other rows stay. -/
theorem RL.pair {w : World} {A : Option Addr} {l : List Int} {g : Nat} {n0 : Bool} {B0 : Option Addr} {k0 c0 : Nat} (h : RL w A l) (h0 : w.cell? ⟨g, 0, none⟩ = some (.bool n0)) (h1 : w.cell? ⟨g, 1, none⟩ = some (.slice B0 k0 c0)) (u v : Value) : RL ((w.setCell ⟨g, 0, none⟩ u).setCell ⟨g, 1, none⟩ v) A l := by
 refine RL.setO (RL.setO h h0 (by simp) u) (v := .slice B0 k0 c0) ?_ (by simp) v
 exact (World.cell?_setCell_other w ⟨g, 0, none⟩ ⟨g, 1, none⟩ u (by simp)).trans h1

set_option maxHeartbeats 1000000 in
theorem sum_c (n1 n2 : Bool) (A1 A2 : Option Addr) (k1 k2 c1 c2 : Nat) (a b : List Int) (h1 : a.length = k1) (h2 : b.length = k2) (h14 : k1 ≤ 4000) (h24 : k2 ≤ 4000) (hc1 : k1 ≤ c1) (hc2 : k2 ≤ c2) (w : World) (ha : RL w A1 a) (hb : RL w A2 b) (hla : Lim a) (hlb : Lim b) :
  Calls Tryz.prog 99 #[.agg #[.bool n1, .slice A1 k1 c1], .agg #[.bool n2, .slice A2 k2 c2]] w (SumP (sgn n1 (lv a) + sgn n2 (lv b)) w) := by
 obtain ⟨w3, hw3⟩ : ∃ w3, w3 = ((w.alloc (.cells #[.bool n1, .slice A1 k1 c1] 96)).alloc (.cells #[.bool n2, .slice A2 k2 c2] 96)).alloc (.cells #[.bool false, .slice none 0 0] 96) := ⟨_, rfl⟩
 have hb3 : Below w.heap.size w w3 := by rw [hw3]; exact (((Below.refl _ _).alloc (Nat.le_refl _) _).alloc (by simp) _).alloc (by simp; omega) _
 have HA := Lib.hid (ha.below hb3 (Nat.le_refl _))
 have HB := Lib.hid (hb.below hb3 (Nat.le_refl _))
 have d0 : w3.cell? ⟨w.heap.size, 0, none⟩ = some (.bool n1) := by rw [hw3]; simp [go_sem]
 have d1 : w3.cell? ⟨w.heap.size, 1, none⟩ = some (.slice A1 k1 c1) := by rw [hw3]; simp [go_sem]
 have d2 : w3.cell? ⟨w.heap.size + 1, 0, none⟩ = some (.bool n2) := by rw [hw3]; simp [go_sem]
 have d3 : w3.cell? ⟨w.heap.size + 1, 1, none⟩ = some (.slice A2 k2 c2) := by rw [hw3]; simp [go_sem]
 have d4 : w3.cell? ⟨w.heap.size + 2, 0, none⟩ = some (.bool false) := by rw [hw3]; simp [go_sem]
 have d5 : w3.cell? ⟨w.heap.size + 2, 1, none⟩ = some (.slice none 0 0) := by rw [hw3]; simp [go_sem]
 have d6 : w3.frozen? ⟨w.heap.size + 2, 0, none⟩ = false := by rw [hw3]; simp [go_sem]
 have d7 : w3.frozen? ⟨w.heap.size + 2, 1, none⟩ = false := by rw [hw3]; simp [go_sem]
 have hsz : w3.heap.size = w.heap.size + 3 := by rw [hw3]; simp
 have HW := Lib.hid hw3
 have HS := Lib.hid hb3
 have HSZ := Lib.hid hsz
 have hk1 := fun (w' : World) (h : Below w3.heap.size w3 w') => (show w'.cell? ⟨w.heap.size, 0, none⟩ = some (.bool n1) ∧ w'.cell? ⟨w.heap.size, 1, none⟩ = some (.slice A1 k1 c1) ∧ w'.cell? ⟨w.heap.size + 1, 0, none⟩ = some (.bool n2) ∧ w'.cell? ⟨w.heap.size + 1, 1, none⟩ = some (.slice A2 k2 c2) ∧ w'.cell? ⟨w.heap.size + 2, 0, none⟩ = some (.bool false) ∧ w'.cell? ⟨w.heap.size + 2, 1, none⟩ = some (.slice none 0 0) ∧ w'.frozen? ⟨w.heap.size + 2, 0, none⟩ = false ∧ w'.frozen? ⟨w.heap.size + 2, 1, none⟩ = false from
  ⟨(h.cell (by simp [hsz]; try omega)).trans d0, (h.cell (by simp [hsz]; try omega)).trans d1, (h.cell (by simp [hsz]; try omega)).trans d2, (h.cell (by simp [hsz]; try omega)).trans d3, (h.cell (by simp [hsz]; try omega)).trans d4, (h.cell (by simp [hsz]; try omega)).trans d5, (h.frozen (by simp [hsz]; try omega)).trans d6, (h.frozen (by simp [hsz]; try omega)).trans d7⟩)
 have HK := Lib.hid hk1
 by_cases hn : n1 = n2
 ·subst hn
  have HC := Lib.hid (add_c A1 A2 k1 k2 c1 c2 a b h1 h2 h14 h24 w3 HA.out HB.out hla hlb)
  have hvv : sgn n1 (lv a + lv b) = sgn n1 (lv a) + sgn n1 (lv b) := by cases n1 <;> simp [sgn]; try omega
  have HV := Lib.hid hvv
  clear hvv
  have ht : (n1 == n1) = true := by simp
  clear d0 d1 d2 d3 d4 d5 d6 d7 hk1 hsz hb3 ha hb hla hlb hw3
  go_enter Tryz.func99, Tryz.ntmps99
  go_wp2_with fail
  rw [← HW.out]
  refine (HC.out).mono ?_
  rintro e w' ⟨x, r, rfl, hr, hlr, htr, hvr, hbr⟩
  obtain ⟨A, cc, rfl, hrc, hrl⟩ := hr
  obtain ⟨e0, e1, e2, e3, e4, e5, e6, e7⟩ := HK.out _ hbr
  have HR := Lib.hid (And.intro hrc (And.intro hrl (And.intro hlr (And.intro htr (And.intro hvr (HS.out.trans (hbr.mono (by rw [HSZ.out]; omega)))))))) 
  clear hrc hrl hlr htr hvr hbr
  go_wp2
  refine bodyPost_ret (by simp [results, Tryz.results99, go_sem, e0, e1, e2, e3, e4, e5]; try rfl) rfl ?_
  obtain ⟨hrc, hrl, hlr, htr, hvr, hbl⟩ := HR.out
  exact ⟨_, _, r, rfl, ⟨A, cc, rfl, hrc, hrl.pair e4 e5 _ _⟩, hlr, htr, by rw [hvr]; exact HV.out, (hbl.setCell (by simp; try omega) _).setCell (by simp; try omega) _⟩
 ·have ht : (n1 == n2) = false := beq_eq_false_iff_ne.mpr hn
  have hn2 : n2 = !n1 := by cases n1 <;> cases n2 <;> simp_all
  by_cases hlt : lv b ≤ lv a
  ·have hvv : sgn n1 (lv a - lv b) = sgn n1 (lv a) + sgn n2 (lv b) := by rw [hn2]; cases n1 <;> simp [sgn] <;> omega
   have HV := Lib.hid hvv
   have HL := Lib.hid hlt
   have HC := Lib.hid (sub_c A1 A2 k1 k2 c1 c2 a b h1 h2 h14 h24 hc1 hc2 w3 HA.out HB.out hla hlb)
   clear hvv hn hn2 hlt
   clear d0 d1 d2 d3 d4 d5 d6 d7 hk1 hsz hb3 ha hb hla hlb hw3
   go_enter Tryz.func99, Tryz.ntmps99
   go_wp2_with fail
   rw [← HW.out]
   refine (HC.out).mono ?_
   rintro e w' ⟨hsp, -⟩
   obtain ⟨x, r, rfl, hr, hlr, htr, hvr, hbr⟩ := hsp HL.out
   clear hsp
   obtain ⟨A, cc, rfl, hrc, hrl⟩ := hr
   obtain ⟨e0, e1, e2, e3, e4, e5, e6, e7⟩ := HK.out _ hbr
   have HR := Lib.hid (And.intro hrc (And.intro hrl (And.intro hlr (And.intro htr (And.intro hvr (HS.out.trans (hbr.mono (by rw [HSZ.out]; omega)))))))) 
   clear hrc hrl hlr htr hvr hbr
   go_wp2
   refine bodyPost_ret (by simp [results, Tryz.results99, go_sem, e0, e1, e2, e3, e4, e5]; try rfl) rfl ?_
   obtain ⟨hrc, hrl, hlr, htr, hvr, hbl⟩ := HR.out
   exact ⟨_, _, r, rfl, ⟨A, cc, rfl, hrc, hrl.pair e4 e5 _ _⟩, hlr, htr, by rw [hvr]; exact HV.out, (hbl.setCell (by simp; try omega) _).setCell (by simp; try omega) _⟩
  ·have hvv : sgn n2 (lv b - lv a) = sgn n1 (lv a) + sgn n2 (lv b) := by rw [hn2]; cases n1 <;> simp [sgn] <;> omega
   have HV := Lib.hid hvv
   have HL := Lib.hid (Int.lt_of_not_ge hlt)
   have HC := Lib.hid (sub_c A1 A2 k1 k2 c1 c2 a b h1 h2 h14 h24 hc1 hc2 w3 HA.out HB.out hla hlb)
   have HC2 := fun (w' : World) (h : Below w3.heap.size w3 w') => sub_c A2 A1 k2 k1 c2 c1 b a h2 h1 h24 h14 hc2 hc1 w' (HB.out.below h (Nat.le_refl _)) (HA.out.below h (Nat.le_refl _)) hlb hla
   clear hvv hn hn2 hlt
   clear d0 d1 d2 d3 d4 d5 d6 d7 hk1 hsz hb3 ha hb hla hlb hw3
   go_enter Tryz.func99, Tryz.ntmps99
   go_wp2_with fail
   rw [← HW.out]
   refine (HC.out).mono ?_
   rintro e w' ⟨-, hsp⟩
   obtain ⟨rfl, hbs⟩ := hsp HL.out
   clear hsp
   obtain ⟨e0, e1, e2, e3, e4, e5, e6, e7⟩ := HK.out _ hbs
   have HC3 := Lib.hid (HC2 w' hbs)
   have HBS := Lib.hid hbs
   clear hbs HC2
   go_wp2_with fail
   clear e0 e1 e2 e3 e4 e5 e6 e7
   refine (HC3.out).mono ?_
   rintro e w5 ⟨hsp, -⟩
   obtain ⟨x, r, rfl, hr, hlr, htr, hvr, hbr⟩ := hsp (Int.le_of_lt HL.out)
   clear hsp
   obtain ⟨A, cc, rfl, hrc, hrl⟩ := hr
   have hbt := HBS.out.trans (hbr.mono HBS.out.size)
   obtain ⟨e0, e1, e2, e3, e4, e5, e6, e7⟩ := HK.out _ hbt
   have HR := Lib.hid (And.intro hrc (And.intro hrl (And.intro hlr (And.intro htr (And.intro hvr (HS.out.trans (hbt.mono (by rw [HSZ.out]; omega)))))))) 
   clear hrc hrl hlr htr hvr hbr hbt
   go_wp2
   refine bodyPost_ret (by simp [results, Tryz.results99, go_sem, e0, e1, e2, e3, e4, e5]; try rfl) rfl ?_
   obtain ⟨hrc, hrl, hlr, htr, hvr, hbl⟩ := HR.out
   exact ⟨_, _, r, rfl, ⟨A, cc, rfl, hrc, hrl.pair e4 e5 _ _⟩, hlr, htr, by rw [hvr]; exact HV.out, (hbl.setCell (by simp; try omega) _).setCell (by simp; try omega) _⟩
end Go.Proofs.YtoijlbcbbblbfaaGreatDoor

namespace Go.Proofs.YtoijlbcbbblbfaaGreatDoor
open Go.RowKit Num
set_option linter.unusedVariables false
set_option linter.unusedSimpArgs false

/-- A number that was read lies at the cells i and i + 1 of block g. -/
structure NumAt (w : World) (g i : Nat) (n : Bool) (s : ByteArray) (g1 k1 : Nat) (r1 : List Int) : Prop where
 c0 : w.cell? ⟨g, i, none⟩ = some (.bool n)
 c1 : w.cell? ⟨g, i + 1, none⟩ = some (.slice (some ⟨g1, 0, none⟩) k1 k1)
 f0 : w.frozen? ⟨g, i, none⟩ = false
 len : r1.length = k1
 le : k1 ≤ 4000
 row : RL w (some ⟨g1, 0, none⟩) r1
 lim : Lim r1
 tr : Tr r1
 val : lv r1 = nv s

def Read2P (n1 : Bool) (s1 : ByteArray) (n2 : Bool) (s2 : ByteArray) (w : World) (e : Ending) (w' : World) : Prop :=
 ∃ g c g1 k1 r1 g2 k2 r2, e = .returned (.tuple #[.slice (some ⟨g, 0, none⟩) 2 c, .int .i64 0]) ∧ w.heap.size ≤ g ∧ 2 ≤ c ∧ NumAt w' g 0 n1 s1 g1 k1 r1 ∧ NumAt w' g 2 n2 s2 g2 k2 r2 ∧ Below w.heap.size w w'
def Read1P (n1 : Bool) (s1 : ByteArray) (w : World) (e : Ending) (w' : World) : Prop :=
 ∃ g c g1 k1 r1, e = .returned (.tuple #[.slice (some ⟨g, 0, none⟩) 1 c, .int .i64 0]) ∧ w.heap.size ≤ g ∧ 1 ≤ c ∧ NumAt w' g 0 n1 s1 g1 k1 r1 ∧ Below w.heap.size w w'

theorem numAt_of {w0 base k : Nat} {w : World} {g : Nat} {cur : Array Value} {rs : List (Value × Value)} {t : TypeId} (hg : w.heap[g]? = some (.cells cur t (0, 0))) (ht : cur.toList.take (k * 2) = flat rs) (j : Nat) (p : Bool × ByteArray) (q : Value × Value) (hq : rs[j]? = some q) (ho : NumOk base w p q) :
  ∃ g1 k1 r1, NumAt w g (j * 2) p.1 p.2 g1 k1 r1 := by
 obtain ⟨h1, g1, n1, r, h2, hb, h3, h4, h5, h6, h7, h8⟩ := ho
 have hf : ∀ (l : List (Value × Value)) (j : Nat) (q : Value × Value), l[j]? = some q → (flat l)[j * 2]? = some q.1 ∧ (flat l)[j * 2 + 1]? = some q.2 := by
  intro l
  induction l with
  | nil => intro j q h; simp at h
  | cons a l ih =>
   intro j q h
   cases j with
   | zero => simp at h; subst h; exact ⟨rfl, rfl⟩
   | succ j =>
    rw [List.getElem?_cons_succ] at h
    have := ih j q h
    have e : flat (a :: l) = a.1 :: a.2 :: flat l := by simp [flat]
    rw [e, show (j + 1) * 2 = j * 2 + 2 by omega]
    exact this
 obtain ⟨f1, f2⟩ := hf rs j q hq
 rw [← ht, List.getElem?_take] at f1 f2
 split at f1 <;> try contradiction
 split at f2 <;> try contradiction
 refine ⟨g1, n1, r, ?_, ?_, ?_, h3, h4, h5.RL (by omega), h6, h7, h8⟩
 ·unfold World.cell?
  rw [show w.heap[(⟨g, j * 2, none⟩ : Addr).block]? = _ from hg]
  rw [h1] at f1
  simpa using f1
 ·unfold World.cell?
  rw [show w.heap[(⟨g, j * 2 + 1, none⟩ : Addr).block]? = _ from hg]
  rw [h2] at f2
  simpa using f2
 ·unfold World.frozen?
  rw [show w.heap[(⟨g, j * 2, none⟩ : Addr).block]? = _ from hg]
  simp

theorem read2_c (n1 : Bool) (s1 : ByteArray) (n2 : Bool) (s2 : ByteArray) (g c : Nat) (w : World) (h0 : w.cell? ⟨g, 0, none⟩ = some (.bool n1)) (h1 : w.cell? ⟨g, 1, none⟩ = some (.string s1)) (h2 : w.cell? ⟨g, 2, none⟩ = some (.bool n2)) (h3 : w.cell? ⟨g, 3, none⟩ = some (.string s2)) (hk1 : okI n1 s1) (hk2 : okI n2 s2) :
  Calls Tryz.prog 88 #[.slice (some ⟨g, 0, none⟩) 2 c] w (Read2P n1 s1 n2 s2 w) := by
 refine (read_ok ⟨g, 0, none⟩ [(n1, s1), (n2, s2)] 2 c rfl (by omega) w ?_ ?_).mono ?_
 ·intro j n s h
  match j, h with
  | 0, h => simp at h; obtain ⟨rfl, rfl⟩ := h; exact ⟨by simpa [Addr.add] using h0, by simpa [Addr.add] using h1⟩
  | 1, h => simp at h; obtain ⟨rfl, rfl⟩ := h; exact ⟨by simpa [Addr.add] using h2, by simpa [Addr.add] using h3⟩
  | j + 2, h => simp at h
 ·intro p hp
  simp at hp
  rcases hp with rfl | rfl
  ·exact hk1
  ·exact hk2
 ·rintro e w' ⟨v, rs, rfl, own, len, ok, bel⟩
  obtain ⟨hl, ⟨-, h⟩ | ⟨g', cap, cur, rfl, hb, hh, hc, _, _, ht⟩⟩ := own
  ·omega
  ·obtain ⟨a, ha⟩ : ∃ a, rs[0]? = some a := ⟨_, List.getElem?_eq_getElem (by omega)⟩
   obtain ⟨b, hb'⟩ : ∃ a, rs[1]? = some a := ⟨_, List.getElem?_eq_getElem (by omega)⟩
   obtain ⟨g1, k1, r1, q1⟩ := numAt_of (w0 := 0) hh ht 0 (n1, s1) a ha (ok 0 _ _ (by omega) rfl ha)
   obtain ⟨g2, k2, r2, q2⟩ := numAt_of (w0 := 0) hh ht 1 (n2, s2) b hb' (ok 1 _ _ (by omega) rfl hb')
   exact ⟨g', cap, g1, k1, r1, g2, k2, r2, rfl, hb, hc, q1, q2, bel⟩
theorem read1_c (n1 : Bool) (s1 : ByteArray) (g c : Nat) (w : World) (h0 : w.cell? ⟨g, 0, none⟩ = some (.bool n1)) (h1 : w.cell? ⟨g, 1, none⟩ = some (.string s1)) (hk1 : okI n1 s1) :
  Calls Tryz.prog 88 #[.slice (some ⟨g, 0, none⟩) 1 c] w (Read1P n1 s1 w) := by
 refine (read_ok ⟨g, 0, none⟩ [(n1, s1)] 1 c rfl (by omega) w ?_ ?_).mono ?_
 ·intro j n s h
  match j, h with
  | 0, h => simp at h; obtain ⟨rfl, rfl⟩ := h; exact ⟨by simpa [Addr.add] using h0, by simpa [Addr.add] using h1⟩
  | j + 1, h => simp at h
 ·intro p hp
  simp at hp
  subst hp
  exact hk1
 ·rintro e w' ⟨v, rs, rfl, own, len, ok, bel⟩
  obtain ⟨hl, ⟨-, h⟩ | ⟨g', cap, cur, rfl, hb, hh, hc, _, _, ht⟩⟩ := own
  ·omega
  ·obtain ⟨a, ha⟩ : ∃ a, rs[0]? = some a := ⟨_, List.getElem?_eq_getElem (by omega)⟩
   obtain ⟨g1, k1, r1, q1⟩ := numAt_of (w0 := 0) hh ht 0 (n1, s1) a ha (ok 0 _ _ (by omega) rfl ha)
   exact ⟨g', cap, g1, k1, r1, rfl, hb, hc, q1, bel⟩
def bad2 (n1 : Bool) (s1 : ByteArray) (n2 : Bool) (s2 : ByteArray) : Int := if chk n1 s1 ≠ 0 then chk n1 s1 else chk n2 s2
theorem bad2_ok {n1 : Bool} {s1 : ByteArray} {n2 : Bool} {s2 : ByteArray} : bad2 n1 s1 n2 s2 = 0 ↔ okI n1 s1 ∧ okI n2 s2 := by
 unfold bad2
 rw [← chk_ok, ← chk_ok]
 split
 ·constructor
  ·intro h; contradiction
  ·intro h; exact h.1
 ·rename_i h
  have h0 : chk n1 s1 = 0 := Decidable.not_not.1 h
  exact ⟨fun h => ⟨h0, h⟩, fun h => h.2⟩
theorem read2_bad (n1 : Bool) (s1 : ByteArray) (n2 : Bool) (s2 : ByteArray) (g c : Nat) (w : World) (h0 : w.cell? ⟨g, 0, none⟩ = some (.bool n1)) (h1 : w.cell? ⟨g, 1, none⟩ = some (.string s1)) (h2 : w.cell? ⟨g, 2, none⟩ = some (.bool n2)) (h3 : w.cell? ⟨g, 3, none⟩ = some (.string s2)) (hb : bad2 n1 s1 n2 s2 ≠ 0) :
  Calls Tryz.prog 88 #[.slice (some ⟨g, 0, none⟩) 2 c] w fun e w' => e = .returned (.tuple #[.slice none 0 0, .int .i64 (bad2 n1 s1 n2 s2)]) ∧ Below w.heap.size w w' := by
 have ha : AskAt w ⟨g, 0, none⟩ [(n1, s1), (n2, s2)] := by
  intro j n s h
  match j, h with
  | 0, h => simp at h; obtain ⟨rfl, rfl⟩ := h; exact ⟨by simpa [Addr.add] using h0, by simpa [Addr.add] using h1⟩
  | 1, h => simp at h; obtain ⟨rfl, rfl⟩ := h; exact ⟨by simpa [Addr.add] using h2, by simpa [Addr.add] using h3⟩
  | j + 2, h => simp at h
 unfold bad2 at *
 split at hb
 ·rename_i hc
  rw [if_pos hc]
  exact read_bad ⟨g, 0, none⟩ _ 2 c rfl (by omega) w ha 0 n1 s1 rfl hc (fun j p h => by omega)
 ·rename_i hc
  rw [if_neg hc]
  refine read_bad ⟨g, 0, none⟩ _ 2 c rfl (by omega) w ha 1 n2 s2 rfl hb (fun j p h hp => ?_)
  have : j = 0 := by omega
  subst this
  simp at hp
  subst hp
  exact chk_ok.1 (Decidable.not_not.1 hc)
theorem read1_bad (n1 : Bool) (s1 : ByteArray) (g c : Nat) (w : World) (h0 : w.cell? ⟨g, 0, none⟩ = some (.bool n1)) (h1 : w.cell? ⟨g, 1, none⟩ = some (.string s1)) (hb : chk n1 s1 ≠ 0) :
  Calls Tryz.prog 88 #[.slice (some ⟨g, 0, none⟩) 1 c] w fun e w' => e = .returned (.tuple #[.slice none 0 0, .int .i64 (chk n1 s1)]) ∧ Below w.heap.size w w' := by
 have ha : AskAt w ⟨g, 0, none⟩ [(n1, s1)] := by
  intro j n s h
  match j, h with
  | 0, h => simp at h; obtain ⟨rfl, rfl⟩ := h; exact ⟨by simpa [Addr.add] using h0, by simpa [Addr.add] using h1⟩
  | j + 1, h => simp at h
 exact read_bad ⟨g, 0, none⟩ _ 1 c rfl (by omega) w ha 0 n1 s1 rfl hb (fun j p h => by omega)
end Go.Proofs.YtoijlbcbbblbfaaGreatDoor
