import Derived.Test.YtimpimnaknkgpaaDoorK
import Derived.Laws.AppendOwn
namespace Go.Proofs.YtimpimnaknkgpaaDoor
open Go.RowKit Num
set_option linter.unusedVariables false
set_option linter.unusedSimpArgs false

theorem num_info : (Tryd.prog.info? 55).map (fun i => (i.zero, i.size, i.bytes)) = some (some (.agg #[.bool false, .slice none 0 0]), 2, 32) := by kernel_rfl
/-- The whole numbers that a call is asked, as they lie at an address. -/
def AskAt (w : World) (ad : Addr) (xs : List (Bool × ByteArray)) : Prop := ∀ j n s, xs[j]? = some (n, s) → w.cell? (ad.add (j * 2)) = some (.bool n) ∧ w.cell? ⟨(ad.add (j * 2)).block, (ad.add (j * 2)).off + 1, none⟩ = some (.string s)
/-- One number, read: its sign, and a row of limbs in a block of its own. -/
def NumOk (base : Nat) (w : World) (p : Bool × ByteArray) (v : Value × Value) : Prop := v.1 = .bool p.1 ∧ ∃ g n r, v.2 = .slice (some ⟨g, 0, none⟩) n n ∧ base ≤ g ∧ r.length = n ∧ n ≤ 4000 ∧ Blk w g r ∧ Lim r ∧ Tr r ∧ lv r = nv p.2
theorem NumOk.keep {base : Nat} {w w' : World} {p : Bool × ByteArray} {v : Value × Value} (h : NumOk base w p v) (hk : ∀ g l, Blk w g l → w'.heap[g]? = w.heap[g]?) : NumOk base w' p v := by
  obtain ⟨h1, g, n, r, h2, hb, h3, h4, h5, h6⟩ := h
  refine ⟨h1, g, n, r, h2, hb, h3, h4, ?_, h6⟩
  have := hk g r h5
  obtain ⟨cur, hc, h⟩ := h5
  exact ⟨cur, this.trans hc, h⟩
def flat (l : List (Value × Value)) : List Value := l.flatMap fun p => [p.1, p.2]
theorem flat_snoc (l : List (Value × Value)) (p : Value × Value) : flat (l ++ [p]) = flat l ++ [p.1, p.2] := by simp [flat]
theorem flat_len (l : List (Value × Value)) : (flat l).length = 2 * l.length := by
  induction l with
  | nil => rfl
  | cons a t ih => simp only [flat, List.flatMap_cons, List.length_append, List.length_cons, List.length_nil] at *; omega
theorem own_below {w w1 : World} {base : Nat} {e : TypeId} {size n : Nat} {v : Value} {xs : List Value} (h : w.ownsRow base e size v n xs) (hb : Below w.heap.size w w1) : w1.ownsRow base e size v n xs :=
  h.kept (row := none) ⟨hb.os, hb.tape, hb.output, hb.size, fun i hi _ => hb.block i hi⟩ (by cases v.ownBlock <;> simp)
theorem own_type {w : World} {base : Nat} {e : TypeId} {size n : Nat} {v : Value} {xs : List Value} (h : w.ownsRow base e size v n xs) (k : Nat) (hk : v.ownBlock = some k) : ∃ cells, w.heap[k]? = some (.cells cells e (0, 0)) := by
  rcases h.2 with ⟨rfl, _⟩ | ⟨g, cap, cur, rfl, hg, hh, r⟩
  · simp [Value.ownBlock] at hk
  · have : g = k := by simpa [Value.ownBlock] using hk
    subst this
    exact ⟨cur, hh⟩
theorem two_new (w : World) (a b : Value) (t : TypeId) : ∀ j u, [a, b][j]? = some u → (w.alloc (.cells #[a, b] t)).cell? ((⟨w.heap.size, 0, none⟩ : Addr).add j) = some u := by
  intro j u h
  match j, h with
  | 0, h => simp at h; subst h; simp [Addr.add, go_sem]
  | 1, h => simp at h; subst h; simp [Addr.add, go_sem]
  | j + 2, h => simp at h
theorem two_one (n : Bool) (A : Option Addr) (l c : Nat) : ∀ u ∈ [Value.bool n, Value.slice A l c], u.oneCell' = true := by
  intro u h
  simp at h
  rcases h with rfl | rfl <;> rfl
theorem blk_far {w w' : World} {base n : Nat} {v : Value} {xs : List Value} {size : Nat} (ho : w.ownsRow base 55 size v n xs) (hg : w.grownBy w' v.ownBlock) : ∀ g l, Blk w g l → w'.heap[g]? = w.heap[g]? := by
  intro g l hb
  refine hg.block g hb.lt ?_
  intro e
  obtain ⟨cells, hc⟩ := own_type ho g e.symm
  obtain ⟨cur, hh, _⟩ := hb
  rw [hc] at hh
  injection hh with hh
  injection hh with _ ht
  revert ht
  decide
theorem blk_bel {w w' : World} (hb : Below w.heap.size w w') : ∀ g l, Blk w g l → w'.heap[g]? = w.heap[g]? := fun g l h => hb.block g h.lt
structure ReadW (base : Nat) (xs : List (Bool × ByteArray)) (w : World) (k : Nat) (v : Value) (rs : List (Value × Value)) (w1 : World) : Prop where
  own : w1.ownsRow base 55 2 v k (flat rs)
  len : rs.length = k
  ok : ∀ j p q, j < k → xs[j]? = some p → rs[j]? = some q → NumOk base w1 p q
  below : Below w.heap.size w w1

set_option maxHeartbeats 1000000 in
set_option maxRecDepth 100000 in
theorem read_ok (ad : Addr) (xs : List (Bool × ByteArray)) (m c : Nat) (hm : xs.length = m) (hm4 : m ≤ 100) (w : World) (ha : AskAt w ad xs) (hok : ∀ p ∈ xs, okI p.1 p.2) :
    Calls Tryd.prog 32 #[.slice (some ad) m c] w fun e w' => ∃ v rs, e = .returned (.tuple #[v, .int .i64 0]) ∧ ReadW w.heap.size xs w m v rs w' := by
  obtain ⟨i0, hi0, hz0, hz1, hz2⟩ := info_parts num_info
  have HM := Lib.hid hm
  have HA := Lib.hid ha
  have HOK := Lib.hid hok
  have HI := Lib.hid (And.intro hi0 (And.intro hz0 (And.intro hz1 hz2)))
  clear hm ha hok hi0 hz0 hz1 hz2
  have hu := Tryd.underlying24
  go_enter Tryd.func32, Tryd.ntmps32
  go_wp2
  go_loopw [4, 6, 7, 8, 9, 12] (fun v _ _ _ _ t w1 => ∃ (k : Nat) (rs : List (Value × Value)), k ≤ m ∧ t = .int .i64 k ∧ ReadW w.heap.size xs w k v rs w1) (fun _ _ _ _ _ t _ => m - (intOf t).toNat)
  case atStart => exact ⟨0, [], Nat.zero_le _, rfl, ⟨⟨rfl, .inl ⟨rfl, rfl⟩⟩, rfl, fun j p q h => by omega, Below.refl _ _⟩⟩
  case round =>
    obtain ⟨k, rs, hk, rfl, hI⟩ := hrel
    by_cases hlt : k < m
    · have h1 : decide ((k : Int) < (m : Int)) = true := by simp; omega
      have hkx : k < xs.length := by rw [HM.out]; exact hlt
      obtain ⟨n, s, hp⟩ : ∃ n s, xs[k]? = some (n, s) := ⟨_, _, List.getElem?_eq_getElem hkx⟩
      obtain ⟨a1, a2⟩ := HA.out k n s hp
      have hblk := World.block_lt_of_cell? w _ a1
      have a1' := (hI.below.cell hblk).trans a1
      have a2' := (hI.below.cell (World.block_lt_of_cell? w _ a2)).trans a2
      have hokk := HOK.out (n, s) (List.mem_of_getElem? hp)
      have hck := chk_ok.mpr hokk
      have hcc := Lib.hid (check_c n s)
      have hof := Lib.hid (of_blk s hokk.1 hokk.2.1)
      have HII := Lib.hid hI
      have HP := Lib.hid hp
      have HCK := Lib.hid hck
      clear a1 a2 hI hp hck hokk hblk hkx
      go_wp2_with fail
      refine (hcc.out _).mono ?_
      rintro e w2 ⟨rfl, hb2⟩
      rw [HCK.out]
      have c1 := hb2.cell (p := ⟨wr.heap.size, 0, none⟩) (by simp)
      have c2 := hb2.cell (p := ⟨wr.heap.size, 1, none⟩) (by simp)
      have HB2 := Lib.hid hb2
      clear hb2
      go_wp2_with fail
      refine (hof.out _).mono ?_
      rintro e w3 ⟨g, n3, r, rfl, hg, hrl, hn3, hkr, hlr, htr, hvr, hb3⟩
      have hsz2 := HB2.out.size
      simp at hsz2
      have c3 := (hb3.cell (p := ⟨wr.heap.size, 0, none⟩) (by simp; omega)).trans c1
      have c4 := (hb3.cell (p := ⟨wr.heap.size, 1, none⟩) (by simp; omega)).trans c2
      have HR := Lib.hid (And.intro hg (And.intro hrl (And.intro hn3 (And.intro hkr (And.intro hlr (And.intro htr (And.intro hvr hb3)))))))
      clear c1 c2 hg hrl hn3 hkr hlr htr hvr hb3
      have hbw : Below wr.heap.size wr (w3.alloc (.cells #[.bool n, .slice (some ⟨g, 0, none⟩) n3 n3] 55)) := by
        have h1 : Below wr.heap.size wr w2 := ((Below.refl _ _).alloc (Nat.le_refl _) _).trans (HB2.out.mono (by simp))
        have h2 := h1.trans (HR.out.2.2.2.2.2.2.2.mono h1.size)
        exact h2.alloc h2.size _
      have hown := own_below HII.out.own hbw
      have hsz3 := hbw.size
      have hbw0 := HII.out.below.trans (hbw.mono HII.out.below.size)
      have HOWN := Lib.hid hown
      have HBW := Lib.hid (And.intro hbw hbw0)
      clear hbw hown hbw0 hsz3
      go_wp2_with (at_builtin; refine wpList_append_own _ rfl (.tmp 27) (.tmp 32) 48 rfl w.heap.size 55 i0 (.agg #[.bool false, .slice none 0 0]) 2 32 Tryd.underlying48 HI.out.1 HI.out.2.1 HI.out.2.2.1 HI.out.2.2.2 rfl (by omega) u4 k (flat rs) rfl HOWN.out ⟨w3.heap.size, 0, none⟩ 1 1 [.bool n, .slice (some ⟨g, 0, none⟩) n3 n3] rfl rfl ?_ ?_ (by simp only [maxLen]; omega) (by omega) ?_ ?_; exact two_new _ _ _ _; exact two_one _ _ _ _; exact HBW.out.2.size; intro v4 w4 hown4 hg4 hiff4)
      obtain ⟨b1, b2⟩ := HBW.out
      obtain ⟨r1, r2, r3, r4, r5, r6, r7, r8⟩ := HR.out
      have hfar := blk_far HOWN.out hg4
      refine ⟨⟨k + 1, rs ++ [(.bool n, .slice (some ⟨g, 0, none⟩) n3 n3)], by omega, by go_num, ⟨by rw [flat_snoc]; exact hown4, by simp [HII.out.len], ?_, ?_⟩⟩, by simp [intOf]; omega⟩
      · intro j p q hj hp hq
        by_cases e : j = k
        · subst e
          rw [HP.out] at hp
          cases hp
          rw [List.getElem?_append_right (by rw [HII.out.len]; exact Nat.le_refl _), HII.out.len, Nat.sub_self] at hq
          cases hq
          have hk3 : Blk (w3.alloc (.cells #[.bool n, .slice (some ⟨g, 0, none⟩) n3 n3] 55)) g r := r4.below ((Below.refl _ _).alloc (Nat.le_refl _) _) r4.lt
          refine ⟨rfl, g, n3, r, rfl, ?_, r2, r3, ?_, r5, r6, r7⟩
          · have := HB2.out.size
            have := HII.out.below.size
            simp at *
            omega
          · have := hfar g r hk3
            obtain ⟨cur, hc, h⟩ := hk3
            exact ⟨cur, this.trans hc, h⟩
        · rw [List.getElem?_append_left (by rw [HII.out.len]; omega)] at hq
          exact ((HII.out.ok j p q (by omega) hp hq).keep (blk_bel b1)).keep hfar
      · refine b2.trans ?_
        exact ⟨hg4.os, hg4.tape, hg4.output, hg4.size, fun i hi => hg4.block i (by have := b2.size; omega) (fun e => by
          rcases HOWN.out.2 with ⟨e2, _⟩ | ⟨g', cap, cur, e2, hg', _⟩
          · rw [e2] at e; simp [Value.ownBlock] at e
          · rw [e2] at e; simp [Value.ownBlock] at e; omega)⟩
    · have he : k = m := by omega
      have h1 : decide ((k : Int) < (m : Int)) = false := by simp; omega
      subst he
      have HII := Lib.hid hI
      clear hI
      go_wp2
      go_ret2
      exact ⟨_, rs, rfl, HII.out⟩
set_option maxHeartbeats 1000000 in
set_option maxRecDepth 100000 in
theorem read_bad (ad : Addr) (xs : List (Bool × ByteArray)) (m c : Nat) (hm : xs.length = m) (hm4 : m ≤ 100) (w : World) (ha : AskAt w ad xs) (b : Nat) (nb : Bool) (sb : ByteArray) (hb : xs[b]? = some (nb, sb)) (hbad : chk nb sb ≠ 0) (hok : ∀ j p, j < b → xs[j]? = some p → okI p.1 p.2) :
    Calls Tryd.prog 32 #[.slice (some ad) m c] w fun e w' => e = .returned (.tuple #[.slice none 0 0, .int .i64 (chk nb sb)]) ∧ Below w.heap.size w w' := by
  obtain ⟨i0, hi0, hz0, hz1, hz2⟩ := info_parts num_info
  have HM := Lib.hid hm
  have HA := Lib.hid ha
  have HOK := Lib.hid hok
  have hbm : b < m := by rw [← hm]; exact (List.getElem?_eq_some_iff.1 hb).1
  have HBAD := Lib.hid (And.intro hb hbad)
  have HI := Lib.hid (And.intro hi0 (And.intro hz0 (And.intro hz1 hz2)))
  clear hb hbad hm ha hok hi0 hz0 hz1 hz2
  have hu := Tryd.underlying24
  go_enter Tryd.func32, Tryd.ntmps32
  go_wp2
  go_loopw [4, 6, 7, 8, 9, 12] (fun v _ _ _ _ t w1 => ∃ (k : Nat) (rs : List (Value × Value)), k ≤ b ∧ t = .int .i64 k ∧ ReadW w.heap.size xs w k v rs w1) (fun _ _ _ _ _ t _ => m - (intOf t).toNat)
  case atStart => exact ⟨0, [], Nat.zero_le _, rfl, ⟨⟨rfl, .inl ⟨rfl, rfl⟩⟩, rfl, fun j p q h => by omega, Below.refl _ _⟩⟩
  case round =>
    obtain ⟨k, rs, hk, rfl, hI⟩ := hrel
    by_cases hlt : k < b
    · have h1 : decide ((k : Int) < (m : Int)) = true := by simp; omega
      have hkm : k < m := by omega
      have hkx : k < xs.length := by rw [HM.out]; exact hkm
      obtain ⟨n, s, hp⟩ : ∃ n s, xs[k]? = some (n, s) := ⟨_, _, List.getElem?_eq_getElem hkx⟩
      obtain ⟨a1, a2⟩ := HA.out k n s hp
      have hblk := World.block_lt_of_cell? w _ a1
      have a1' := (hI.below.cell hblk).trans a1
      have a2' := (hI.below.cell (World.block_lt_of_cell? w _ a2)).trans a2
      have hokk := HOK.out k (n, s) hlt hp
      have hck := chk_ok.mpr hokk
      have hcc := Lib.hid (check_c n s)
      have hof := Lib.hid (of_blk s hokk.1 hokk.2.1)
      have HII := Lib.hid hI
      have HP := Lib.hid hp
      have HCK := Lib.hid hck
      clear a1 a2 hI hp hck hokk hblk hkx
      go_wp2_with fail
      refine (hcc.out _).mono ?_
      rintro e w2 ⟨rfl, hb2⟩
      rw [HCK.out]
      have c1 := hb2.cell (p := ⟨wr.heap.size, 0, none⟩) (by simp)
      have c2 := hb2.cell (p := ⟨wr.heap.size, 1, none⟩) (by simp)
      have HB2 := Lib.hid hb2
      clear hb2
      go_wp2_with fail
      refine (hof.out _).mono ?_
      rintro e w3 ⟨g, n3, r, rfl, hg, hrl, hn3, hkr, hlr, htr, hvr, hb3⟩
      have hsz2 := HB2.out.size
      simp at hsz2
      have c3 := (hb3.cell (p := ⟨wr.heap.size, 0, none⟩) (by simp; omega)).trans c1
      have c4 := (hb3.cell (p := ⟨wr.heap.size, 1, none⟩) (by simp; omega)).trans c2
      have HR := Lib.hid (And.intro hg (And.intro hrl (And.intro hn3 (And.intro hkr (And.intro hlr (And.intro htr (And.intro hvr hb3)))))))
      clear c1 c2 hg hrl hn3 hkr hlr htr hvr hb3
      have hbw : Below wr.heap.size wr (w3.alloc (.cells #[.bool n, .slice (some ⟨g, 0, none⟩) n3 n3] 55)) := by
        have h1 : Below wr.heap.size wr w2 := ((Below.refl _ _).alloc (Nat.le_refl _) _).trans (HB2.out.mono (by simp))
        have h2 := h1.trans (HR.out.2.2.2.2.2.2.2.mono h1.size)
        exact h2.alloc h2.size _
      have hown := own_below HII.out.own hbw
      have hsz3 := hbw.size
      have hbw0 := HII.out.below.trans (hbw.mono HII.out.below.size)
      have HOWN := Lib.hid hown
      have HBW := Lib.hid (And.intro hbw hbw0)
      clear hbw hown hbw0 hsz3
      go_wp2_with (at_builtin; refine wpList_append_own _ rfl (.tmp 27) (.tmp 32) 48 rfl w.heap.size 55 i0 (.agg #[.bool false, .slice none 0 0]) 2 32 Tryd.underlying48 HI.out.1 HI.out.2.1 HI.out.2.2.1 HI.out.2.2.2 rfl (by omega) u4 k (flat rs) rfl HOWN.out ⟨w3.heap.size, 0, none⟩ 1 1 [.bool n, .slice (some ⟨g, 0, none⟩) n3 n3] rfl rfl ?_ ?_ (by simp only [maxLen]; omega) (by omega) ?_ ?_; exact two_new _ _ _ _; exact two_one _ _ _ _; exact HBW.out.2.size; intro v4 w4 hown4 hg4 hiff4)
      obtain ⟨b1, b2⟩ := HBW.out
      obtain ⟨r1, r2, r3, r4, r5, r6, r7, r8⟩ := HR.out
      have hfar := blk_far HOWN.out hg4
      refine ⟨⟨k + 1, rs ++ [(.bool n, .slice (some ⟨g, 0, none⟩) n3 n3)], by omega, by go_num, ⟨by rw [flat_snoc]; exact hown4, by simp [HII.out.len], ?_, ?_⟩⟩, by simp [intOf]; omega⟩
      · intro j p q hj hp hq
        by_cases e : j = k
        · subst e
          rw [HP.out] at hp
          cases hp
          rw [List.getElem?_append_right (by rw [HII.out.len]; exact Nat.le_refl _), HII.out.len, Nat.sub_self] at hq
          cases hq
          have hk3 : Blk (w3.alloc (.cells #[.bool n, .slice (some ⟨g, 0, none⟩) n3 n3] 55)) g r := r4.below ((Below.refl _ _).alloc (Nat.le_refl _) _) r4.lt
          refine ⟨rfl, g, n3, r, rfl, ?_, r2, r3, ?_, r5, r6, r7⟩
          · have := HB2.out.size
            have := HII.out.below.size
            simp at *
            omega
          · have := hfar g r hk3
            obtain ⟨cur, hc, h⟩ := hk3
            exact ⟨cur, this.trans hc, h⟩
        · rw [List.getElem?_append_left (by rw [HII.out.len]; omega)] at hq
          exact ((HII.out.ok j p q (by omega) hp hq).keep (blk_bel b1)).keep hfar
      · refine b2.trans ?_
        exact ⟨hg4.os, hg4.tape, hg4.output, hg4.size, fun i hi => hg4.block i (by have := b2.size; omega) (fun e => by
          rcases HOWN.out.2 with ⟨e2, _⟩ | ⟨g', cap, cur, e2, hg', _⟩
          · rw [e2] at e; simp [Value.ownBlock] at e
          · rw [e2] at e; simp [Value.ownBlock] at e; omega)⟩
    · have he : k = b := by omega
      subst he
      have h1 : decide ((k : Int) < (m : Int)) = true := by simp; omega
      obtain ⟨a1, a2⟩ := HA.out k nb sb HBAD.out.1
      have a1' := (hI.below.cell (World.block_lt_of_cell? w _ a1)).trans a1
      have a2' := (hI.below.cell (World.block_lt_of_cell? w _ a2)).trans a2
      have hcc := Lib.hid (check_c nb sb)
      have hz1 : (chk nb sb == 0) = false := beq_eq_false_iff_ne.mpr HBAD.out.2
      have hz2 : (chk nb sb != 0) = true := bne_iff_ne.mpr HBAD.out.2
      have HII := Lib.hid hI
      clear a1 a2 hI
      go_wp2_with fail
      refine (hcc.out _).mono ?_
      rintro e w2 ⟨rfl, hb2⟩
      have HB2 := Lib.hid hb2
      clear hb2
      go_wp2
      go_ret2
      exact ⟨rfl, HII.out.below.trans ((((Below.refl _ _).alloc (Nat.le_refl _) _).trans (HB2.out.mono (by simp))).mono HII.out.below.size)⟩
end Go.Proofs.YtimpimnaknkgpaaDoor
