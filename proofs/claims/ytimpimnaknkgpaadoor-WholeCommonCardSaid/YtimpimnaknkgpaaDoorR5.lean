import Derived.Test.YtimpimnaknkgpaaDoorL0
namespace Go.Proofs.YtimpimnaknkgpaaDoor
open Go.RowKit Num
set_option linter.unusedVariables false
set_option linter.unusedSimpArgs false

def natB (s : ByteArray) : Bool := !decide (0 < s.size ∧ byt s (s.size - 1) = 0)
set_option maxHeartbeats 1000000 in
theorem isnat_r (s : ByteArray) (w : World) : Calls Tryd.prog 48 #[.string s] w fun e w' => e = .returned (.bool (natB s)) ∧ Below w.heap.size w w' := by
  by_cases h0 : s.size = 0
  · obtain ⟨t1, t2⟩ := toList_nil h0
    have HZ := Lib.hid (show natB s = true by unfold natB; rw [decide_eq_false (by omega)]; rfl)
    clear h0
    go_enter Tryd.func48, Tryd.ntmps48
    go_wp2
    repeat (go_quiet (fail); try go_wp2)
    go_ret
    exact ⟨by rw [HZ.out] <;> rfl, by first | exact Below.refl _ _ | exact bdrN (Below.refl _ _) _⟩
  · obtain ⟨t1, t2⟩ := toList_ne (by omega : 0 < s.size)
    obtain ⟨t0, ht0⟩ : ∃ t0, byt s (s.size - 1) = t0 := ⟨_, rfl⟩
    have hx : ∀ h : 0 < s.size, ((s[0]'h).toNat : Int) = t0 := fun h => by
      rw [← ht0]; unfold byt
      rw [dif_pos (by omega)]
      congr 3
      omega
    have q1 := eq_true (show (0 : Int) < (s.size : Int) by omega)
    have q2 := eq_true (show 0 < s.size by omega)
    by_cases hz : t0 = 0
    · have HZ := Lib.hid (show natB s = false by unfold natB; rw [decide_eq_true ⟨by omega, by rw [ht0]; exact hz⟩]; rfl)
      subst hz
      clear h0 ht0
      go_enter Tryd.func48, Tryd.ntmps48
      go_wp2
      repeat (go_quiet (fail); try go_wp2)
      go_ret
      exact ⟨by rw [HZ.out] <;> rfl, by first | exact Below.refl _ _ | exact bdrN (Below.refl _ _) _⟩
    · have HZ := Lib.hid (show natB s = true by unfold natB; rw [decide_eq_false (by rw [ht0]; exact fun h => hz h.2)]; rfl)
      have y1 : (t0 == 0) = false := beq_eq_false_iff_ne.mpr hz
      have y2 : (t0 != 0) = true := bne_iff_ne.mpr hz
      clear h0 ht0 hz
      go_enter Tryd.func48, Tryd.ntmps48
      go_wp2
      repeat (go_quiet (fail); try go_wp2)
      go_ret
      exact ⟨by rw [HZ.out] <;> rfl, by first | exact Below.refl _ _ | exact bdrN (Below.refl _ _) _⟩

set_option maxHeartbeats 1000000 in
theorem check_r (n : Bool) (s : ByteArray) (w : World) : Calls Tryd.prog 24 #[.agg #[.bool n, .string s]] w fun e w' => e = .returned (.int .i64 (chk n s)) ∧ Below w.heap.size w w' := by
  have hb0 : Below w.heap.size w (w.alloc (.cells #[.bool n, .string s] 24)) := (Below.refl _ _).alloc (Nat.le_refl _) _
  have HB := Lib.hid hb0
  clear hb0
  by_cases h1 : 32000 < s.size
  · have HZ := Lib.hid (show chk n s = 5 by unfold chk; rw [if_pos h1])
    have t1 : decide ((32000 : Int) < (s.size : Int)) = true := decide_eq_true (by omega)
    clear h1
    go_enter Tryd.func24, Tryd.ntmps24
    go_wp2
    go_ret
    exact ⟨by rw [HZ.out] <;> rfl, HB.out⟩
  · have t1 : decide ((32000 : Int) < (s.size : Int)) = false := decide_eq_false (by omega)
    have HC := Lib.hid (isnat_r s)
    by_cases h2 : 0 < s.size ∧ byt s (s.size - 1) = 0
    · have HZ := Lib.hid (show chk n s = 1 by unfold chk; rw [if_neg h1, if_pos h2])
      rw [show natB s = false by unfold natB; rw [decide_eq_true h2]; rfl] at HC
      clear h1 h2
      go_enter Tryd.func24, Tryd.ntmps24
      go_wp2_with fail
      refine (HC.out _).mono ?_
      rintro e w2 ⟨rfl, hb⟩
      have HB2 := Lib.hid (HB.out.trans (hb.mono HB.out.size))
      clear hb
      go_wp2
      repeat (go_quiet (fail); try go_wp2)
      go_ret
      exact ⟨by rw [HZ.out] <;> rfl, by first | exact HB2.out | exact bdrN HB2.out _⟩
    · rw [show natB s = true by unfold natB; rw [decide_eq_false h2]; rfl] at HC
      cases n with
      | false =>
        have HZ := Lib.hid (show chk false s = 0 by unfold chk; rw [if_neg h1, if_neg h2, if_neg (by simp)])
        clear h1 h2
        go_enter Tryd.func24, Tryd.ntmps24
        go_wp2_with fail
        refine (HC.out _).mono ?_
        rintro e w2 ⟨rfl, hb⟩
        have c0 := hb.cell (p := ⟨w.heap.size, 0, none⟩) (by simp)
        have c1 := hb.cell (p := ⟨w.heap.size, 1, none⟩) (by simp)
        rw [show (w.alloc (.cells #[.bool false, .string s] 24)).cell? ⟨w.heap.size, 0, none⟩ = some (.bool false) from by simp [go_sem]] at c0
        rw [show (w.alloc (.cells #[.bool false, .string s] 24)).cell? ⟨w.heap.size, 1, none⟩ = some (.string s) from by simp [go_sem]] at c1
        have HB2 := Lib.hid (HB.out.trans (hb.mono HB.out.size))
        clear hb
        go_wp2
        repeat (go_quiet (fail); try go_wp2)
        go_ret
        exact ⟨by rw [HZ.out] <;> rfl, by first | exact HB2.out | exact bdrN HB2.out _⟩
      | true =>
        by_cases h3 : s.size = 0
        · have HZ := Lib.hid (show chk true s = 1 by unfold chk; rw [if_neg h1, if_neg h2, if_pos ⟨rfl, h3⟩])
          obtain ⟨t2, t3⟩ := toList_nil h3
          clear h1 h2 h3
          go_enter Tryd.func24, Tryd.ntmps24
          go_wp2_with fail
          refine (HC.out _).mono ?_
          rintro e w2 ⟨rfl, hb⟩
          have c0 := hb.cell (p := ⟨w.heap.size, 0, none⟩) (by simp)
          have c1 := hb.cell (p := ⟨w.heap.size, 1, none⟩) (by simp)
          rw [show (w.alloc (.cells #[.bool true, .string s] 24)).cell? ⟨w.heap.size, 0, none⟩ = some (.bool true) from by simp [go_sem]] at c0
          rw [show (w.alloc (.cells #[.bool true, .string s] 24)).cell? ⟨w.heap.size, 1, none⟩ = some (.string s) from by simp [go_sem]] at c1
          have HB2 := Lib.hid (HB.out.trans (hb.mono HB.out.size))
          clear hb
          go_wp2
          repeat (go_quiet (fail); try go_wp2)
          go_ret
          exact ⟨by rw [HZ.out] <;> rfl, by first | exact HB2.out | exact bdrN HB2.out _⟩
        · have HZ := Lib.hid (show chk true s = 0 by unfold chk; rw [if_neg h1, if_neg h2, if_neg (fun h => h3 h.2)])
          obtain ⟨t2, t3⟩ := toList_ne (by omega : 0 < s.size)
          clear h1 h2 h3
          go_enter Tryd.func24, Tryd.ntmps24
          go_wp2_with fail
          refine (HC.out _).mono ?_
          rintro e w2 ⟨rfl, hb⟩
          have c0 := hb.cell (p := ⟨w.heap.size, 0, none⟩) (by simp)
          have c1 := hb.cell (p := ⟨w.heap.size, 1, none⟩) (by simp)
          rw [show (w.alloc (.cells #[.bool true, .string s] 24)).cell? ⟨w.heap.size, 0, none⟩ = some (.bool true) from by simp [go_sem]] at c0
          rw [show (w.alloc (.cells #[.bool true, .string s] 24)).cell? ⟨w.heap.size, 1, none⟩ = some (.string s) from by simp [go_sem]] at c1
          have HB2 := Lib.hid (HB.out.trans (hb.mono HB.out.size))
          clear hb
          go_wp2
          repeat (go_quiet (fail); try go_wp2)
          go_ret
          exact ⟨by rw [HZ.out] <;> rfl, by first | exact HB2.out | exact bdrN HB2.out _⟩

set_option maxHeartbeats 1000000 in
theorem both_r (n1 : Bool) (s1 : ByteArray) (n2 : Bool) (s2 : ByteArray) (w : World) : Calls Tryd.prog 11 #[.agg #[.bool n1, .string s1], .agg #[.bool n2, .string s2]] w fun e w' => e = .returned (.int .i64 (bad2 n1 s1 n2 s2)) ∧ Below w.heap.size w w' := by
  have hb0 : Below w.heap.size w ((w.alloc (.cells #[.bool n1, .string s1] 24)).alloc (.cells #[.bool n2, .string s2] 24)) := ((Below.refl _ _).alloc (Nat.le_refl _) _).alloc (by simp) _
  have HB := Lib.hid hb0
  clear hb0
  have HC1 := Lib.hid (check_r n1 s1)
  have HC2 := Lib.hid (check_r n2 s2)
  have d0 : ((w.alloc (.cells #[.bool n1, .string s1] 24)).alloc (.cells #[.bool n2, .string s2] 24)).cell? ⟨w.heap.size + 1, 0, none⟩ = some (.bool n2) := by simp [go_sem]
  have d1 : ((w.alloc (.cells #[.bool n1, .string s1] 24)).alloc (.cells #[.bool n2, .string s2] 24)).cell? ⟨w.heap.size + 1, 1, none⟩ = some (.string s2) := by simp [go_sem]
  have D0 := Lib.hid d0
  have D1 := Lib.hid d1
  clear d0 d1
  by_cases h : chk n1 s1 = 0
  · have HZ := Lib.hid (show bad2 n1 s1 n2 s2 = chk n2 s2 by unfold bad2; rw [if_neg (fun hc => hc h)])
    rw [h] at HC1
    clear h
    go_enter Tryd.func11, Tryd.ntmps11
    go_wp2_with fail
    refine (HC1.out _).mono ?_
    rintro e w2 ⟨rfl, hb⟩
    have c0 := (hb.cell (p := ⟨w.heap.size + 1, 0, none⟩) (by simp)).trans D0.out
    have c1 := (hb.cell (p := ⟨w.heap.size + 1, 1, none⟩) (by simp)).trans D1.out
    have HB2 := Lib.hid (HB.out.trans (hb.mono HB.out.size))
    clear hb
    go_wp2_with fail
    refine (HC2.out _).mono ?_
    rintro e w3 ⟨rfl, hb⟩
    have HB3 := Lib.hid (HB2.out.trans (hb.mono HB2.out.size))
    clear hb c0 c1
    go_wp2
    go_ret
    exact ⟨by rw [HZ.out] <;> rfl, HB3.out⟩
  · have HZ := Lib.hid (show bad2 n1 s1 n2 s2 = chk n1 s1 by unfold bad2; rw [if_pos h])
    have y1 : (chk n1 s1 == 0) = false := beq_eq_false_iff_ne.mpr h
    have y2 : (chk n1 s1 != 0) = true := bne_iff_ne.mpr h
    clear h
    go_enter Tryd.func11, Tryd.ntmps11
    go_wp2_with fail
    refine (HC1.out _).mono ?_
    rintro e w2 ⟨rfl, hb⟩
    have HB2 := Lib.hid (HB.out.trans (hb.mono HB.out.size))
    clear hb
    go_wp2
    go_ret
    exact ⟨by rw [HZ.out] <;> rfl, HB2.out⟩
end Go.Proofs.YtimpimnaknkgpaaDoor
