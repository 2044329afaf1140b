import Derived.Test.YtimpimnaknkgpaaDoorJ
namespace Go.Proofs.YtimpimnaknkgpaaDoor
open Go.RowKit Num
set_option linter.unusedVariables false
set_option linter.unusedSimpArgs false

/-- What Check tells of a whole number: its sign and its bytes. -/
def chk (n : Bool) (s : ByteArray) : Int := if 32000 < s.size then 5 else if 0 < s.size ∧ byt s (s.size - 1) = 0 then 1 else if n = true ∧ s.size = 0 then 1 else 0
def okI (n : Bool) (s : ByteArray) : Prop := s.size ≤ 32000 ∧ Canon s ∧ (n = true → 0 < s.size)
theorem chk_ok {n : Bool} {s : ByteArray} : chk n s = 0 ↔ okI n s := by
  unfold chk okI Canon
  constructor
  · intro h
    split at h
    · omega
    · split at h
      · omega
      · split at h
        · omega
        · rename_i h1 h2 h3
          refine ⟨by omega, fun h0 hz => h2 ⟨h0, hz⟩, fun hn => ?_⟩
          rcases Nat.eq_zero_or_pos s.size with h0 | h0
          · exact absurd ⟨hn, h0⟩ h3
          · exact h0
  · rintro ⟨h1, h2, h3⟩
    rw [if_neg (by omega), if_neg (fun h => h2 h.1 h.2), if_neg (fun h => by have := h3 h.1; omega)]

set_option maxHeartbeats 1000000 in
theorem check_c (n : Bool) (s : ByteArray) (w : World) :
    Calls Tryd.prog 31 #[.agg #[.bool n, .string s]] w fun e w' => e = .returned (.int .i64 (chk n s)) ∧ Below w.heap.size w w' := by
  have hu := Tryd.underlying24
  have hb0 : Below w.heap.size w (w.alloc (.cells #[.bool n, .string s] 24)) := (Below.refl _ _).alloc (Nat.le_refl _) _
  have HS := Lib.hid hb0
  clear hb0
  unfold chk
  by_cases h1 : 32000 < s.size
  · rw [if_pos h1]
    have HO := Lib.hid (of_limit s h1)
    clear h1
    go_enter Tryd.func31, Tryd.ntmps31
    go_wp2_with fail
    refine (HO.out _).mono ?_
    rintro e w' ⟨rfl, rfl⟩
    go_wp2
    go_ret
    exact ⟨rfl, HS.out⟩
  · rw [if_neg h1]
    by_cases h2 : 0 < s.size ∧ byt s (s.size - 1) = 0
    · rw [if_pos h2]
      have HO := Lib.hid (of_arg s h2.1 (by omega) h2.2)
      clear h1 h2
      go_enter Tryd.func31, Tryd.ntmps31
      go_wp2_with fail
      refine (HO.out _).mono ?_
      rintro e w' ⟨rfl, rfl⟩
      go_wp2
      go_ret
      exact ⟨rfl, HS.out⟩
    · rw [if_neg h2]
      have HO := Lib.hid (of_ok s (by omega) (fun h0 hz => h2 ⟨h0, hz⟩))
      clear h1 h2
      cases n with
      | false =>
        rw [if_neg (by simp)]
        go_enter Tryd.func31, Tryd.ntmps31
        go_wp2_with fail
        refine (HO.out _).mono ?_
        rintro e w' ⟨x, r, rfl, hr1, hr2, hr3, hr4, hr5⟩
        have hce := hr5.cell (p := ⟨w.heap.size, 0, none⟩) (by simp)
        have hce1 := hr5.cell (p := ⟨w.heap.size, 1, none⟩) (by simp)
        have hbl := HS.out.trans (hr5.mono (by simp))
        have HBL := Lib.hid hbl
        clear hr1 hr2 hr3 hr4 hr5 hbl
        go_wp2
        go_ret
        exact ⟨rfl, HBL.out⟩
      | true =>
        by_cases h0 : s.size = 0
        · obtain ⟨t1, t2⟩ := toList_nil h0
          rw [if_pos ⟨rfl, h0⟩]
          clear h0
          go_enter Tryd.func31, Tryd.ntmps31
          go_wp2_with fail
          refine (HO.out _).mono ?_
          rintro e w' ⟨x, r, rfl, hr1, hr2, hr3, hr4, hr5⟩
          have hce := hr5.cell (p := ⟨w.heap.size, 0, none⟩) (by simp)
          have hce1 := hr5.cell (p := ⟨w.heap.size, 1, none⟩) (by simp)
          have hbl := HS.out.trans (hr5.mono (by simp))
          have HBL := Lib.hid hbl
          clear hr1 hr2 hr3 hr4 hr5 hbl
          go_wp2
          go_ret
          exact ⟨rfl, HBL.out⟩
        · obtain ⟨t1, t2⟩ := toList_ne (by omega : 0 < s.size)
          rw [if_neg (fun h => h0 h.2)]
          clear h0
          go_enter Tryd.func31, Tryd.ntmps31
          go_wp2_with fail
          refine (HO.out _).mono ?_
          rintro e w' ⟨x, r, rfl, hr1, hr2, hr3, hr4, hr5⟩
          have hce := hr5.cell (p := ⟨w.heap.size, 0, none⟩) (by simp)
          have hce1 := hr5.cell (p := ⟨w.heap.size, 1, none⟩) (by simp)
          have hbl := HS.out.trans (hr5.mono (by simp))
          have HBL := Lib.hid hbl
          clear hr1 hr2 hr3 hr4 hr5 hbl
          go_wp2
          go_ret
          exact ⟨rfl, HBL.out⟩
end Go.Proofs.YtimpimnaknkgpaaDoor
