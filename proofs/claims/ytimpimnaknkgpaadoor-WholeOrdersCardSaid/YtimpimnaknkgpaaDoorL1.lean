import Derived.Test.YtimpimnaknkgpaaDoorL0
namespace Go.Proofs.YtimpimnaknkgpaaDoor
open Go.RowKit Num
set_option linter.unusedVariables false
set_option linter.unusedSimpArgs false

set_option maxHeartbeats 1000000 in
theorem small_c (n1 : Bool) (s1 : ByteArray) (n2 : Bool) (s2 : ByteArray) (w : World) :
    Calls Tryd.prog 10 #[.agg #[.bool n1, .string s1], .agg #[.bool n2, .string s2]] w fun e w' => e = .returned (.bool (decide (s1.size ≤ 400) && decide (s2.size ≤ 400))) ∧ Below w.heap.size w w' := by
  have hb : Below w.heap.size w ((w.alloc (.cells #[.bool n1, .string s1] 24)).alloc (.cells #[.bool n2, .string s2] 24)) := ((Below.refl _ _).alloc (Nat.le_refl _) _).alloc (by simp) _
  have HB := Lib.hid hb
  clear hb
  by_cases h1 : s1.size ≤ 400
  · have t1 : decide ((s1.size : Int) ≤ 400) = true := decide_eq_true (by omega)
    by_cases h2 : s2.size ≤ 400
    · have t2 : decide ((s2.size : Int) ≤ 400) = true := decide_eq_true (by omega)
      rw [decide_eq_true h1, decide_eq_true h2]
      clear h1 h2
      go_enter Tryd.func10, Tryd.ntmps10
      go_wp2
      repeat (go_quiet (fail); try go_wp2)
      go_ret
      exact ⟨rfl, by first | exact HB.out | exact bdrN HB.out _ | exact HB.out.drew⟩
    · have t2 : decide ((s2.size : Int) ≤ 400) = false := decide_eq_false (by omega)
      rw [decide_eq_true h1, decide_eq_false h2]
      clear h1 h2
      go_enter Tryd.func10, Tryd.ntmps10
      go_wp2
      repeat (go_quiet (fail); try go_wp2)
      go_ret
      exact ⟨rfl, by first | exact HB.out | exact bdrN HB.out _ | exact HB.out.drew⟩
  · have t1 : decide ((s1.size : Int) ≤ 400) = false := decide_eq_false (by omega)
    rw [decide_eq_false h1, Bool.false_and]
    clear h1
    go_enter Tryd.func10, Tryd.ntmps10
    go_wp2
    repeat (go_quiet (fail); try go_wp2)
    go_ret
    exact ⟨rfl, by first | exact HB.out | exact bdrN HB.out _ | exact HB.out.drew⟩
end Go.Proofs.YtimpimnaknkgpaaDoor
