import Derived.Test.YtimpimnaknkgpaaGreatDoorZa
import Derived.Laws.BytesString
import Derived.Laws.BytesArg
import Derived.Laws.IdiomStrings
namespace Go.Proofs.YtimpimnaknkgpaaGreatDoor
open Go.RowKit Num Go.Lib Go.Sort
set_option linter.unusedVariables false
set_option linter.unusedSimpArgs false

theorem rev_empty (a : Option Addr) (cap : Nat) (w : World) :
    Calls Tryz.prog 38 #[.slice a 0 cap] w fun e w' => e = .returned (.tuple #[]) ∧ w' = w := by
  go_enter Tryz.func38, Tryz.ntmps38
  go_wp2
  go_loopg [2, 3] 0 (fun _ s2 s3 wr => s2 = .int .i64 0 ∧ s3 = .int .i64 (-1) ∧ wr = w)
  case atStart => exact ⟨rfl, rfl, rfl⟩
  case round =>
    obtain ⟨rfl, rfl, rfl⟩ := hrel
    go_wp2
    go_end0
    exact ⟨rfl, rfl⟩

/-- The bytes of numbers. -/
def bys (l : List Int) : List UInt8 := l.map fun n => UInt8.ofNat n.toNat

/-- A row of bytes of the call's own, turned round, as a string. -/
theorem rev_own (base : Nat) (v : Value) (n : Nat) (zs : List Int) (w : World) (h : w.ownsRow base 5 1 v n (zs.map enc8)) (hn : n ≤ 1000000) :
    Calls Tryz.prog 38 #[v] w fun e w' => e = .returned (.tuple #[]) ∧ Below base w w' ∧ (convert 64 9 v).run Tryz.prog w' = .ok (.string ⟨(bys zs.reverse).toArray⟩) w' := by
  have hlen : zs.length = n := by have := h.1; simpa using this
  rcases h.2 with ⟨rfl, rfl⟩ | ⟨g, cap, cur, rfl, hbg, hg, hnc, hcm, hcs, htake⟩
  · have hz : zs = [] := List.eq_nil_of_length_eq_zero hlen
    subst hz
    refine (rev_empty none 0 w).mono ?_
    rintro e w' ⟨rfl, rfl⟩
    refine ⟨rfl, Below.refl _ _, ?_⟩
    rw [run_convert_bytes_string w' _ _ 5 none 0 0 (by kernel_rfl) (by kernel_rfl) (by kernel_rfl)]
    simp [Conv.bytesToString, bys, Sem.run_pure]
    rfl
  · have hH : Holds enc8 w g 0 zs.toArray := by
      intro j hj
      have hj2 : j < zs.length := by simpa using hj
      have hc := h.cells (g := g) rfl j (enc8 zs[j]) (by simp [hj2])
      refine ⟨?_, ?_⟩
      · rw [show (⟨g, 0 + j, none⟩ : Addr) = (⟨g, 0, none⟩ : Addr).add j from by simp [Addr.add], hc]
        simp [hj2]
      · unfold World.frozen?
        rw [show w.heap[(⟨g, 0 + j, none⟩ : Addr).block]? = _ from hg]
        simp
    have hr := rev_arr g 0 cap zs.toArray w hH (by simp; omega)
    rw [show zs.toArray.size = n by simpa using hlen] at hr
    refine hr.mono ?_
    rintro e w' ⟨rfl, m, rfl⟩
    refine ⟨rfl, ⟨rfl, rfl, rfl, by simp, fun k hk => ?_⟩, ?_⟩
    · show (World.heap (putRow enc8 (Sort.ahead w m) g 0 zs.toArray.reverse))[k]? = _
      simp only [putRow, mapBlock, Array.getElem?_modify]
      rw [if_neg (by omega)]
      rfl
    · rw [run_convert_bytes_string _ _ _ 5 _ _ _ (by kernel_rfl) (by kernel_rfl) (by kernel_rfl)]
      have hl := run_loadCells_list (P := Tryz.prog) (w := putRow enc8 (Sort.ahead w m) g 0 zs.toArray.reverse) ⟨g, 0, none⟩ (zs.reverse.map enc8) (by
        intro j u hj
        have hjl : j < zs.length := by
          have := (List.getElem?_eq_some_iff.1 hj).1
          simpa using this
        have := cell?_putRow enc8 (Sort.ahead w m) g 0 zs.toArray zs.toArray.reverse (holds_ahead enc8 w m g 0 _ hH) (by simp) j (by simpa using hjl)
        rw [show (⟨g, 0, none⟩ : Addr).add j = ⟨g, 0 + j, none⟩ from (by simp [Addr.add]; try omega), this, ← hj]
        simp [hjl])
      have hl2 : (loadCells ⟨g, 0, none⟩ n).run Tryz.prog (putRow enc8 (Sort.ahead w m) g 0 zs.toArray.reverse) = .ok ((zs.reverse.map (Value.int .u8)).toArray) (putRow enc8 (Sort.ahead w m) g 0 zs.toArray.reverse) := by
        rw [← hlen]
        simpa using hl
      rw [run_bytesToString _ _ _ _ _ hl2, foldl_push_bytes]
      simp [bys]
end Go.Proofs.YtimpimnaknkgpaaGreatDoor
