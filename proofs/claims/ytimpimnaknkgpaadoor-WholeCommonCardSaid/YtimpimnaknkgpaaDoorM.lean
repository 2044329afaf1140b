import Derived.Test.YtimpimnaknkgpaaDoorL
import Derived.Handy
namespace Go.Proofs.YtimpimnaknkgpaaDoor
open Go.RowKit Num
set_option linter.unusedVariables false
set_option linter.unusedSimpArgs false

def sgn (n : Bool) (v : Int) : Int := if n then -v else v

set_option maxHeartbeats 1000000 in
theorem told_c (n : Bool) (A0 : Option Addr) (k c0 : Nat) (l : List Int) (hk : l.length = k) (hk4 : k ≤ 4000) (hc0 : k ≤ c0) (w : World) (ha : RL w A0 l) (hla : Lim l) :
    Calls Tryd.prog 35 #[.agg #[.bool n, .slice A0 k c0]] w fun e w' => e = .returned (.agg #[.bool (decide (sgn n (lv l) < 0)), .string (encN (lv l))]) ∧ Below w.heap.size w w' := by
  have hb2 : Below w.heap.size w ((w.alloc (.cells #[.bool n, .slice A0 k c0] 55)).alloc (.cells #[.bool false, .string ⟨#[]⟩] 24)) := ((Below.refl _ _).alloc (Nat.le_refl _) _).alloc (by simp) _
  have HN := Lib.hid (nat_c A0 k c0 l hk hk4 hc0 _ (ha.below hb2 (Nat.le_refl _)) hla)
  have hpos := lv_bd hla
  have h1 : decide ((4000 : Int) < (k : Int)) = false := by simp; omega
  have HS := Lib.hid hb2
  have hz : lv l = 0 ∨ 0 < lv l := by omega
  obtain ⟨s, hs⟩ : ∃ s, encN (lv l) = s := ⟨_, rfl⟩
  have hss : s.size = nb (lv l) := by rw [← hs]; exact encN_size _
  obtain ⟨b, hb⟩ : ∃ b, decide (sgn n (lv l) < 0) = b := ⟨_, rfl⟩
  rw [hs, hb]
  have HE := Lib.hid hs
  cases n with
  | false =>
    have hbf : b = false := by rw [← hb]; simp [sgn]; omega
    subst hbf
    clear ha hla hk hb2 hpos hz hs hss hb
    go_enter Tryd.func35, Tryd.ntmps35
    go_wp2_with fail
    refine (HN.out).mono ?_
    rintro e w' ⟨rfl, hbn⟩
    rw [HE.out]
    have c0 := hbn.cell (p := ⟨w.heap.size, 0, none⟩) (by simp; omega)
    have c1 : w'.cell? ⟨w.heap.size + 1, 0, none⟩ = some (.bool false) := (hbn.cell (by simp)).trans (by simp [go_sem])
    have c2 : w'.cell? ⟨w.heap.size + 1, 1, none⟩ = some (.string ⟨#[]⟩) := (hbn.cell (by simp)).trans (by simp [go_sem])
    have f1 := hbn.frozen (p := ⟨w.heap.size + 1, 0, none⟩) (by simp)
    have f2 := hbn.frozen (p := ⟨w.heap.size + 1, 1, none⟩) (by simp)
    have HB := Lib.hid (HS.out.trans (hbn.mono (by simp; omega)))
    clear hbn
    go_wp2
    refine bodyPost_ret (by simp [results, Tryd.results35, go_sem, c1, c2]; try rfl) rfl ?_
    exact ⟨rfl, (HB.out.setCell (by simp) _).setCell (by simp) _⟩
  | true =>
    rcases hz with hz | hz
    · have hbf : b = false := by rw [← hb]; simp [sgn]; omega
      obtain ⟨t1, t2⟩ := toList_nil (s := s) (by rw [hss, hz, nb_zero])
      subst hbf
      clear ha hla hk hb2 hpos hz hs hss hb
      go_enter Tryd.func35, Tryd.ntmps35
      go_wp2_with fail
      refine (HN.out).mono ?_
      rintro e w' ⟨rfl, hbn⟩
      rw [HE.out]
      have c0 := hbn.cell (p := ⟨w.heap.size, 0, none⟩) (by simp; omega)
      have c1 : w'.cell? ⟨w.heap.size + 1, 0, none⟩ = some (.bool false) := (hbn.cell (by simp)).trans (by simp [go_sem])
      have c2 : w'.cell? ⟨w.heap.size + 1, 1, none⟩ = some (.string ⟨#[]⟩) := (hbn.cell (by simp)).trans (by simp [go_sem])
      have f1 := hbn.frozen (p := ⟨w.heap.size + 1, 0, none⟩) (by simp)
      have f2 := hbn.frozen (p := ⟨w.heap.size + 1, 1, none⟩) (by simp)
      have HB := Lib.hid (HS.out.trans (hbn.mono (by simp; omega)))
      clear hbn
      go_wp2
      refine bodyPost_ret (by simp [results, Tryd.results35, go_sem, c1, c2]; try rfl) rfl ?_
      exact ⟨rfl, (HB.out.setCell (by simp) _).setCell (by simp) _⟩
    · have hbf : b = true := by rw [← hb]; simp [sgn]; omega
      obtain ⟨t1, t2⟩ := toList_ne (s := s) (by rw [hss]; exact (nb_spec hz).2.2)
      subst hbf
      clear ha hla hk hb2 hpos hz hs hss hb
      go_enter Tryd.func35, Tryd.ntmps35
      go_wp2_with fail
      refine (HN.out).mono ?_
      rintro e w' ⟨rfl, hbn⟩
      rw [HE.out]
      have c0 := hbn.cell (p := ⟨w.heap.size, 0, none⟩) (by simp; omega)
      have c1 : w'.cell? ⟨w.heap.size + 1, 0, none⟩ = some (.bool false) := (hbn.cell (by simp)).trans (by simp [go_sem])
      have c2 : w'.cell? ⟨w.heap.size + 1, 1, none⟩ = some (.string ⟨#[]⟩) := (hbn.cell (by simp)).trans (by simp [go_sem])
      have f1 := hbn.frozen (p := ⟨w.heap.size + 1, 0, none⟩) (by simp)
      have f2 := hbn.frozen (p := ⟨w.heap.size + 1, 1, none⟩) (by simp)
      have HB := Lib.hid (HS.out.trans (hbn.mono (by simp; omega)))
      clear hbn
      go_wp2
      refine bodyPost_ret (by simp [results, Tryd.results35, go_sem, c1, c2]; try rfl) rfl ?_
      exact ⟨rfl, (HB.out.setCell (by simp) _).setCell (by simp) _⟩
end Go.Proofs.YtimpimnaknkgpaaDoor
