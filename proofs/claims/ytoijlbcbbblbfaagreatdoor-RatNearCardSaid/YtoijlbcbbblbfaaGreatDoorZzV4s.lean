import Derived.Test.YtoijlbcbbblbfaaGreatDoorZzV3
import Derived.Test.YtoijlbcbbblbfaaGreatDoorZzG0x0
namespace Go.Proofs.YtoijlbcbbblbfaaGreatDoor
open Go.RowKit Num Go.Proofs.YtoijlbcbbblbfaaGreatDoorH.R Go.Proofs.YtoijlbcbbblbfaaGreatDoorW.PrintWords
set_option linter.unusedVariables false
set_option linter.unusedSimpArgs false

theorem wz01 : wrap64 (0 + 1) = 1 := by unfold wrap64; omega
theorem wz12 : wrap64 (1 + 1) = 2 := by unfold wrap64; omega
theorem nil_t : ((!false && ((⟨#[]⟩ : ByteArray).toList == ([] : List UInt8))) && ((⟨#[]⟩ : ByteArray).toList == ([] : List UInt8))) = true := by
 rw [(toList_nil (s := ⟨#[]⟩) rfl).1]
 rfl
theorem ival_nz {n : Bool} {s : ByteArray} (hk : okI n s) (h : s.size ≠ 0) : ival n s ≠ 0 := by
 have := nv_pos hk.2.1 (Nat.pos_of_ne_zero h)
 unfold ival sgn
 split <;> omega
theorem makel_p (k : Nat) (n d : Bool × ByteArray) (h1 : n.2.size ≤ 8000) (h2 : d.2.size ≤ 8000) (ys : List S24) (hy : ys = [⟨n.1, n.2⟩, ⟨d.1, d.2⟩]) :
  rat_Make.l0 (k + 4) ys 2 0 n.1 n.2 d.1 d.2 = some (if bad2 n.1 n.2 d.1 d.2 ≠ 0 then (false, ⟨#[]⟩, ⟨#[]⟩, bad2 n.1 n.2 d.1 d.2) else if d.2.size = 0 then (false, ⟨#[]⟩, ⟨#[]⟩, 3) else ((pq (Rat.divInt (ival n.1 n.2) (ival d.1 d.2))).1, (pq (Rat.divInt (ival n.1 n.2) (ival d.1 d.2))).2.1, (pq (Rat.divInt (ival n.1 n.2) (ival d.1 d.2))).2.2, 0)) := by
 subst hy
 have e0 : rd_T24 [⟨n.1, n.2⟩, ⟨d.1, d.2⟩] 0 = ⟨n.1, n.2⟩ := rfl
 have e1 : rd_T24 [⟨n.1, n.2⟩, ⟨d.1, d.2⟩] 1 = ⟨d.1, d.2⟩ := rfl
 have l2 : (([⟨n.1, n.2⟩, ⟨d.1, d.2⟩] : List S24).length : Int) = 2 := rfl
 rw [show k + 4 = (k + 3) + 1 from rfl]
 rw [rat_Make.l0, l2, if_pos (by decide), if_pos (by decide), if_pos (by decide), e0, wz01, chkS, Option.bind_some]
 by_cases c1 : chk n.1 n.2 = 0
 ·rw [if_pos c1]
  rw [show k + 3 = (k + 2) + 1 from rfl, rat_Make.l0, l2, if_pos (by decide), if_pos (by decide), if_pos (by decide), e1, wz12, chkS, Option.bind_some]
  by_cases c2 : chk d.1 d.2 = 0
  ·have eb : bad2 n.1 n.2 d.1 d.2 = 0 := bad2_ok.2 ⟨chk_ok.1 c1, chk_ok.1 c2⟩
   rw [if_pos c2, if_neg (fun hc => hc eb : ¬ bad2 n.1 n.2 d.1 d.2 ≠ 0)]
   rw [show k + 2 = (k + 1) + 1 from rfl, rat_Make.l0, if_neg (by decide)]
   by_cases c3 : d.2.size = 0
   ·rw [if_pos (tl_nil.2 c3), if_pos c3]
   ·rw [if_neg (fun hc => c3 (tl_nil.1 hc)), if_neg c3, low_p k n d (chk_ok.1 c1) (chk_ok.1 c2) (by omega) (by omega) (ival_nz (chk_ok.1 c2) c3)]
    rfl
  ·have eb : bad2 n.1 n.2 d.1 d.2 = chk d.1 d.2 := by unfold bad2; rw [if_neg (fun hc => hc c1)]
   rw [if_neg c2, eb, if_pos c2]
 ·have eb : bad2 n.1 n.2 d.1 d.2 = chk n.1 n.2 := by unfold bad2; rw [if_pos c1]
  rw [if_neg c1, eb, if_pos c1]
def makeF (n d : Bool × ByteArray) : Bool × ByteArray × ByteArray × Int := if bad2 n.1 n.2 d.1 d.2 ≠ 0 then (false, ⟨#[]⟩, ⟨#[]⟩, bad2 n.1 n.2 d.1 d.2) else if d.2.size = 0 then (false, ⟨#[]⟩, ⟨#[]⟩, 3) else ((pq (Rat.divInt (ival n.1 n.2) (ival d.1 d.2))).1, (pq (Rat.divInt (ival n.1 n.2) (ival d.1 d.2))).2.1, (pq (Rat.divInt (ival n.1 n.2) (ival d.1 d.2))).2.2, 0)
theorem make_p (k : Nat) (n d : Bool × ByteArray) (h1 : n.2.size ≤ 8000) (h2 : d.2.size ≤ 8000) : rat_Make.f (k + 5) n.1 n.2 d.1 d.2 = some (makeF n d) := by
 unfold rat_Make.f
 rw [if_neg (by omega), decide_eq_false (by omega : ¬ (d.2.size : Int) > 8000)]
 rw [show k + 5 = (k + 4) + 1 from rfl, rat_Make.j0, if_neg (by decide)]
 exact makel_p k n d h1 h2 _ rfl
end Go.Proofs.YtoijlbcbbblbfaaGreatDoor
