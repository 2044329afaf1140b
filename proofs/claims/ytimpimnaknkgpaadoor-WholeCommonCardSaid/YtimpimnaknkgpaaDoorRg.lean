import Derived.Test.YtimpimnaknkgpaaDoorRe
namespace Go.Proofs.YtimpimnaknkgpaaDoor
open Go.RowKit
open Num hiding B B_eq Lim sumB win sumB_congr Bp Bs sumB_bd subD subC sub_one addD addC add_one win_s win_congr take_step mul_one addp_step lv sumB_zero lv_of lv_bd lv_nil lv_trim Lim_zero win_zero sum_step Bmono sum_end len_of_lv ordN_val lv_lt_of_len ordL_val take_end win_split mul_step win_low win_bd win_change YB lv_set OfI dgt_lv
open Num32
set_option linter.unusedVariables false
set_option linter.unusedSimpArgs false

structure HalfI (g n : Nat) (a : List Int) (w : World) (p : Nat) (c : Int) (L : List Int) (w1 : World) : Prop where
  blk : Blk w1 g L
  len : L.length = n
  lim : Lim L
  bit : c = 0 ∨ c = 1
  val : 2 * win L p (n - p) + c = win a p (n - p)
  only : Only g w w1
theorem half_step {L a : List Int} {n i : Nat} {c : Int} (hi : i < n) (hn : L.length = n) (hL : Lim L) (ha : Lim a) (hc : c = 0 ∨ c = 1)
    (hv : 2 * win L (i + 1) (n - (i + 1)) + c = win a (i + 1) (n - (i + 1))) {T : Int} (hT : T = c * 4294967296 + lg a i) :
    let L2 := L.set i (T / 2); let c2 := T % 2
    Lim L2 ∧ (c2 = 0 ∨ c2 = 1) ∧ 2 * win L2 i (n - i) + c2 = win a i (n - i) := by
  intro L2 c2
  have hB : (B : Int) = 4294967296 := rfl
  have h1 := ha i
  rw [hB] at h1
  have hT0 : 0 ≤ T ∧ T < 8589934592 := by rcases hc with h | h <;> rw [h] at hT <;> omega
  refine ⟨hL.set _ (by rw [hB]; omega), by show T % 2 = 0 ∨ T % 2 = 1; omega, ?_⟩
  obtain ⟨m, hm⟩ : ∃ m, n - (i + 1) = m := ⟨_, rfl⟩
  rw [hm] at hv
  rw [show n - i = m + 1 by omega, win_low, win_low]
  have e1 : win L2 (i + 1) m = win L (i + 1) m := win_congr fun j hj => by
    show lg (L.set i _) _ = _
    rw [lg_set, if_neg (by omega)]
  have e2 : lg L2 i = T / 2 := by
    show lg (L.set i _) _ = _
    rw [lg_set, if_pos ⟨rfl, by omega⟩]
  rw [e1, e2, ← hv, hB]
  show 2 * (T / 2 + 4294967296 * win L (i + 1) m) + T % 2 = _
  generalize win L (i + 1) m = u
  have h3 : T / 2 * 2 + T % 2 = T := by omega
  omega
theorem half_end {L a : List Int} {n : Nat} {c : Int} (hL : L.length = n) (ha : a.length = n) (hc : c = 0 ∨ c = 1) (hv : 2 * win L 0 (n - 0) + c = win a 0 (n - 0)) : lv L = lv a / 2 := by
  have e1 := win_zero L
  have e2 := win_zero a
  rw [hL] at e1
  rw [ha] at e2
  rw [Nat.sub_zero, e1, e2] at hv
  rcases hc with h | h <;> omega
def HalfP (v : Int) (w : World) (e : Ending) (w' : World) : Prop := ∃ x r bo, e = .returned (.tuple #[x, .bool bo]) ∧ RowF w.heap.size w' x r ∧ Lim r ∧ Tr r ∧ lv r = v ∧ Below w.heap.size w w'

set_option maxHeartbeats 2000000 in
set_option maxRecDepth 100000 in
theorem half_r (A0 : Option Addr) (n c0 : Nat) (a : List Int) (hn : a.length = n) (hn4 : n ≤ 60000) (w : World) (ha : RL w A0 a) (hla : Lim a) :
    Calls Tryd.prog 69 #[.slice A0 n c0] w (HalfP (lv a / 2) w) := by
  have hmk := make_run n (by omega)
  have HA := Lib.hid (And.intro ha (And.intro hn hla))
  have HN4 := Lib.hid hn4
  clear ha hn hla
  go_enter Tryd.func69, Tryd.ntmps69
  go_wp2
  have hb1 : Below w.heap.size w (w.alloc (.cells (madeCells #[.int .u64 0] n) 57)) := (Below.refl _ _).alloc (Nat.le_refl _) _
  have hk0 := made_blk w n
  have hx1 := HA.out.1.below hb1 (Nat.le_refl _)
  have hax : 0 < a.length → ∀ ad, A0 = some ad → ad.block ≠ w.heap.size := fun h ad e => Nat.ne_of_lt (HA.out.1.lt h ad e)
  generalize hw3 : w.alloc (.cells (madeCells #[.int .u64 0] n) 57) = w3 at *
  obtain ⟨g, hg⟩ : ∃ g, w.heap.size = g := ⟨_, rfl⟩
  have HB1 := Lib.hid (And.intro hb1 hg)
  rw [hg] at hk0 hax ⊢
  have HI0 := Lib.hid (show HalfI g n a w3 n 0 (List.replicate n 0) w3 from ⟨hk0, by simp, Lim_zero _, .inl rfl, by simp [win, sumB], Only.refl _ _⟩)
  have HX := Lib.hid hx1
  have HAX := Lib.hid hax
  clear hk0 hx1 hax hb1 hw3 hmk hg
  go_loopg [5, 6] n (fun gk cv t w4 => ∃ (p : Nat) (c : Int) (L : List Int), Hid (gk = p ∧ p ≤ n) ∧ cv = .int .u64 c ∧ t = .int .i64 ((p : Int) - 1) ∧ Hid (HalfI g n a w3 p c L w4))
  case atStart => exact ⟨n, 0, _, Lib.hid ⟨rfl, Nat.le_refl _⟩, rfl, rfl, HI0⟩
  case round =>
    obtain ⟨p, c, L, hgk, rfl, rfl, HI⟩ := hrel
    cases p with
    | zero =>
      have h1 : decide ((0 : Int) ≤ ((0 : Nat) : Int) - 1) = false := by simp
      have HTR := Lib.hid (trim_end (w := w) (N := n) (Nat.le_of_eq HB1.out.2) HI.out.blk HI.out.len (by have := HN4.out; omega) HI.out.lim (half_end HI.out.len HA.out.2.1 HI.out.bit HI.out.val) (Only.below HB1.out.1 HI.out.only (by rw [HB1.out.2]; exact Nat.le_refl _)))
      go_wp2_with fail
      refine (HTR.out).mono ?_
      rintro e w4 ⟨x, r, rfl, hr⟩
      have HR := Lib.hid hr
      clear hr
      go_wp2
      go_ret2
      exact ⟨x, r, _, rfl, HR.out⟩
    | succ i =>
      have hlt : i < n := by have := hgk.out.2; omega
      have hsub : ((i + 1 : Nat) : Int) - 1 = (i : Int) := by omega
      rw [hsub]
      have h1 : decide ((0 : Int) ≤ (i : Int)) = true := by simp
      have hbit : 0 ≤ c ∧ c ≤ 1 := by rcases HI.out.bit with h | h <;> omega
      have hce := HI.out.blk.cell i (by rw [HI.out.len]; omega)
      have hfr := HI.out.blk.free i
      have lx := HA.out.2.2 i
      rw [show (B : Int) = 4294967296 from rfl] at lx
      obtain ⟨x, hx⟩ : ∃ x, lg a i = x := ⟨_, rfl⟩
      rw [hx] at lx
      obtain ⟨ad, rfl, hcl⟩ := (HX.out.only HI.out.only HAX.out).2 (by rw [HA.out.2.1]; omega)
      have ca := hcl i (by rw [HA.out.2.1]; omega)
      rw [hx] at ca
      obtain ⟨s1, s2, s3⟩ := half_step (T := c * 4294967296 + x) hlt HI.out.len HI.out.lim HA.out.2.2 HI.out.bit HI.out.val (by rw [hx])
      have HS := Lib.hid (show HalfI g n a w3 i ((c * 4294967296 + x) % 2) (L.set i ((c * 4294967296 + x) / 2)) (wr.setCell ⟨g, i, none⟩ (.int .u64 ((c * 4294967296 + x) / 2))) from ⟨HI.out.blk.set _ _, by rw [List.length_set]; exact HI.out.len, s1, s2, s3, HI.out.only.set _ _⟩)
      have a0 : IntKind.u64.wrap (c * 4294967296) = c * 4294967296 := wrap_u _ ⟨by omega, by rw [Num.B_eq]; omega⟩
      have a1 : IntKind.u64.wrap (c * 4294967296 + x) = c * 4294967296 + x := wrap_u _ ⟨by omega, by rw [Num.B_eq]; omega⟩
      have a3 : (c * 4294967296 + x).tmod 2 = (c * 4294967296 + x) % 2 := Int.tmod_eq_emod_of_nonneg (by omega)
      have a4 : (c * 4294967296 + x).tdiv 2 = (c * 4294967296 + x) / 2 := Int.tdiv_eq_ediv_of_nonneg (by omega)
      have a5 : IntKind.u64.wrap ((c * 4294967296 + x) % 2) = (c * 4294967296 + x) % 2 := wrap_u _ ⟨by omega, by rw [Num.B_eq]; omega⟩
      have a6 : IntKind.u64.wrap ((c * 4294967296 + x) / 2) = (c * 4294967296 + x) / 2 := wrap_u _ ⟨by omega, by rw [Num.B_eq]; omega⟩
      have z1 : i < n := hlt
      have z3 : (i : Int) < (n : Int) := by omega
      have HLT := Lib.hid hlt
      have HBT := Lib.hid hbit
      clear hcl hx s1 s2 s3 hlt hbit lx
      go_wp2
      go_roundg i
      case measure => have := hgk.out.1; omega
      case rel => exact ⟨i, _, _, Lib.hid ⟨rfl, Nat.le_of_lt HLT.out⟩, rfl, by simp, HS⟩
end Go.Proofs.YtimpimnaknkgpaaDoor
