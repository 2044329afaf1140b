import Derived.Test.YtimpimnaknkgpaaDoorRa
namespace Go.Proofs.YtimpimnaknkgpaaDoor
open Go.RowKit
open Num hiding B B_eq Lim sumB win sumB_congr Bp Bs sumB_bd subD subC sub_one addD addC add_one win_s win_congr take_step mul_one addp_step lv sumB_zero lv_of lv_bd lv_nil lv_trim Lim_zero win_zero sum_step Bmono sum_end len_of_lv ordN_val lv_lt_of_len ordL_val take_end win_split mul_step win_low win_bd win_change YB lv_set OfI dgt_lv
open Num32
set_option linter.unusedVariables false
set_option linter.unusedSimpArgs false

structure DblI32 (g N : Nat) (x : List Int) (b0 : Int) (w : World) (k : Nat) (c : Int) (L' : List Int) (w1 : World) : Prop where
  blk : Blk w1 g L'
  len : L'.length = N
  lim : Lim L'
  bit : c = 0 ∨ c = 1
  val : win L' 0 k + c * B ^ k = 2 * sumB (lg x) k + b0
  only : Only g w w1
theorem dbl_step {L' x : List Int} {k : Nat} {c b0 : Int} (hk : k < L'.length) (hL : Lim L') (hx : Lim x) (hc : c = 0 ∨ c = 1)
    (hv : win L' 0 k + c * B ^ k = 2 * sumB (lg x) k + b0) {T : Int} (hT : T = 2 * lg x k + c) :
    let L2 := L'.set k (T % 4294967296); let c2 := T / 4294967296
    Lim L2 ∧ (c2 = 0 ∨ c2 = 1) ∧ win L2 0 (k + 1) + c2 * B ^ (k + 1) = 2 * sumB (lg x) (k + 1) + b0 := by
  intro L2 c2
  have hB : (B : Int) = 4294967296 := rfl
  have h1 := hx k
  rw [hB] at h1
  refine ⟨hL.set _ (by rw [hB]; omega), by show T / 4294967296 = 0 ∨ T / 4294967296 = 1; omega, ?_⟩
  have e1 : win L2 0 k = win L' 0 k := win_congr fun j hj => by
    show lg (L'.set k _) _ = _
    rw [lg_set, if_neg (by omega)]
  have e2 : lg L2 (0 + k) = T % 4294967296 := by
    show lg (L'.set k _) _ = _
    rw [lg_set, if_pos ⟨by omega, hk⟩]
  have hd : T % 4294967296 + T / 4294967296 * 4294967296 = T := by omega
  rw [win_s, e1, e2, show sumB (lg x) (k + 1) = sumB (lg x) k + lg x k * B ^ k from rfl, Bs]
  have hv2 : win L' 0 k = 2 * sumB (lg x) k + b0 - c * B ^ k := by omega
  rw [hv2]
  show _ + T / 4294967296 * (B ^ k * B) = _
  have e3 : T % 4294967296 * B ^ k + T / 4294967296 * (B ^ k * B) = T * B ^ k := by
    rw [← hd]
    generalize T % 4294967296 = u
    generalize T / 4294967296 = v
    generalize B ^ k = p
    rw [hB]
    grind
  have e4 : 2 * sumB (lg x) k + b0 - c * B ^ k + T % 4294967296 * B ^ k + T / 4294967296 * (B ^ k * B) = 2 * sumB (lg x) k + b0 - c * B ^ k + T * B ^ k := by
    rw [← e3]; omega
  rw [e4, hT]
  generalize B ^ k = p
  grind
theorem dbl_end {L x : List Int} {n : Nat} {c b0 : Int} (hL : L.length = n + 1) (hx : x.length = n) (hc : c = 0 ∨ c = 1) (hv : win L 0 n + c * B ^ n = 2 * sumB (lg x) n + b0) : lv (L.set n c) = 2 * lv x + b0 := by
  have e : lv (L.set n c) = win (L.set n c) 0 (n + 1) := by
    have := win_zero (L.set n c)
    rw [List.length_set, hL] at this
    exact this.symm
  rw [e, win_s]
  have e1 : win (L.set n c) 0 n = win L 0 n := win_congr fun j hj => by rw [lg_set, if_neg (by omega)]
  have e2 : lg (L.set n c) (0 + n) = c := by rw [lg_set, if_pos ⟨by omega, by omega⟩]
  rw [e1, e2, hv, show lv x = sumB (lg x) n from by unfold lv; rw [hx]]

set_option maxHeartbeats 2000000 in
set_option maxRecDepth 100000 in
theorem double_r (A0 : Option Addr) (n c0 : Nat) (a : List Int) (b0 : Int) (hb0 : b0 = 0 ∨ b0 = 1) (hn : a.length = n) (hn4 : n ≤ 60000) (w : World) (ha : RL w A0 a) (hla : Lim a) :
    Calls Tryd.prog 66 #[.slice A0 n c0, .int .u64 b0] w (RowR (2 * lv a + b0) w) := by
  have hmk := make_run (n + 1) (by omega)
  rw [show ((n + 1 : Nat) : Int) = (n : Int) + 1 by omega] at hmk
  have HA := Lib.hid (And.intro ha (And.intro hn hla))
  have HBT := Lib.hid hb0
  clear ha hn hla hb0
  go_enter Tryd.func66, Tryd.ntmps66
  go_wp2
  have hb1 : Below w.heap.size w (w.alloc (.cells (madeCells #[.int .u64 0] (n + 1)) 57)) := (Below.refl _ _).alloc (Nat.le_refl _) _
  have hk0 := made_blk w (n + 1)
  have hx1 := HA.out.1.below hb1 (Nat.le_refl _)
  have hax : 0 < a.length → ∀ ad, A0 = some ad → ad.block ≠ w.heap.size := fun h ad e => Nat.ne_of_lt (HA.out.1.lt h ad e)
  generalize hw3 : w.alloc (.cells (madeCells #[.int .u64 0] (n + 1)) 57) = w3 at *
  obtain ⟨g, hg⟩ : ∃ g, w.heap.size = g := ⟨_, rfl⟩
  have HB1 := Lib.hid (And.intro hb1 hg)
  rw [hg] at hk0 hax ⊢
  have HI0 := Lib.hid (show DblI32 g (n + 1) a b0 w3 0 b0 (List.replicate (n + 1) 0) w3 from ⟨hk0, by simp, Lim_zero _, HBT.out, by simp [win, sumB], Only.refl _ _⟩)
  have HX := Lib.hid hx1
  have HAX := Lib.hid hax
  clear hk0 hx1 hax hb1 hw3 hmk hg
  go_loopw [1, 6] (fun cv t w4 => ∃ (k : Nat) (c : Int) (L' : List Int), k ≤ n ∧ t = .int .i64 k ∧ cv = .int .u64 c ∧ DblI32 g (n + 1) a b0 w3 k c L' w4) (fun _ t _ => n - (intOf t).toNat)
  case atStart => exact ⟨0, b0, _, Nat.zero_le _, rfl, rfl, HI0.out⟩
  case round =>
    obtain ⟨k, c, L', hk, rfl, rfl, hI⟩ := hrel
    have hbit : 0 ≤ c ∧ c ≤ 1 := by rcases hI.bit with h | h <;> omega
    by_cases hlt : k < n
    · have h1 : decide ((k : Int) < (n : Int)) = true := by simp; omega
      have hce := hI.blk.cell k (by rw [hI.len]; omega)
      have hfr := hI.blk.free k
      have HX2 := Lib.hid (HX.out.only hI.only HAX.out)
      have lx := HA.out.2.2 k
      rw [show (B : Int) = 4294967296 from rfl] at lx
      obtain ⟨x, hx⟩ : ∃ x, lg a k = x := ⟨_, rfl⟩
      rw [hx] at lx
      obtain ⟨ad, rfl, hcl⟩ := HX2.out.2 (by rw [HA.out.2.1]; omega)
      have ca := hcl k (by rw [HA.out.2.1]; omega)
      rw [hx] at ca
      obtain ⟨s1, s2, s3⟩ := dbl_step (T := 2 * x + c) (by rw [hI.len]; omega) hI.lim HA.out.2.2 hI.bit hI.val (by rw [hx])
      have HS := Lib.hid (show DblI32 g (n + 1) a b0 w3 (k + 1) ((2 * x + c) / 4294967296) (L'.set k ((2 * x + c) % 4294967296)) (wr.setCell ⟨g, k, none⟩ (.int .u64 ((2 * x + c) % 4294967296))) from ⟨hI.blk.set _ _, by rw [List.length_set]; exact hI.len, s1, s2, s3, hI.only.set _ _⟩)
      have a0 : IntKind.u64.wrap (2 * x) = 2 * x := wrap_u _ ⟨by omega, by rw [Num.B_eq]; omega⟩
      have a1 : IntKind.u64.wrap (2 * x + c) = 2 * x + c := wrap_u _ ⟨by omega, by rw [Num.B_eq]; omega⟩
      have a3 : (2 * x + c).tmod 4294967296 = (2 * x + c) % 4294967296 := Int.tmod_eq_emod_of_nonneg (by omega)
      have a4 : (2 * x + c).tdiv 4294967296 = (2 * x + c) / 4294967296 := Int.tdiv_eq_ediv_of_nonneg (by omega)
      have a5 : IntKind.u64.wrap ((2 * x + c) % 4294967296) = (2 * x + c) % 4294967296 := wrap_u _ ⟨by omega, by rw [Num.B_eq]; omega⟩
      have a6 : IntKind.u64.wrap ((2 * x + c) / 4294967296) = (2 * x + c) / 4294967296 := wrap_u _ ⟨by omega, by rw [Num.B_eq]; omega⟩
      have z1 : k < n := hlt
      have z2 : k < n + 1 := by omega
      have z3 : (k : Int) < (n : Int) + 1 := by omega
      have HLT := Lib.hid hlt
      clear hcl hx s1 s2 s3 hI hlt hk
      go_wp2
      exact ⟨⟨k + 1, _, _, HLT.out, by simp, rfl, HS.out⟩, by have := HLT.out; simp [intOf]; omega⟩
    · have he : k = n := by omega
      subst he
      have h1 : decide ((k : Int) < (k : Int)) = false := by simp
      have hce := hI.blk.cell k (by rw [hI.len]; omega)
      have hfr := hI.blk.free k
      have z2 : k < k + 1 := by omega
      have z3 : (k : Int) < (k : Int) + 1 := by omega
      have HTR := Lib.hid (trim_end (w := w) (N := k + 1) (Nat.le_of_eq HB1.out.2) (hI.blk.set k c) (by rw [List.length_set]; exact hI.len) (by omega) (hI.lim.set k (by rw [show (B : Int) = 4294967296 from rfl]; omega)) (dbl_end hI.len HA.out.2.1 hI.bit hI.val) (Only.below HB1.out.1 (hI.only.set k (.int .u64 c)) (by rw [HB1.out.2]; exact Nat.le_refl _)))
      clear hI hlt hk
      go_wp2_with fail
      refine (HTR.out).mono ?_
      rintro e w4 ⟨x, r, rfl, hr⟩
      have HR := Lib.hid hr
      clear hr
      go_wp2
      go_ret
      exact ⟨x, r, rfl, HR.out⟩
end Go.Proofs.YtimpimnaknkgpaaDoor
