import Derived.Test.YtimpimnaknkgpaaDoorM
namespace Go.Proofs.YtimpimnaknkgpaaDoor
open Go.RowKit Num
set_option linter.unusedVariables false
set_option linter.unusedSimpArgs false

def SumP (v : Int) (w : World) (e : Ending) (w' : World) : Prop := ∃ n x r, e = .returned (.agg #[.bool n, x]) ∧ IsRow w' x r ∧ Lim r ∧ Tr r ∧ sgn n (lv r) = v ∧ Below w.heap.size w w'

theorem RL.setO {w : World} {A : Option Addr} {l : List Int} {p : Addr} {v : Value} (h : RL w A l) (hc : w.cell? p = some v) (hv : ∀ x, v ≠ .int .u64 x) (u : Value) : RL (w.setCell p u) A l :=
  ⟨h.1, fun hn => by
    obtain ⟨ad, e, hcl⟩ := h.2 hn
    refine ⟨ad, e, fun j hj => ?_⟩
    rw [World.cell?_setCell_other]
    · exact hcl j hj
    · intro e2
      have := hcl j hj
      rw [← e2, hc] at this
      injection this with this
      exact hv _ this⟩
/-- The variable that holds a sign and a row is set: other rows stay. -/
theorem RL.pair {w : World} {A : Option Addr} {l : List Int} {g : Nat} {n0 : Bool} {B0 : Option Addr} {k0 c0 : Nat} (h : RL w A l) (h0 : w.cell? ⟨g, 0, none⟩ = some (.bool n0)) (h1 : w.cell? ⟨g, 1, none⟩ = some (.slice B0 k0 c0)) (u v : Value) : RL ((w.setCell ⟨g, 0, none⟩ u).setCell ⟨g, 1, none⟩ v) A l := by
  refine RL.setO (RL.setO h h0 (by simp) u) (v := .slice B0 k0 c0) ?_ (by simp) v
  exact (World.cell?_setCell_other w ⟨g, 0, none⟩ ⟨g, 1, none⟩ u (by simp)).trans h1

set_option maxHeartbeats 1000000 in
theorem sum_c (n1 n2 : Bool) (A1 A2 : Option Addr) (k1 k2 c1 c2 : Nat) (a b : List Int) (h1 : a.length = k1) (h2 : b.length = k2) (h14 : k1 ≤ 4000) (h24 : k2 ≤ 4000) (hc1 : k1 ≤ c1) (hc2 : k2 ≤ c2) (w : World) (ha : RL w A1 a) (hb : RL w A2 b) (hla : Lim a) (hlb : Lim b) :
    Calls Tryd.prog 34 #[.agg #[.bool n1, .slice A1 k1 c1], .agg #[.bool n2, .slice A2 k2 c2]] w (SumP (sgn n1 (lv a) + sgn n2 (lv b)) w) := by
  obtain ⟨w3, hw3⟩ : ∃ w3, w3 = ((w.alloc (.cells #[.bool n1, .slice A1 k1 c1] 55)).alloc (.cells #[.bool n2, .slice A2 k2 c2] 55)).alloc (.cells #[.bool false, .slice none 0 0] 55) := ⟨_, rfl⟩
  have hb3 : Below w.heap.size w w3 := by rw [hw3]; exact (((Below.refl _ _).alloc (Nat.le_refl _) _).alloc (by simp) _).alloc (by simp; omega) _
  have HA := Lib.hid (ha.below hb3 (Nat.le_refl _))
  have HB := Lib.hid (hb.below hb3 (Nat.le_refl _))
  have d0 : w3.cell? ⟨w.heap.size, 0, none⟩ = some (.bool n1) := by rw [hw3]; simp [go_sem]
  have d1 : w3.cell? ⟨w.heap.size, 1, none⟩ = some (.slice A1 k1 c1) := by rw [hw3]; simp [go_sem]
  have d2 : w3.cell? ⟨w.heap.size + 1, 0, none⟩ = some (.bool n2) := by rw [hw3]; simp [go_sem]
  have d3 : w3.cell? ⟨w.heap.size + 1, 1, none⟩ = some (.slice A2 k2 c2) := by rw [hw3]; simp [go_sem]
  have d4 : w3.cell? ⟨w.heap.size + 2, 0, none⟩ = some (.bool false) := by rw [hw3]; simp [go_sem]
  have d5 : w3.cell? ⟨w.heap.size + 2, 1, none⟩ = some (.slice none 0 0) := by rw [hw3]; simp [go_sem]
  have d6 : w3.frozen? ⟨w.heap.size + 2, 0, none⟩ = false := by rw [hw3]; simp [go_sem]
  have d7 : w3.frozen? ⟨w.heap.size + 2, 1, none⟩ = false := by rw [hw3]; simp [go_sem]
  have hsz : w3.heap.size = w.heap.size + 3 := by rw [hw3]; simp
  have HW := Lib.hid hw3
  have HS := Lib.hid hb3
  have HSZ := Lib.hid hsz
  have hk1 := fun (w' : World) (h : Below w3.heap.size w3 w') => (show w'.cell? ⟨w.heap.size, 0, none⟩ = some (.bool n1) ∧ w'.cell? ⟨w.heap.size, 1, none⟩ = some (.slice A1 k1 c1) ∧ w'.cell? ⟨w.heap.size + 1, 0, none⟩ = some (.bool n2) ∧ w'.cell? ⟨w.heap.size + 1, 1, none⟩ = some (.slice A2 k2 c2) ∧ w'.cell? ⟨w.heap.size + 2, 0, none⟩ = some (.bool false) ∧ w'.cell? ⟨w.heap.size + 2, 1, none⟩ = some (.slice none 0 0) ∧ w'.frozen? ⟨w.heap.size + 2, 0, none⟩ = false ∧ w'.frozen? ⟨w.heap.size + 2, 1, none⟩ = false from
    ⟨(h.cell (by simp [hsz]; try omega)).trans d0, (h.cell (by simp [hsz]; try omega)).trans d1, (h.cell (by simp [hsz]; try omega)).trans d2, (h.cell (by simp [hsz]; try omega)).trans d3, (h.cell (by simp [hsz]; try omega)).trans d4, (h.cell (by simp [hsz]; try omega)).trans d5, (h.frozen (by simp [hsz]; try omega)).trans d6, (h.frozen (by simp [hsz]; try omega)).trans d7⟩)
  have HK := Lib.hid hk1
  by_cases hn : n1 = n2
  · subst hn
    have HC := Lib.hid (add_c A1 A2 k1 k2 c1 c2 a b h1 h2 h14 h24 w3 HA.out HB.out hla hlb)
    have hvv : sgn n1 (lv a + lv b) = sgn n1 (lv a) + sgn n1 (lv b) := by cases n1 <;> simp [sgn]; try omega
    have HV := Lib.hid hvv
    clear hvv
    have ht : (n1 == n1) = true := by simp
    clear d0 d1 d2 d3 d4 d5 d6 d7 hk1 hsz hb3 ha hb hla hlb hw3
    go_enter Tryd.func34, Tryd.ntmps34
    go_wp2_with fail
    rw [← HW.out]
    refine (HC.out).mono ?_
    rintro e w' ⟨x, r, rfl, hr, hlr, htr, hvr, hbr⟩
    obtain ⟨A, cc, rfl, hrc, hrl⟩ := hr
    obtain ⟨e0, e1, e2, e3, e4, e5, e6, e7⟩ := HK.out _ hbr
    have HR := Lib.hid (And.intro hrc (And.intro hrl (And.intro hlr (And.intro htr (And.intro hvr (HS.out.trans (hbr.mono (by rw [HSZ.out]; omega)))))))) 
    clear hrc hrl hlr htr hvr hbr
    go_wp2
    refine bodyPost_ret (by simp [results, Tryd.results34, go_sem, e0, e1, e2, e3, e4, e5]; try rfl) rfl ?_
    obtain ⟨hrc, hrl, hlr, htr, hvr, hbl⟩ := HR.out
    exact ⟨_, _, r, rfl, ⟨A, cc, rfl, hrc, hrl.pair e4 e5 _ _⟩, hlr, htr, by rw [hvr]; exact HV.out, (hbl.setCell (by simp; try omega) _).setCell (by simp; try omega) _⟩
  · have ht : (n1 == n2) = false := beq_eq_false_iff_ne.mpr hn
    have hn2 : n2 = !n1 := by cases n1 <;> cases n2 <;> simp_all
    by_cases hlt : lv b ≤ lv a
    · have hvv : sgn n1 (lv a - lv b) = sgn n1 (lv a) + sgn n2 (lv b) := by rw [hn2]; cases n1 <;> simp [sgn] <;> omega
      have HV := Lib.hid hvv
      have HL := Lib.hid hlt
      have HC := Lib.hid (sub_c A1 A2 k1 k2 c1 c2 a b h1 h2 h14 h24 hc1 hc2 w3 HA.out HB.out hla hlb)
      clear hvv hn hn2 hlt
      clear d0 d1 d2 d3 d4 d5 d6 d7 hk1 hsz hb3 ha hb hla hlb hw3
      go_enter Tryd.func34, Tryd.ntmps34
      go_wp2_with fail
      rw [← HW.out]
      refine (HC.out).mono ?_
      rintro e w' ⟨hsp, -⟩
      obtain ⟨x, r, rfl, hr, hlr, htr, hvr, hbr⟩ := hsp HL.out
      clear hsp
      obtain ⟨A, cc, rfl, hrc, hrl⟩ := hr
      obtain ⟨e0, e1, e2, e3, e4, e5, e6, e7⟩ := HK.out _ hbr
      have HR := Lib.hid (And.intro hrc (And.intro hrl (And.intro hlr (And.intro htr (And.intro hvr (HS.out.trans (hbr.mono (by rw [HSZ.out]; omega)))))))) 
      clear hrc hrl hlr htr hvr hbr
      go_wp2
      refine bodyPost_ret (by simp [results, Tryd.results34, go_sem, e0, e1, e2, e3, e4, e5]; try rfl) rfl ?_
      obtain ⟨hrc, hrl, hlr, htr, hvr, hbl⟩ := HR.out
      exact ⟨_, _, r, rfl, ⟨A, cc, rfl, hrc, hrl.pair e4 e5 _ _⟩, hlr, htr, by rw [hvr]; exact HV.out, (hbl.setCell (by simp; try omega) _).setCell (by simp; try omega) _⟩
    · have hvv : sgn n2 (lv b - lv a) = sgn n1 (lv a) + sgn n2 (lv b) := by rw [hn2]; cases n1 <;> simp [sgn] <;> omega
      have HV := Lib.hid hvv
      have HL := Lib.hid (Int.lt_of_not_ge hlt)
      have HC := Lib.hid (sub_c A1 A2 k1 k2 c1 c2 a b h1 h2 h14 h24 hc1 hc2 w3 HA.out HB.out hla hlb)
      have HC2 := fun (w' : World) (h : Below w3.heap.size w3 w') => sub_c A2 A1 k2 k1 c2 c1 b a h2 h1 h24 h14 hc2 hc1 w' (HB.out.below h (Nat.le_refl _)) (HA.out.below h (Nat.le_refl _)) hlb hla
      clear hvv hn hn2 hlt
      clear d0 d1 d2 d3 d4 d5 d6 d7 hk1 hsz hb3 ha hb hla hlb hw3
      go_enter Tryd.func34, Tryd.ntmps34
      go_wp2_with fail
      rw [← HW.out]
      refine (HC.out).mono ?_
      rintro e w' ⟨-, hsp⟩
      obtain ⟨rfl, hbs⟩ := hsp HL.out
      clear hsp
      obtain ⟨e0, e1, e2, e3, e4, e5, e6, e7⟩ := HK.out _ hbs
      have HC3 := Lib.hid (HC2 w' hbs)
      have HBS := Lib.hid hbs
      clear hbs HC2
      go_wp2_with fail
      clear e0 e1 e2 e3 e4 e5 e6 e7
      refine (HC3.out).mono ?_
      rintro e w5 ⟨hsp, -⟩
      obtain ⟨x, r, rfl, hr, hlr, htr, hvr, hbr⟩ := hsp (Int.le_of_lt HL.out)
      clear hsp
      obtain ⟨A, cc, rfl, hrc, hrl⟩ := hr
      have hbt := HBS.out.trans (hbr.mono HBS.out.size)
      obtain ⟨e0, e1, e2, e3, e4, e5, e6, e7⟩ := HK.out _ hbt
      have HR := Lib.hid (And.intro hrc (And.intro hrl (And.intro hlr (And.intro htr (And.intro hvr (HS.out.trans (hbt.mono (by rw [HSZ.out]; omega)))))))) 
      clear hrc hrl hlr htr hvr hbr hbt
      go_wp2
      refine bodyPost_ret (by simp [results, Tryd.results34, go_sem, e0, e1, e2, e3, e4, e5]; try rfl) rfl ?_
      obtain ⟨hrc, hrl, hlr, htr, hvr, hbl⟩ := HR.out
      exact ⟨_, _, r, rfl, ⟨A, cc, rfl, hrc, hrl.pair e4 e5 _ _⟩, hlr, htr, by rw [hvr]; exact HV.out, (hbl.setCell (by simp; try omega) _).setCell (by simp; try omega) _⟩
end Go.Proofs.YtimpimnaknkgpaaDoor
