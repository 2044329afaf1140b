import Derived.Test.YtimpimnaknkgpaaDoorO
namespace Go.Proofs.YtimpimnaknkgpaaDoor
open Go.RowKit Num
set_option linter.unusedVariables false
set_option linter.unusedSimpArgs false

/-- A number that was read lies at the cells i and i + 1 of block g. -/
structure NumAt (w : World) (g i : Nat) (n : Bool) (s : ByteArray) (g1 k1 : Nat) (r1 : List Int) : Prop where
  c0 : w.cell? ⟨g, i, none⟩ = some (.bool n)
  c1 : w.cell? ⟨g, i + 1, none⟩ = some (.slice (some ⟨g1, 0, none⟩) k1 k1)
  f0 : w.frozen? ⟨g, i, none⟩ = false
  len : r1.length = k1
  le : k1 ≤ 4000
  row : RL w (some ⟨g1, 0, none⟩) r1
  lim : Lim r1
  tr : Tr r1
  val : lv r1 = nv s

def Read2P (n1 : Bool) (s1 : ByteArray) (n2 : Bool) (s2 : ByteArray) (w : World) (e : Ending) (w' : World) : Prop :=
  ∃ g c g1 k1 r1 g2 k2 r2, e = .returned (.tuple #[.slice (some ⟨g, 0, none⟩) 2 c, .int .i64 0]) ∧ w.heap.size ≤ g ∧ 2 ≤ c ∧ NumAt w' g 0 n1 s1 g1 k1 r1 ∧ NumAt w' g 2 n2 s2 g2 k2 r2 ∧ Below w.heap.size w w'
def Read1P (n1 : Bool) (s1 : ByteArray) (w : World) (e : Ending) (w' : World) : Prop :=
  ∃ g c g1 k1 r1, e = .returned (.tuple #[.slice (some ⟨g, 0, none⟩) 1 c, .int .i64 0]) ∧ w.heap.size ≤ g ∧ 1 ≤ c ∧ NumAt w' g 0 n1 s1 g1 k1 r1 ∧ Below w.heap.size w w'

theorem numAt_of {w0 base k : Nat} {w : World} {g : Nat} {cur : Array Value} {rs : List (Value × Value)} {t : TypeId} (hg : w.heap[g]? = some (.cells cur t (0, 0))) (ht : cur.toList.take (k * 2) = flat rs) (j : Nat) (p : Bool × ByteArray) (q : Value × Value) (hq : rs[j]? = some q) (ho : NumOk base w p q) :
    ∃ g1 k1 r1, NumAt w g (j * 2) p.1 p.2 g1 k1 r1 := by
  obtain ⟨h1, g1, n1, r, h2, hb, h3, h4, h5, h6, h7, h8⟩ := ho
  have hf : ∀ (l : List (Value × Value)) (j : Nat) (q : Value × Value), l[j]? = some q → (flat l)[j * 2]? = some q.1 ∧ (flat l)[j * 2 + 1]? = some q.2 := by
    intro l
    induction l with
    | nil => intro j q h; simp at h
    | cons a l ih =>
      intro j q h
      cases j with
      | zero => simp at h; subst h; exact ⟨rfl, rfl⟩
      | succ j =>
        rw [List.getElem?_cons_succ] at h
        have := ih j q h
        have e : flat (a :: l) = a.1 :: a.2 :: flat l := by simp [flat]
        rw [e, show (j + 1) * 2 = j * 2 + 2 by omega]
        exact this
  obtain ⟨f1, f2⟩ := hf rs j q hq
  rw [← ht, List.getElem?_take] at f1 f2
  split at f1 <;> try contradiction
  split at f2 <;> try contradiction
  refine ⟨g1, n1, r, ?_, ?_, ?_, h3, h4, h5.RL (by omega), h6, h7, h8⟩
  · unfold World.cell?
    rw [show w.heap[(⟨g, j * 2, none⟩ : Addr).block]? = _ from hg]
    rw [h1] at f1
    simpa using f1
  · unfold World.cell?
    rw [show w.heap[(⟨g, j * 2 + 1, none⟩ : Addr).block]? = _ from hg]
    rw [h2] at f2
    simpa using f2
  · unfold World.frozen?
    rw [show w.heap[(⟨g, j * 2, none⟩ : Addr).block]? = _ from hg]
    simp

theorem read2_c (n1 : Bool) (s1 : ByteArray) (n2 : Bool) (s2 : ByteArray) (g c : Nat) (w : World) (h0 : w.cell? ⟨g, 0, none⟩ = some (.bool n1)) (h1 : w.cell? ⟨g, 1, none⟩ = some (.string s1)) (h2 : w.cell? ⟨g, 2, none⟩ = some (.bool n2)) (h3 : w.cell? ⟨g, 3, none⟩ = some (.string s2)) (hk1 : okI n1 s1) (hk2 : okI n2 s2) :
    Calls Tryd.prog 32 #[.slice (some ⟨g, 0, none⟩) 2 c] w (Read2P n1 s1 n2 s2 w) := by
  refine (read_ok ⟨g, 0, none⟩ [(n1, s1), (n2, s2)] 2 c rfl (by omega) w ?_ ?_).mono ?_
  · intro j n s h
    match j, h with
    | 0, h => simp at h; obtain ⟨rfl, rfl⟩ := h; exact ⟨by simpa [Addr.add] using h0, by simpa [Addr.add] using h1⟩
    | 1, h => simp at h; obtain ⟨rfl, rfl⟩ := h; exact ⟨by simpa [Addr.add] using h2, by simpa [Addr.add] using h3⟩
    | j + 2, h => simp at h
  · intro p hp
    simp at hp
    rcases hp with rfl | rfl
    · exact hk1
    · exact hk2
  · rintro e w' ⟨v, rs, rfl, own, len, ok, bel⟩
    obtain ⟨hl, ⟨-, h⟩ | ⟨g', cap, cur, rfl, hb, hh, hc, _, _, ht⟩⟩ := own
    · omega
    · obtain ⟨a, ha⟩ : ∃ a, rs[0]? = some a := ⟨_, List.getElem?_eq_getElem (by omega)⟩
      obtain ⟨b, hb'⟩ : ∃ a, rs[1]? = some a := ⟨_, List.getElem?_eq_getElem (by omega)⟩
      obtain ⟨g1, k1, r1, q1⟩ := numAt_of (w0 := 0) hh ht 0 (n1, s1) a ha (ok 0 _ _ (by omega) rfl ha)
      obtain ⟨g2, k2, r2, q2⟩ := numAt_of (w0 := 0) hh ht 1 (n2, s2) b hb' (ok 1 _ _ (by omega) rfl hb')
      exact ⟨g', cap, g1, k1, r1, g2, k2, r2, rfl, hb, hc, q1, q2, bel⟩
theorem read1_c (n1 : Bool) (s1 : ByteArray) (g c : Nat) (w : World) (h0 : w.cell? ⟨g, 0, none⟩ = some (.bool n1)) (h1 : w.cell? ⟨g, 1, none⟩ = some (.string s1)) (hk1 : okI n1 s1) :
    Calls Tryd.prog 32 #[.slice (some ⟨g, 0, none⟩) 1 c] w (Read1P n1 s1 w) := by
  refine (read_ok ⟨g, 0, none⟩ [(n1, s1)] 1 c rfl (by omega) w ?_ ?_).mono ?_
  · intro j n s h
    match j, h with
    | 0, h => simp at h; obtain ⟨rfl, rfl⟩ := h; exact ⟨by simpa [Addr.add] using h0, by simpa [Addr.add] using h1⟩
    | j + 1, h => simp at h
  · intro p hp
    simp at hp
    subst hp
    exact hk1
  · rintro e w' ⟨v, rs, rfl, own, len, ok, bel⟩
    obtain ⟨hl, ⟨-, h⟩ | ⟨g', cap, cur, rfl, hb, hh, hc, _, _, ht⟩⟩ := own
    · omega
    · obtain ⟨a, ha⟩ : ∃ a, rs[0]? = some a := ⟨_, List.getElem?_eq_getElem (by omega)⟩
      obtain ⟨g1, k1, r1, q1⟩ := numAt_of (w0 := 0) hh ht 0 (n1, s1) a ha (ok 0 _ _ (by omega) rfl ha)
      exact ⟨g', cap, g1, k1, r1, rfl, hb, hc, q1, bel⟩
def bad2 (n1 : Bool) (s1 : ByteArray) (n2 : Bool) (s2 : ByteArray) : Int := if chk n1 s1 ≠ 0 then chk n1 s1 else chk n2 s2
theorem bad2_ok {n1 : Bool} {s1 : ByteArray} {n2 : Bool} {s2 : ByteArray} : bad2 n1 s1 n2 s2 = 0 ↔ okI n1 s1 ∧ okI n2 s2 := by
  unfold bad2
  rw [← chk_ok, ← chk_ok]
  split
  · constructor
    · intro h; contradiction
    · intro h; exact h.1
  · rename_i h
    have h0 : chk n1 s1 = 0 := Decidable.not_not.1 h
    exact ⟨fun h => ⟨h0, h⟩, fun h => h.2⟩
theorem read2_bad (n1 : Bool) (s1 : ByteArray) (n2 : Bool) (s2 : ByteArray) (g c : Nat) (w : World) (h0 : w.cell? ⟨g, 0, none⟩ = some (.bool n1)) (h1 : w.cell? ⟨g, 1, none⟩ = some (.string s1)) (h2 : w.cell? ⟨g, 2, none⟩ = some (.bool n2)) (h3 : w.cell? ⟨g, 3, none⟩ = some (.string s2)) (hb : bad2 n1 s1 n2 s2 ≠ 0) :
    Calls Tryd.prog 32 #[.slice (some ⟨g, 0, none⟩) 2 c] w fun e w' => e = .returned (.tuple #[.slice none 0 0, .int .i64 (bad2 n1 s1 n2 s2)]) ∧ Below w.heap.size w w' := by
  have ha : AskAt w ⟨g, 0, none⟩ [(n1, s1), (n2, s2)] := by
    intro j n s h
    match j, h with
    | 0, h => simp at h; obtain ⟨rfl, rfl⟩ := h; exact ⟨by simpa [Addr.add] using h0, by simpa [Addr.add] using h1⟩
    | 1, h => simp at h; obtain ⟨rfl, rfl⟩ := h; exact ⟨by simpa [Addr.add] using h2, by simpa [Addr.add] using h3⟩
    | j + 2, h => simp at h
  unfold bad2 at *
  split at hb
  · rename_i hc
    rw [if_pos hc]
    exact read_bad ⟨g, 0, none⟩ _ 2 c rfl (by omega) w ha 0 n1 s1 rfl hc (fun j p h => by omega)
  · rename_i hc
    rw [if_neg hc]
    refine read_bad ⟨g, 0, none⟩ _ 2 c rfl (by omega) w ha 1 n2 s2 rfl hb (fun j p h hp => ?_)
    have : j = 0 := by omega
    subst this
    simp at hp
    subst hp
    exact chk_ok.1 (Decidable.not_not.1 hc)
theorem read1_bad (n1 : Bool) (s1 : ByteArray) (g c : Nat) (w : World) (h0 : w.cell? ⟨g, 0, none⟩ = some (.bool n1)) (h1 : w.cell? ⟨g, 1, none⟩ = some (.string s1)) (hb : chk n1 s1 ≠ 0) :
    Calls Tryd.prog 32 #[.slice (some ⟨g, 0, none⟩) 1 c] w fun e w' => e = .returned (.tuple #[.slice none 0 0, .int .i64 (chk n1 s1)]) ∧ Below w.heap.size w w' := by
  have ha : AskAt w ⟨g, 0, none⟩ [(n1, s1)] := by
    intro j n s h
    match j, h with
    | 0, h => simp at h; obtain ⟨rfl, rfl⟩ := h; exact ⟨by simpa [Addr.add] using h0, by simpa [Addr.add] using h1⟩
    | j + 1, h => simp at h
  exact read_bad ⟨g, 0, none⟩ _ 1 c rfl (by omega) w ha 0 n1 s1 rfl hb (fun j p h => by omega)
end Go.Proofs.YtimpimnaknkgpaaDoor
