import Derived.Test.YtimpimnaknkgpaaGreatDoorA
import Derived.Maps.AppendAt
import Derived.Shelf.Slices.Reverse
namespace Go.Proofs.YtimpimnaknkgpaaGreatDoor
open Go.RowKit Num
set_option linter.unusedVariables false
set_option linter.unusedSimpArgs false

/-- The block of a row of bytes has no cell that holds a limb. -/
structure No64 (w : World) (v : Value) : Prop where
  out : ∀ g, v.ownBlock = some g → ∀ ad : Addr, ad.block = g → ∀ x, w.cell? ad ≠ some (.int .u64 x)
theorem No64.of {w : World} {g : Nat} {cs : Array Value} {e : TypeId} {fr : Nat × Nat} {v : Value} (hv : v.ownBlock = some g) (hg : w.heap[g]? = some (.cells cs e fr)) (h : ∀ (i : Nat) u, cs[i]? = some u → ∀ x, u ≠ Value.int .u64 x) : No64 w v := by
  refine ⟨fun g' hg' ad had x hc => ?_⟩
  rw [hv] at hg'
  obtain rfl := Option.some.inj hg'
  unfold World.cell? at hc
  rw [had, hg] at hc
  simp at hc
  exact h _ _ hc.2 x rfl
theorem No64.nil (w : World) : No64 w (.slice none 0 0) := ⟨fun g h => by simp [Value.ownBlock] at h⟩
theorem No64.keep {w w' : World} {v : Value} (h : No64 w v) (hk : ∀ g, v.ownBlock = some g → w'.heap[g]? = w.heap[g]?) : No64 w' v := by
  refine ⟨fun g hg ad had x => ?_⟩
  rw [World.cell?_of_block (w := w) (w' := w') (by rw [had]; exact hk g hg)]
  exact h.out g hg ad had x
theorem RL.grown {w w' : World} {A : Option Addr} {l : List Int} {v : Value} (h : RL w A l) (h8 : No64 w v) (hg : w.grownBy w' v.ownBlock) : RL w' A l := by
  refine ⟨h.1, fun hn => ?_⟩
  obtain ⟨ad, e, hc⟩ := h.2 hn
  refine ⟨ad, e, fun j hj => hg.cell (hc j hj) fun he => ?_⟩
  exact h8.out _ he.symm (ad.add j) rfl _ (hc j hj)

theorem zero8 (n j : Nat) (u : Value) (h : (Builtin.zeroCells (Value.cells (.int .u8 0)) n)[j]? = some u) : u = .int .u8 0 := by
  unfold Builtin.zeroCells at h
  rw [Array.getElem?_map] at h
  obtain ⟨i, hi, rfl⟩ := Option.map_eq_some_iff.1 h
  have : (Value.cells (.int .u8 0)) = #[.int .u8 0] := rfl
  rw [this]
  simp [Nat.mod_one]

/-- One byte appended to a row of bytes of the call's own. -/
theorem run_append8 {P : Program} (w : World) (base : Nat) (t ty e : TypeId) (i : TypeInfo) (ht : P.underlying t = some (.slice e)) (hi : P.info? e = some i) (hz : i.zero = some (.int .u8 0)) (hsz : i.size = 1) (hby : i.bytes = 1)
    (v : Value) (n : Nat) (xs : List Value) (hown : w.ownsRow base e 1 v n xs) (h8 : No64 w v) (ad : Addr) (c : Nat) (x : Int) (hx : w.cell? ad = some (.int .u8 x)) (hn : n ≤ 1000000) (hbase : base ≤ w.heap.size) :
    ∃ v' w', (Builtin.append_ #[t, t] ty #[v, .slice (some ad) 1 c]).run P w = .ok v' w' ∧ w'.ownsRow base e 1 v' (n + 1) (xs ++ [.int .u8 x]) ∧ w.grownBy w' v.ownBlock ∧ No64 w' v' := by
  have hnews : ∀ j u, ([Value.int .u8 x] : List Value)[j]? = some u → w.cell? (ad.add j) = some u := by
    intro j u hj
    match j, hj with
    | 0, hj => simp at hj; subst hj; simpa [Addr.add] using hx
  have hl : ([Value.int .u8 x] : List Value).length = 1 * i.size := by rw [hsz]; rfl
  have h1 : ∀ u ∈ ([Value.int .u8 x] : List Value), u.oneCell' = true := by simp [Value.oneCell']
  obtain ⟨v', w', hr, h2, h3, -, h5⟩ := run_append_own_at (P := P) w base t ty e i (.int .u8 0) 1 1 ht hi hz hsz hby rfl (by decide) v n xs hown ad 1 c [.int .u8 x] (by simp) hnews h1 (by simp only [maxLen]; omega) (by omega) hbase
  refine ⟨v', w', hr, h2, h3, ?_⟩
  have fin : ∀ {ol : List Value} {m : Nat}, (∀ (i : Nat) u, ol.toArray[i]? = some u → ∀ x, u ≠ Value.int .u64 x) → ∀ cap, No64 (w.drew.alloc (.cells (ol.toArray ++ [Value.int .u8 x].toArray ++ Builtin.zeroCells (Value.cells (.int .u8 0)) m) e)) (.slice (some ⟨w.heap.size, 0, none⟩) (n + 1) cap) := by
    intro ol m ho cap
    refine No64.of (g := w.heap.size) rfl (heap_alloc_new w.drew _) ?_
    intro j u hj y
    rw [Array.getElem?_append] at hj
    split at hj
    · rw [Array.getElem?_append] at hj
      split at hj
      · exact ho _ _ hj y
      · have : u ∈ ([Value.int .u8 x] : List Value) := List.mem_of_getElem? (by simpa using hj)
        simp at this
        subst this
        simp
    · rw [zero8 _ _ _ hj]
      simp
  rcases hown.2 with ⟨rfl, rfl⟩ | ⟨g, cap, cur, rfl, hbg, hg, hnc, hcm, hcs, htake⟩
  · have hrn := run_append_nil (P := P) w t ty e i (.int .u8 0) ht hi hz ad 1 c [.int .u8 x] hl hnews (by omega) (by omega) (by rw [hby]; omega)
    rw [hr] at hrn
    injection hrn with e1 e2
    rw [e1, e2]
    have := fin (ol := []) (m := grownCap w 1 0 e - 1) (by simp) (grownCap w 1 0 e)
    simpa using this
  · have hc8 : ∀ (i : Nat) u, cur[i]? = some u → ∀ x, u ≠ Value.int .u64 x := by
      intro j u hj y hu
      refine h8.out g rfl ⟨g, j, none⟩ rfl y ?_
      unfold World.cell?
      rw [show w.heap[(⟨g, j, none⟩ : Addr).block]? = _ from hg]
      subst hu
      simpa using hj
    have hx8 : ∀ (i : Nat) u, xs.toArray[i]? = some u → ∀ x, u ≠ Value.int .u64 x := by
      intro j u hj y
      have h6 : xs[j]? = some u := by simpa using hj
      rw [← htake, List.getElem?_take] at h6
      split at h6
      · exact hc8 j u (by simpa using h6) y
      · exact absurd h6 (by simp)
    by_cases hroom : n + 1 ≤ cap
    · have hrr := run_append_room (P := P) w t ty e i ht hi g n cap cur hg ad 1 c [.int .u8 x] hl hnews h1 hroom (by rw [hsz]; simp; omega)
      rw [hr] at hrr
      injection hrr with e1 e2
      rw [e1, e2]
      refine No64.of (g := g) rfl (setRow_heap w g cur _ e _ hg) ?_
      intro j u hj y
      have h7 : u ∈ (cur.toList.take (n * i.size) ++ [Value.int .u8 x] ++ cur.toList.drop (n * i.size + [Value.int .u8 x].length)) := List.mem_of_getElem? (by simpa using hj)
      have h9 : ∀ u ∈ cur.toList, ∀ y, u ≠ Value.int .u64 y := by
        intro u hu
        obtain ⟨j, hj⟩ := List.getElem?_of_mem hu
        exact hc8 j u (by simpa using hj)
      rcases List.mem_append.1 h7 with h7 | h7
      · rcases List.mem_append.1 h7 with h7 | h7
        · exact h9 u (List.mem_of_mem_take h7) y
        · simp at h7
          subst h7
          simp
      · exact h9 u (List.mem_of_mem_drop h7) y
    · have holds : ∀ j u, xs[j]? = some u → w.cell? ((⟨g, 0, none⟩ : Addr).add j) = some u := hown.cells (g := g) rfl
      have hrg := run_append_grow (P := P) w t ty e i (.int .u8 0) ht hi hz ⟨g, 0, none⟩ n cap xs (by rw [hsz]; exact hown.1) holds ad 1 c [.int .u8 x] hl hnews (by omega) (by omega) (growslice_fits (by omega) (by rw [hby]; omega))
      rw [hr] at hrg
      injection hrg with e1 e2
      rw [e1, e2]
      exact fin hx8 _

theorem wpList_append8 {P : Program} (w : World) {ops : Array Oper} {rest : List Oper} {o : Oper} {a : Act} {Q : Exit → Act → World → Prop} (hgd : o.guard = none) (s x : Operand) (t : TypeId)
    (ho : o.op = .call { callee := .builtin .append, args := #[s, x], argTypes := #[t, t] })
    (base : Nat) (e : TypeId) (i : TypeInfo) (ht : P.underlying t = some (.slice e)) (hi : P.info? e = some i) (hz : i.zero = some (.int .u8 0)) (hsz : i.size = 1) (hby : i.bytes = 1)
    (v : Value) (n : Nat) (xs : List Value) (hs : a.eval s = v) (hown : w.ownsRow base e 1 v n xs) (h8 : No64 w v)
    (ad : Addr) (c : Nat) (y : Int) (hx : a.eval x = .slice (some ad) 1 c) (hy : w.cell? ad = some (.int .u8 y)) (hn : n ≤ 1000000) (hbase : base ≤ w.heap.size)
    (h : ∀ v' w', w'.ownsRow base e 1 v' (n + 1) (xs ++ [.int .u8 y]) → w.grownBy w' v.ownBlock → No64 w' v' → wpList P ops Q rest (a.put o.dst v') w') : wpList P ops Q (o :: rest) a w := by
  refine wpList_plain hgd fun K hK => ?_
  obtain ⟨v', w', hr, h2, h3, h4⟩ := run_append8 (P := P) w base t o.type e i ht hi hz hsz hby v n xs hown h8 ad c y hy hn hbase
  unfold Oper.wp execOp
  simp only [ho, resolve, invoke, builtin, Sem.run_bind, Sem.run_pure, Result.andThen_ok, List.map_toArray, List.map_cons, List.map_nil, hs, hx, hr]
  exact hK _ _ (h v' w' h2 h3 h4)
end Go.Proofs.YtimpimnaknkgpaaGreatDoor
