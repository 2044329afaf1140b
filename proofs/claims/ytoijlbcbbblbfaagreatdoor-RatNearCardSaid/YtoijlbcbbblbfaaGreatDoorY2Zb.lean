import Derived.Test.YtoijlbcbbblbfaaGreatDoorY2A
import Derived.Maps.AppendAt
import Derived.Shelf.Slices.Reverse
import Derived.Laws.BytesString
import Derived.Laws.BytesArg
import Derived.Laws.IdiomStrings
namespace Go.Proofs.YtoijlbcbbblbfaaGreatDoor
open Go.RowKit Num
set_option linter.unusedVariables false
set_option linter.unusedSimpArgs false

/-- The block of a row of bytes has no cell that holds a limb. -/
structure No64 (w : World) (v : Value) : Prop where
 out : ∀ g, v.ownBlock = some g → ∀ ad : Addr, ad.block = g → ∀ x, w.cell? ad ≠ some (.int .u64 x)
theorem No64.of {w : World} {g : Nat} {cs : Array Value} {e : TypeId} {fr : Nat × Nat} {v : Value} (hv : v.ownBlock = some g) (hg : w.heap[g]? = some (.cells cs e fr)) (h : ∀ (i : Nat) u, cs[i]? = some u → ∀ x, u ≠ Value.int .u64 x) : No64 w v := by
 refine ⟨fun g' hg' ad had x hc => ?_⟩
 rw [hv] at hg'
 obtain rfl := Option.some.inj hg'
 unfold World.cell? at hc
 rw [had, hg] at hc
 simp at hc
 exact h _ _ hc.2 x rfl
theorem No64.nil (w : World) : No64 w (.slice none 0 0) := ⟨fun g h => by simp [Value.ownBlock] at h⟩
theorem No64.keep {w w' : World} {v : Value} (h : No64 w v) (hk : ∀ g, v.ownBlock = some g → w'.heap[g]? = w.heap[g]?) : No64 w' v := by
 refine ⟨fun g hg ad had x => ?_⟩
 rw [World.cell?_of_block (w := w) (w' := w') (by rw [had]; exact hk g hg)]
 exact h.out g hg ad had x
theorem RL.grown {w w' : World} {A : Option Addr} {l : List Int} {v : Value} (h : RL w A l) (h8 : No64 w v) (hg : w.grownBy w' v.ownBlock) : RL w' A l := by
 refine ⟨h.1, fun hn => ?_⟩
 obtain ⟨ad, e, hc⟩ := h.2 hn
 refine ⟨ad, e, fun j hj => hg.cell (hc j hj) fun he => ?_⟩
 exact h8.out _ he.symm (ad.add j) rfl _ (hc j hj)

theorem zero8 (n j : Nat) (u : Value) (h : (Builtin.zeroCells (Value.cells (.int .u8 0)) n)[j]? = some u) : u = .int .u8 0 := by
 unfold Builtin.zeroCells at h
 rw [Array.getElem?_map] at h
 obtain ⟨i, hi, rfl⟩ := Option.map_eq_some_iff.1 h
 have : (Value.cells (.int .u8 0)) = #[.int .u8 0] := rfl
 rw [this]
 simp [Nat.mod_one]

/-- One byte appended to a row of bytes of the call's own. -/
theorem run_append8 {P : Program} (w : World) (base : Nat) (t ty e : TypeId) (i : TypeInfo) (ht : P.underlying t = some (.slice e)) (hi : P.info? e = some i) (hz : i.zero = some (.int .u8 0)) (hsz : i.size = 1) (hby : i.bytes = 1)
  (v : Value) (n : Nat) (xs : List Value) (hown : w.ownsRow base e 1 v n xs) (h8 : No64 w v) (ad : Addr) (c : Nat) (x : Int) (hx : w.cell? ad = some (.int .u8 x)) (hn : n ≤ 1000000) (hbase : base ≤ w.heap.size) :
  ∃ v' w', (Builtin.append_ #[t, t] ty #[v, .slice (some ad) 1 c]).run P w = .ok v' w' ∧ w'.ownsRow base e 1 v' (n + 1) (xs ++ [.int .u8 x]) ∧ w.grownBy w' v.ownBlock ∧ No64 w' v' := by
 have hnews : ∀ j u, ([Value.int .u8 x] : List Value)[j]? = some u → w.cell? (ad.add j) = some u := by
  intro j u hj
  match j, hj with
  | 0, hj => simp at hj; subst hj; simpa [Addr.add] using hx
 have hl : ([Value.int .u8 x] : List Value).length = 1 * i.size := by rw [hsz]; rfl
 have h1 : ∀ u ∈ ([Value.int .u8 x] : List Value), u.oneCell' = true := by simp [Value.oneCell']
 obtain ⟨v', w', hr, h2, h3, -, h5⟩ := run_append_own_at (P := P) w base t ty e i (.int .u8 0) 1 1 ht hi hz hsz hby rfl (by decide) v n xs hown ad 1 c [.int .u8 x] (by simp) hnews h1 (by simp only [maxLen]; omega) (by omega) hbase
 refine ⟨v', w', hr, h2, h3, ?_⟩
 have fin : ∀ {ol : List Value} {m : Nat}, (∀ (i : Nat) u, ol.toArray[i]? = some u → ∀ x, u ≠ Value.int .u64 x) → ∀ cap, No64 (w.drew.alloc (.cells (ol.toArray ++ [Value.int .u8 x].toArray ++ Builtin.zeroCells (Value.cells (.int .u8 0)) m) e)) (.slice (some ⟨w.heap.size, 0, none⟩) (n + 1) cap) := by
  intro ol m ho cap
  refine No64.of (g := w.heap.size) rfl (heap_alloc_new w.drew _) ?_
  intro j u hj y
  rw [Array.getElem?_append] at hj
  split at hj
  ·rw [Array.getElem?_append] at hj
   split at hj
   ·exact ho _ _ hj y
   ·have : u ∈ ([Value.int .u8 x] : List Value) := List.mem_of_getElem? (by simpa using hj)
    simp at this
    subst this
    simp
  ·rw [zero8 _ _ _ hj]
   simp
 rcases hown.2 with ⟨rfl, rfl⟩ | ⟨g, cap, cur, rfl, hbg, hg, hnc, hcm, hcs, htake⟩
 ·have hrn := run_append_nil (P := P) w t ty e i (.int .u8 0) ht hi hz ad 1 c [.int .u8 x] hl hnews (by omega) (by omega) (by rw [hby]; omega)
  rw [hr] at hrn
  injection hrn with e1 e2
  rw [e1, e2]
  have := fin (ol := []) (m := grownCap w 1 0 e - 1) (by simp) (grownCap w 1 0 e)
  simpa using this
 ·have hc8 : ∀ (i : Nat) u, cur[i]? = some u → ∀ x, u ≠ Value.int .u64 x := by
   intro j u hj y hu
   refine h8.out g rfl ⟨g, j, none⟩ rfl y ?_
   unfold World.cell?
   rw [show w.heap[(⟨g, j, none⟩ : Addr).block]? = _ from hg]
   subst hu
   simpa using hj
  have hx8 : ∀ (i : Nat) u, xs.toArray[i]? = some u → ∀ x, u ≠ Value.int .u64 x := by
   intro j u hj y
   have h6 : xs[j]? = some u := by simpa using hj
   rw [← htake, List.getElem?_take] at h6
   split at h6
   ·exact hc8 j u (by simpa using h6) y
   ·exact absurd h6 (by simp)
  by_cases hroom : n + 1 ≤ cap
  ·have hrr := run_append_room (P := P) w t ty e i ht hi g n cap cur hg ad 1 c [.int .u8 x] hl hnews h1 hroom (by rw [hsz]; simp; omega)
   rw [hr] at hrr
   injection hrr with e1 e2
   rw [e1, e2]
   refine No64.of (g := g) rfl (setRow_heap w g cur _ e _ hg) ?_
   intro j u hj y
   have h7 : u ∈ (cur.toList.take (n * i.size) ++ [Value.int .u8 x] ++ cur.toList.drop (n * i.size + [Value.int .u8 x].length)) := List.mem_of_getElem? (by simpa using hj)
   have h9 : ∀ u ∈ cur.toList, ∀ y, u ≠ Value.int .u64 y := by
    intro u hu
    obtain ⟨j, hj⟩ := List.getElem?_of_mem hu
    exact hc8 j u (by simpa using hj)
   rcases List.mem_append.1 h7 with h7 | h7
   ·rcases List.mem_append.1 h7 with h7 | h7
    ·exact h9 u (List.mem_of_mem_take h7) y
    ·simp at h7
     subst h7
     simp
   ·exact h9 u (List.mem_of_mem_drop h7) y
  ·have holds : ∀ j u, xs[j]? = some u → w.cell? ((⟨g, 0, none⟩ : Addr).add j) = some u := hown.cells (g := g) rfl
   have hrg := run_append_grow (P := P) w t ty e i (.int .u8 0) ht hi hz ⟨g, 0, none⟩ n cap xs (by rw [hsz]; exact hown.1) holds ad 1 c [.int .u8 x] hl hnews (by omega) (by omega) (growslice_fits (by omega) (by rw [hby]; omega))
   rw [hr] at hrg
   injection hrg with e1 e2
   rw [e1, e2]
   exact fin hx8 _

theorem wpList_append8 {P : Program} (w : World) {ops : Array Oper} {rest : List Oper} {o : Oper} {a : Act} {Q : Exit → Act → World → Prop} (hgd : o.guard = none) (s x : Operand) (t : TypeId)
  (ho : o.op = .call { callee := .builtin .append, args := #[s, x], argTypes := #[t, t] })
  (base : Nat) (e : TypeId) (i : TypeInfo) (ht : P.underlying t = some (.slice e)) (hi : P.info? e = some i) (hz : i.zero = some (.int .u8 0)) (hsz : i.size = 1) (hby : i.bytes = 1)
  (v : Value) (n : Nat) (xs : List Value) (hs : a.eval s = v) (hown : w.ownsRow base e 1 v n xs) (h8 : No64 w v)
  (ad : Addr) (c : Nat) (y : Int) (hx : a.eval x = .slice (some ad) 1 c) (hy : w.cell? ad = some (.int .u8 y)) (hn : n ≤ 1000000) (hbase : base ≤ w.heap.size)
  (h : ∀ v' w', w'.ownsRow base e 1 v' (n + 1) (xs ++ [.int .u8 y]) → w.grownBy w' v.ownBlock → No64 w' v' → wpList P ops Q rest (a.put o.dst v') w') : wpList P ops Q (o :: rest) a w := by
 refine wpList_plain hgd fun K hK => ?_
 obtain ⟨v', w', hr, h2, h3, h4⟩ := run_append8 (P := P) w base t o.type e i ht hi hz hsz hby v n xs hown h8 ad c y hy hn hbase
 unfold Oper.wp execOp
 simp only [ho, resolve, invoke, builtin, Sem.run_bind, Sem.run_pure, Result.andThen_ok, List.map_toArray, List.map_cons, List.map_nil, hs, hx, hr]
 exact hK _ _ (h v' w' h2 h3 h4)
end Go.Proofs.YtoijlbcbbblbfaaGreatDoor

namespace Go.Proofs.YtoijlbcbbblbfaaGreatDoor
open Go.RowKit Num Go.Lib Go.Sort
set_option linter.unusedVariables false
set_option linter.unusedSimpArgs false
abbrev enc8 : Int → Value := fun x => Value.int .u8 x

set_option maxHeartbeats 1600000 in
set_option maxRecDepth 1000000 in
theorem rev_arr (blk off cap : Nat) (d : Array Int) (w : World) (hH : Holds enc8 w blk off d) (hsz : d.size ≤ 9223372036854775807) :
  Calls Tryz.prog 91 #[.slice (some ⟨blk, off, none⟩) d.size cap] w fun e w' => e = .returned (.tuple #[]) ∧ ∃ n, w' = putRow enc8 (Sort.ahead w n) blk off d.reverse := by
 go_enter Tryz.func91, Tryz.ntmps91
 go_wp2
 go_loopg [2, 3] d.size (fun k s2 s3 wr => ∃ (i jn : Nat) (jz : Int) (dk : Array Int) (n : Nat), s2 = .int .i64 i ∧ s3 = .int .i64 jz ∧ ((i : Int) < jz → jz = jn ∧ jn < d.size) ∧ (¬ (i : Int) < jz → ¬ i < jn) ∧ jn - i ≤ k ∧
  dk.size = d.size ∧ wr = putRow enc8 (Sort.ahead w n) blk off dk ∧ reverseLoop i jn dk = reverseLoop 0 (d.size - 1) d)
 case atStart => exact ⟨0, d.size - 1, (d.size : Int) - 1, d, 0, rfl, rfl, fun h => ⟨by omega, by omega⟩, fun h => by omega, by omega, rfl, (putRow_self enc8 w blk off d hH).symm, rfl⟩
 case round =>
  obtain ⟨i, jn, jz, dk, n, rfl, rfl, h1, h2, hk, hds, hwr, heq⟩ := hrel
  by_cases hlt : (i : Int) < jz
  ·obtain ⟨rfl, hjn⟩ := h1 hlt
   have hij : i < jn := by omega
   have hHk : Holds enc8 wr blk off dk := by rw [hwr]; exact holds_putRow enc8 _ blk off d dk (holds_ahead enc8 w n blk off d hH) hds
   obtain ⟨ci, fi⟩ := hHk i (by omega)
   obtain ⟨cj, fj⟩ := hHk jn (by omega)
   have A : Aside (wr = putRow enc8 (Sort.ahead w n) blk off dk) := hwr
   clear hwr hHk hH h1 h2
   go_wp2_with fail
   go_region
   go_wp2
   go_roundg (jn - 1 - (i + 1))
   case measure => omega
   case rel =>
    rw [reverseLoop, if_pos hij] at heq
    exact ⟨i + 1, jn - 1, (jn : Int) - 1, swp dk i jn, n + 1, by simp, rfl, fun h => ⟨by omega, by omega⟩, fun h => by omega, Nat.le_refl _, by rw [size_swp]; exact hds,
     swap_world enc8 (by omega) (by omega) A.out (by first | rfl | simp [enc8, getElem!_pos, show jn < dk.size by omega]) (by first | rfl | simp [enc8, getElem!_pos, show i < dk.size by omega]), heq⟩
  ·have hnot := h2 hlt
   go_wp2
   go_end0
   refine ⟨rfl, n, ?_⟩
   rw [reverseLoop, if_neg hnot] at heq
   rw [← Lib.reverseLoop_reverse, ← heq]
end Go.Proofs.YtoijlbcbbblbfaaGreatDoor

namespace Go.Proofs.YtoijlbcbbblbfaaGreatDoor
open Go.RowKit Num Go.Lib Go.Sort
set_option linter.unusedVariables false
set_option linter.unusedSimpArgs false

theorem rev_empty (a : Option Addr) (cap : Nat) (w : World) :
  Calls Tryz.prog 91 #[.slice a 0 cap] w fun e w' => e = .returned (.tuple #[]) ∧ w' = w := by
 go_enter Tryz.func91, Tryz.ntmps91
 go_wp2
 go_loopg [2, 3] 0 (fun _ s2 s3 wr => s2 = .int .i64 0 ∧ s3 = .int .i64 (-1) ∧ wr = w)
 case atStart => exact ⟨rfl, rfl, rfl⟩
 case round =>
  obtain ⟨rfl, rfl, rfl⟩ := hrel
  go_wp2
  go_end0
  exact ⟨rfl, rfl⟩

/-- The bytes of numbers. -/
def bys (l : List Int) : List UInt8 := l.map fun n => UInt8.ofNat n.toNat

/-- A row of bytes of the call's own, turned round, as a string. -/
theorem rev_own (base : Nat) (v : Value) (n : Nat) (zs : List Int) (w : World) (h : w.ownsRow base 5 1 v n (zs.map enc8)) (hn : n ≤ 1000000) :
  Calls Tryz.prog 91 #[v] w fun e w' => e = .returned (.tuple #[]) ∧ Below base w w' ∧ (convert 94 9 v).run Tryz.prog w' = .ok (.string ⟨(bys zs.reverse).toArray⟩) w' := by
 have hlen : zs.length = n := by have := h.1; simpa using this
 rcases h.2 with ⟨rfl, rfl⟩ | ⟨g, cap, cur, rfl, hbg, hg, hnc, hcm, hcs, htake⟩
 ·have hz : zs = [] := List.eq_nil_of_length_eq_zero hlen
  subst hz
  refine (rev_empty none 0 w).mono ?_
  rintro e w' ⟨rfl, rfl⟩
  refine ⟨rfl, Below.refl _ _, ?_⟩
  rw [run_convert_bytes_string w' _ _ 5 none 0 0 (by kernel_rfl) (by kernel_rfl) (by kernel_rfl)]
  simp [Conv.bytesToString, bys, Sem.run_pure]
  rfl
 ·have hH : Holds enc8 w g 0 zs.toArray := by
   intro j hj
   have hj2 : j < zs.length := by simpa using hj
   have hc := h.cells (g := g) rfl j (enc8 zs[j]) (by simp [hj2])
   refine ⟨?_, ?_⟩
   ·rw [show (⟨g, 0 + j, none⟩ : Addr) = (⟨g, 0, none⟩ : Addr).add j from by simp [Addr.add], hc]
    simp [hj2]
   ·unfold World.frozen?
    rw [show w.heap[(⟨g, 0 + j, none⟩ : Addr).block]? = _ from hg]
    simp
  have hr := rev_arr g 0 cap zs.toArray w hH (by simp; omega)
  rw [show zs.toArray.size = n by simpa using hlen] at hr
  refine hr.mono ?_
  rintro e w' ⟨rfl, m, rfl⟩
  refine ⟨rfl, ⟨rfl, rfl, rfl, by simp, fun k hk => ?_⟩, ?_⟩
  ·show (World.heap (putRow enc8 (Sort.ahead w m) g 0 zs.toArray.reverse))[k]? = _
   simp only [putRow, mapBlock, Array.getElem?_modify]
   rw [if_neg (by omega)]
   rfl
  ·rw [run_convert_bytes_string _ _ _ 5 _ _ _ (by kernel_rfl) (by kernel_rfl) (by kernel_rfl)]
   have hl := run_loadCells_list (P := Tryz.prog) (w := putRow enc8 (Sort.ahead w m) g 0 zs.toArray.reverse) ⟨g, 0, none⟩ (zs.reverse.map enc8) (by
    intro j u hj
    have hjl : j < zs.length := by
     have := (List.getElem?_eq_some_iff.1 hj).1
     simpa using this
    have := cell?_putRow enc8 (Sort.ahead w m) g 0 zs.toArray zs.toArray.reverse (holds_ahead enc8 w m g 0 _ hH) (by simp) j (by simpa using hjl)
    rw [show (⟨g, 0, none⟩ : Addr).add j = ⟨g, 0 + j, none⟩ from (by simp [Addr.add]; try omega), this, ← hj]
    simp [hjl])
   have hl2 : (loadCells ⟨g, 0, none⟩ n).run Tryz.prog (putRow enc8 (Sort.ahead w m) g 0 zs.toArray.reverse) = .ok ((zs.reverse.map (Value.int .u8)).toArray) (putRow enc8 (Sort.ahead w m) g 0 zs.toArray.reverse) := by
    rw [← hlen]
    simpa using hl
   rw [run_bytesToString _ _ _ _ _ hl2, foldl_push_bytes]
   simp [bys]
end Go.Proofs.YtoijlbcbbblbfaaGreatDoor
