/- gussetlaw03.RatNear: for every input the law returns true, and each argument reads afterwards as it read before. The tables of unicode/utf8 hold what the program's text lays. -/
import Derived.Test.YtoijlbcbbblbfaaGreatDoorZzVG
import Derived.Test.YtoijlbcbbblbfaaGreatDoorCards
import Derived.Test.YtoijlbcbbblbfaaGreatDoorTie
import Derived.WalkKit
import Derived.ProofKit
import Derived.OpenShut
import Derived.Deep.DeepHandedRow
import Derived.Carry
import Derived.Lib.SmallJoins
import Derived.Lib.LaidIn
import Derived.Lib.LaidTab
import Derived.Lib.LaidU8
import Derived.Deep.DeepWitnessRowRef
import Derived.ShutString
namespace Go.Proofs.YtoijlbcbbblbfaaGreatDoor.ratNear
open Go.ChangeShapes Go.WideShapes Go.ChangeAt Go.RowKit
open Go.ChangeMaps (open_string shut_string)
set_option linter.unusedVariables false
theorem own : ownKnob Tryz.prog.godebug = none := by kernel_rfl
theorem laidOut : laidOutB Tryz.prog = true := by kernel_rfl
theorem cellsR : Tryz.prog.cellsOf 27 = 3 := by kernel_rfl
theorem cellsI2 : Tryz.prog.cellsOf 24 = 2 := by kernel_rfl
theorem cellsN : Tryz.prog.cellsOf 22 = 1 := by kernel_rfl
theorem cellsB : Tryz.prog.cellsOf 4 = 1 := by kernel_rfl
set_option maxRecDepth 100000 in
theorem open_rat {H : Type} {enc : TypeId × Value → H} {W : World} {base : Nat} {v : Value} {d : DataW H} {ps : List MemPlace} (hv : Value.okWide Tryz.prog W .any base 27 v) (h : DataW.Trod enc Tryz.prog W 0 (fun _ => true) true 27 v d ps) : ∃ x : Bool × ByteArray × ByteArray, v = .agg #[.bool x.1, .string x.2.1, .string x.2.2] := by
 obtain ⟨cs, rfl, hsz⟩ := okWide_struct Tryz.underlying27 hv
 obtain ⟨c0, c1, c2, rfl⟩ := Joins.array3 (hsz.trans cellsR)
 obtain ⟨fuel, hf⟩ := h
 obtain ⟨y0, y1, n, -, -, h0, h1⟩ := trod_struct2 Tryz.underlying27 hf
 have h2 : DataW.trod enc Tryz.prog W 0 (fun _ => true) true n 24 [c0, c1] = some y0 := by simpa [Value.cells, cellsI2] using h0
 have h3 : DataW.trod enc Tryz.prog W 0 (fun _ => true) true n 22 [c2] = some y1 := by simpa [Value.cells, cellsN] using h1
 obtain ⟨z0, z1, m, -, -, g0, g1⟩ := trod_struct2 Tryz.underlying24 h2
 have g2 : DataW.trod enc Tryz.prog W 0 (fun _ => true) true m 4 [c0] = some z0 := by simpa [cellsB] using g0
 have g3 : DataW.trod enc Tryz.prog W 0 (fun _ => true) true m 22 [c1] = some z1 := by simpa [cellsN] using g1
 obtain ⟨b, hb, -⟩ := DataW.trod_bool Tryz.underlying4 g2
 obtain ⟨s, hs, -⟩ := DataW.trod_string Tryz.underlying22 g3
 obtain ⟨s2, hs2, -⟩ := DataW.trod_string Tryz.underlying22 h3
 obtain rfl : c0 = .bool b := by simpa using hb
 obtain rfl : c1 = .string s := by simpa using hs
 obtain rfl : c2 = .string s2 := by simpa using hs2
 exact ⟨(b, s, s2), rfl⟩
set_option maxRecDepth 100000 in
set_option maxHeartbeats 1000000 in
theorem contract (H : Type) (enc : TypeId × Value → H) (W : World) (base : Nat) (args : Array Value) (ds gs : List (DataW H)) {before : List MemPlace}
  (hval : ∀ (j : Nat) t v, Tryz.f5.params[j]? = some t → args[j]? = some v → Value.okWide Tryz.prog W .any base t v)
  (hW : DataW.Whole enc Tryz.prog Tryz.f5.params.toList Rows.ratNearSpec.vars false W args.toList ds gs before) :
  Calls Tryz.prog 5 args W fun e W' => ∃ v, e = .returned v ∧ Rows.ratNearSpec.post enc Tryz.prog Tryz.f5 false true false false W args v W' := by
 have hW' := hW
 obtain ⟨p, q, hA0, hV, rfl, hfz, hnd⟩ := hW
 have hA : DataW.TrodAll enc Tryz.prog W 0 (fun _ => true) true Tryz.f5.params.toList args.toList ds p := hA0
 rw [Tryz.params5] at hA hval
 obtain ⟨v0, vs0, d0, ds0, p0, q0, hargs, rfl, rfl, h0, r0⟩ := trodAll_cons hA
 obtain ⟨v1, vs1, d1, ds1, p1, q1, rfl, rfl, rfl, h1, r1⟩ := trodAll_cons r0
 obtain ⟨rfl, rfl, rfl⟩ := trodAll_nil r1
 obtain rfl : args = #[v0, v1] := by cases args; simp_all
 obtain ⟨rfl, rfl⟩ := trodVars_none hV
 clear hA0
 have lt0 : ∀ x ∈ p0, x.block < W.heap.size := by obtain ⟨m, hm⟩ := h0; exact DataW.trod_lt m _ _ _ hm
 obtain ⟨a0, rfl⟩ := open_rat (hval 0 27 v0 rfl rfl) h0
 have lt1 : ∀ x ∈ p1, x.block < W.heap.size := by obtain ⟨m, hm⟩ := h1; exact DataW.trod_lt m _ _ _ hm
 obtain ⟨a1, hs1, -, -, wf1⟩ := open_int Tryz.underlying3 (hval 1 3 v1 rfl rfl) h1
 subst hs1
 refine (ratNear_c a0 a1 wf1 W).mono fun e W' ⟨he, bel⟩ => ?_
 subst he
 exact ⟨_, rfl, _, _, _, [], _, [], hW', trodAll_mk1 (shut_bool Tryz.underlying4 _), (trodAll_cons_mk (Below.trod laidOut (by kernel_rfl) (of_decide_eq_true (by kernel_rfl)) h0 bel lt0) (trodAll_cons_mk (Below.trod laidOut (by kernel_rfl) (of_decide_eq_true (by kernel_rfl)) h1 bel lt1) trodAll_mk0)), rfl, bel.frame _, fun h => by cases h⟩

noncomputable def laidWorld (os : Os) : World :=
 let w0 := World.holding Tryz.prog os ⟨#[], #[], []⟩
 let put (h : Array Obj) (g : Nat) (cs : Array Value) : Array Obj := h.modify g fun
  | .cells _ t frozen => .cells cs t frozen
  | o => o
 let h1 := put w0.heap 3 (Lib.firstTab.map fun z => Value.int .u8 z).toArray
 let h2 := put h1 4 ((List.range 16).flatMap fun i => [Value.int .u8 (Lib.accLo i), Value.int .u8 (Lib.accHi i)]).toArray
 { w0 with heap := h2 }
theorem laid_met (os : Os) : laidMet Tryz.prog Rows.ratNearRow.laid ((laidWorld os).forCall (fun _ _ => 0) ⟨#[], #[.agg #[.bool false, .string ⟨#[]⟩, .string ⟨#[]⟩], .int .i64 0], []⟩).memory :=
 laidMet_of_run' 8 (by kernel_rfl) (by kernel_rfl)
theorem reads (os : Os) {H : Type} (enc : TypeId × Value → H) : ∃ ds gs places, DataW.whole enc Tryz.prog ((laidWorld os).forCall (fun _ _ => 0) ⟨#[], #[.agg #[.bool false, .string ⟨#[]⟩, .string ⟨#[]⟩], .int .i64 0], []⟩).memory Tryz.f5.params.toList Rows.ratNearSpec.vars false (#[.agg #[.bool false, .string ⟨#[]⟩, .string ⟨#[]⟩], .int .i64 0] : Array Value).toList 8 = some (ds, gs, places) := by
 exact ⟨[.agg [.agg [.lit (.bool false), .lit (.string [])], .lit (.string [])], .lit (.int .i64 0)], [], [], by kernel_rfl⟩
set_option maxRecDepth 100000 in
theorem lifted (os : Os) (started : os.Started) (H : Type) (enc : TypeId × Value → H) (F : Stop.Interp) :
  ReturnsInHanded {} Tryz.checked os 5 .any ((OpenSpec.ofChange Rows.ratNearSpec).preRow enc Tryz.prog Tryz.f5 Rows.ratNearRow.domain false Rows.ratNearRow.laid) (((OpenSpec.ofChange Rows.ratNearSpec).at F).post enc Tryz.prog Tryz.f5 false true false false) := by
 obtain ⟨ds0, gs0, places, hx⟩ := reads os enc
 refine returnsInHanded_of_row (C := Tryz.checked) (s := OpenSpec.ofChange Rows.ratNearSpec) own started (by kernel_rfl) Tryz.func5
  (witness_row_at (enc := enc) (C := Tryz.checked) false (laidWorld os) #[.agg #[.bool false, .string ⟨#[]⟩, .string ⟨#[]⟩], .int .i64 0] rfl (by kernel_rfl) (by kernel_rfl) (by kernel_rfl)
   (OpenSpec.preRow_of_cond 8 hx (by kernel_rfl) (fun k hk => by cases hk) (by kernel_rfl) (laid_met os))) ?_
 intro W base args ds gs before hval hW _ _ _ hL _ _
 exact contract H enc W base args ds gs hval hW
set_option maxRecDepth 100000 in
theorem said : Rows.RatNearSaid :=
 OpenClaim.holds_of_cond 5 Tryz.f5 rfl rfl rfl rfl rfl rfl rfl ⟨rfl, rfl, rfl, rfl, rfl⟩ rfl rfl rfl rfl rfl (by kernel_rfl) Tryz.func5 (by kernel_rfl)
  (of_decide_eq_true (by kernel_rfl)) (by unfold Func.isWrapper; first | (rw [if_pos (by decide +kernel)]; kernel_rfl) | (rw [if_neg (by decide +kernel)]; exact ⟨rfl, rfl⟩))
  (fun os started H enc _ F => by rw [OpenClaim.pre_eq_preRow]; exact lifted os started H enc F)
theorem plain (f : FuncId) (fn : Func) (hf : Tryz.pinned.checked.prog.funcNamed "gusset/gussetlaw03.RatNear" = some f) (hfn : Tryz.pinned.checked.prog.funcs[f]? = some fn) :
  false = Tryz.pinned.checked.prog.looks [] ∧ ∀ (j : Nat) t, fn.params[j]? = some t → Tryz.pinned.checked.prog.wantsStandIn t = false := by
 obtain rfl : f = 5 := Option.some.inj ((show Tryz.prog.funcNamed "gusset/gussetlaw03.RatNear" = some 5 by kernel_rfl).symm.trans hf) |>.symm
 obtain rfl : fn = Tryz.f5 := (Option.some.inj (Tryz.func5.symm.trans hfn)).symm
 refine ⟨by kernel_rfl, fun j t ht => ?_⟩
 rw [Tryz.params5] at ht
 have hm : t ∈ [27, 3] := by simpa using Array.mem_of_getElem? ht
 simp only [List.mem_cons, List.mem_nil_iff, or_false] at hm
 rcases hm with rfl | rfl
 ·exact (show Tryz.prog.wantsStandIn 27 = false by kernel_rfl)
 ·exact (show Tryz.prog.wantsStandIn 3 = false by kernel_rfl)
/-- The card of gussetlaw03.RatNear. -/
theorem card : Rows.RatNearCardSaid :=
 Claim7.holds_tied_plain_at .later [] _ _ _ _ said (fun _ h => by cases h) (by kernel_rfl) (fun _ h => by cases h) ratNear_row_tie rfl ⟨rfl, rfl⟩ (by kernel_rfl) rfl plain (by kernel_rfl)
#print axioms card
end Go.Proofs.YtoijlbcbbblbfaaGreatDoor.ratNear
