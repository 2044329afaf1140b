import Derived.Test.YtoijlbcbbblbfaaGreatDoorY2C
import Derived.Laws.AppendOwn
namespace Go.Proofs.YtoijlbcbbblbfaaGreatDoor
open Go.RowKit Num Go.Lib
set_option linter.unusedVariables false
set_option linter.unusedSimpArgs false

theorem run_append_nil_ {P : Program} (w : World) (base : Nat) (t ty e : TypeId) (i : TypeInfo) (size : Nat) (ht : P.underlying t = some (.slice e)) (hi : P.info? e = some i)
  (v : Value) (n : Nat) (xs : List Value) (hown : w.ownsRow base e size v n xs) (c : Nat) : (Builtin.append_ #[t, t] ty #[v, .slice none 0 c]).run P w = .ok v w := by
 rcases hown.2 with ⟨rfl, rfl⟩ | ⟨g, cap, cur, rfl, _, _, hnc, _⟩
 ·simp [Builtin.append_, run_underlying ht, sizeOf, typeInfo, hi, Builtin.lenOf, Builtin.firstCells]
 ·simp [Builtin.append_, run_underlying ht, sizeOf, typeInfo, hi, Builtin.lenOf, Builtin.firstCells, hnc, storeCells]

/-- 'append([]uint64{}, l...)'. -/
theorem run_copy (W : World) (g0 m c ty : Nat) (A : Option Addr) (l : List Int) (hg : W.heap[g0]? = some (.cells #[] 79 (0, 0))) (hl : l.length = m) (hm : m ≤ 100000) (hr : RL W A l) :
  ∃ g cap w', (Builtin.append_ #[63, 63] ty #[.slice (some ⟨g0, 0, none⟩) 0 0, .slice A m c]).run Tryz.prog W = .ok (.slice (some ⟨g, 0, none⟩) m cap) w' ∧ Blk w' g l ∧ g0 ≤ g ∧ Below g0 W w' ∧ m ≤ cap := by
 have hlt : g0 < W.heap.size := (Array.getElem?_eq_some_iff.1 hg).1
 have hown : W.ownsRow g0 79 1 (.slice (some ⟨g0, 0, none⟩) 0 0) 0 [] := ⟨rfl, .inr ⟨g0, 0, #[], rfl, Nat.le_refl _, hg, Nat.le_refl _, by simp [maxLen], rfl, rfl⟩⟩
 obtain ⟨i, hi, hzz⟩ := Option.map_eq_some_iff.1 u64_info
 simp only [Prod.mk.injEq] at hzz
 obtain ⟨hz, hs, hb⟩ := hzz
 rcases A with _ | ad
 ·have h0 : m = 0 := by
   rcases Nat.eq_zero_or_pos m with h0 | h0
   ·exact h0
   ·obtain ⟨ad, h, _⟩ := hr.2 (by omega)
    cases h
  subst h0
  refine ⟨g0, 0, W, run_append_nil_ W g0 _ _ 79 i 1 Tryz.underlying63 hi _ 0 [] hown c, ⟨#[], hg, by simp [hl], fun j hj => by omega⟩, Nat.le_refl _, Below.refl _ _, Nat.le_refl _⟩
 ·have hcells : ∀ j u, (l.map (Value.int .u64))[j]? = some u → W.cell? (ad.add j) = some u := by
   intro j u hu
   rw [List.getElem?_map] at hu
   obtain ⟨x, hx, rfl⟩ := Option.map_eq_some_iff.1 hu
   have hj : j < l.length := (List.getElem?_eq_some_iff.1 hx).1
   obtain ⟨ad', h, hc⟩ := hr.2 (by omega)
   cases h
   rw [hc j hj]
   unfold lg
   rw [List.getD_eq_getElem?_getD, hx]
   rfl
  obtain ⟨v', w', hrun, h2, h3, h4⟩ := run_append_own (P := Tryz.prog) W g0 63 ty 79 i (.int .u64 0) 1 8 Tryz.underlying63 hi hz hs hb rfl (by omega) _ 0 [] hown ad m c (l.map (Value.int .u64)) (by simp [hl]) hcells (by
   intro u hu
   obtain ⟨x, _, rfl⟩ := List.mem_map.1 hu
   rfl) (by simp only [maxLen]; omega) (by omega) (by omega)
  rcases h2.2 with ⟨e, _⟩ | ⟨g, cap, cur, rfl, hbg, hh, hnc, hcm, hcs, htk⟩
  ·have := (h4.1 e).1
   cases this
  ·rw [Nat.zero_add] at *
   refine ⟨g, cap, w', hrun, ⟨cur, hh, by omega, fun j hj => ?_⟩, hbg, ?_, hnc⟩
   ·have hq : (cur.toList.take (m * 1))[j]? = (l.map (Value.int .u64))[j]? := by rw [htk]; rfl
    rw [List.getElem?_take, if_pos (by omega), List.getElem?_map, List.getElem?_eq_getElem hj] at hq
    rw [← Array.getElem?_toList, hq]
    unfold lg
    rw [List.getD_eq_getElem?_getD, List.getElem?_eq_getElem hj]
    rfl
   ·exact ⟨h3.os, h3.tape, h3.output, h3.size, fun k hk => h3.block k (by omega) (fun e => by simp [Value.ownBlock] at e; omega)⟩
theorem wp_copy {ops : Array Oper} {rest : List Oper} {o : Oper} {a : Act} {Q : Exit → Act → World → Prop} (hgd : o.guard = none) (s x : Operand)
  (ho : o.op = .call { callee := .builtin .append, args := #[s, x], argTypes := #[63, 63] })
  (W : World) (g0 m c : Nat) (A : Option Addr) (l : List Int) (hs : a.eval s = .slice (some ⟨g0, 0, none⟩) 0 0) (hx : a.eval x = .slice A m c)
  (hg : W.heap[g0]? = some (.cells #[] 79 (0, 0))) (hl : l.length = m) (hm : m ≤ 100000) (hr : RL W A l)
  (h : ∀ g cap w', Blk w' g l → g0 ≤ g → Below g0 W w' → m ≤ cap → wpList Tryz.prog ops Q rest (a.put o.dst (.slice (some ⟨g, 0, none⟩) m cap)) w') : wpList Tryz.prog ops Q (o :: rest) a W :=
 wpList_plain hgd fun K hK => by
  obtain ⟨g, cap, w', hrun, h1, h2, h3, h4⟩ := run_copy W g0 m c o.type A l hg hl hm hr
  unfold Oper.wp execOp
  simp only [ho, resolve, invoke, builtin, Sem.run_bind, Sem.run_pure, Result.andThen_ok, List.map_toArray, List.map_cons, List.map_nil, hs, hx, hrun]
  exact hK _ _ (h g cap w' h1 h2 h3 h4)

theorem alloc_last (W : World) (o : Obj) (g : Nat) (hg : g = W.heap.size) : (W.alloc o).heap[g]? = some o := by
 subst hg
 show (W.heap.push o)[W.heap.size]? = _
 rw [Array.getElem?_push_size]
def SubP (a b : List Int) (w : World) (e : Ending) (w' : World) : Prop := (lv b ≤ lv a → ResP (lv a - lv b) w e w') ∧ (lv a < lv b → e = .returned (.tuple #[.slice none 0 0, .int .i64 2]) ∧ Below w.heap.size w w')

set_option maxHeartbeats 1000000 in
theorem sub_c (A0 A1 : Option Addr) (n m c0 c1 : Nat) (a b : List Int) (hn : a.length = n) (hm : b.length = m) (hn4 : n ≤ 4000) (hm4 : m ≤ 4000) (hc0 : n ≤ c0) (hc1 : m ≤ c1) (w : World) (ha : RL w A0 a) (hb : RL w A1 b) (hla : Lim a) (hlb : Lim b) :
  Calls Tryz.prog 125 #[.slice A0 n c0, .slice A1 m c1] w (SubP a b w) := by
 have hb0 : Below w.heap.size w (w.alloc (.cells #[.slice A0 n c0, .slice A1 m c1] 63)) := (Below.refl _ _).alloc (Nat.le_refl _) _
 have HA1 := Lib.hid (ha.below hb0 (Nat.le_refl _))
 have HB1 := Lib.hid (hb.below hb0 (Nat.le_refl _))
 have HN := Lib.hid hn
 have HM := Lib.hid hm
 have hord := ordL_val (hla.take (trimN a a.length)) (hlb.take (trimN b b.length)) (Tr_trim a) (Tr_trim b)
 rw [lv_trim, lv_trim, take_trim_len, take_trim_len, hn, hm] at hord
 have hva := Lib.hid (lv_trim a)
 have hvb := Lib.hid (lv_trim b)
 have hpl := take_trim_len a
 have hql := take_trim_len b
 rw [hn] at hva hpl
 rw [hm] at hvb hql
 have HP := Lib.hid hpl
 have HQ := Lib.hid hql
 have hp4 := trimN_le a n
 have hq4 := trimN_le b m
 have HLA := Lib.hid (hla.take (trimN a n))
 have HLB := Lib.hid (hlb.take (trimN b m))
 generalize hx : a.take (trimN a n) = x at *
 generalize hy : b.take (trimN b m) = y at *
 have HYE := Lib.hid hy
 have HX := Lib.hid (show RL _ A0 x from hx ▸ HA1.out.take _)
 have HY := Lib.hid (show RL _ A1 y from hy ▸ HB1.out.take _)
 have HS := Lib.hid hb0
 clear ha hb hn hm hla hlb hpl hql hx hy hb0
 by_cases hlt : lv a < lv b
 ·rw [cmpI_lt hlt] at hord
  have HO := Lib.hid hord
  have HLT := Lib.hid hlt
  clear hord hlt
  go_enter Tryz.func125, Tryz.ntmps125
  go_wp2_with fail
  refine (long2 _ _ _ _ _ _ _ hn4 hm4).mono ?_
  rintro e w' ⟨rfl, rfl⟩
  go_wp2_with fail
  refine (trimmed_c _ _ _ a HN.out hc0 _ HA1.out).mono ?_
  rintro e w5 ⟨rfl, ⟨nd, rfl⟩⟩
  go_wp2_with fail
  refine (trimmed_c _ _ _ b HM.out hc1 _ (HB1.out.drN _)).mono ?_
  rintro e w5 ⟨rfl, ⟨nd2, rfl⟩⟩
  go_wp2_with fail
  refine (order_c _ _ _ _ _ _ x y HP.out HQ.out _ (HX.out.drN _) (HY.out.drN _)).mono ?_
  rintro e w5 ⟨rfl, ⟨nd3, rfl⟩⟩
  rw [HO.out]
  go_wp2
  go_ret2
  exact ⟨fun h => by have := HLT.out; omega, fun _ => ⟨rfl, bdrN HS.out _⟩⟩
 ·have h1 : decide (cmpI (lv a) (lv b) < 0) = false := by
   rcases cmpI_cases (lv a) (lv b) with ⟨h, hc⟩ | ⟨h, hc⟩ | ⟨h, hc⟩ <;> rw [hc] <;> first | rfl | omega
  rw [← hord] at h1
  have hpq : trimN b m ≤ trimN a n := by
   rw [← HP.out, ← HQ.out]
   apply Nat.le_of_not_lt
   intro hgt
   have hy : Tr y := by rw [← HYE.out, ← HM.out]; exact Tr_trim b
   have := lv_lt_of_len HLA.out HLB.out hy hgt
   rw [hva.out, hvb.out] at this
   omega
  have HLT := Lib.hid (show lv y ≤ lv x by rw [hva.out, hvb.out]; omega)
  have HO := Lib.hid hord
  clear hord hlt
  go_enter Tryz.func125, Tryz.ntmps125
  go_wp2_with fail
  refine (long2 _ _ _ _ _ _ _ hn4 hm4).mono ?_
  rintro e w' ⟨rfl, rfl⟩
  go_wp2_with fail
  refine (trimmed_c _ _ _ a HN.out hc0 _ HA1.out).mono ?_
  rintro e w5 ⟨rfl, ⟨nd, rfl⟩⟩
  go_wp2_with fail
  refine (trimmed_c _ _ _ b HM.out hc1 _ (HB1.out.drN _)).mono ?_
  rintro e w5 ⟨rfl, ⟨nd2, rfl⟩⟩
  go_wp2_with fail
  refine (order_c _ _ _ _ _ _ x y HP.out HQ.out _ (HX.out.drN _) (HY.out.drN _)).mono ?_
  rintro e w5 ⟨rfl, ⟨nd3, rfl⟩⟩
  go_wp2_with (at_builtin; go_must (refine wp_copy rfl (.tmp 19) (.tmp 20) rfl _ (w.heap.size + 1) (trimN a n) (trimN a n) A0 x rfl rfl ?_ HP.out (by omega) ?_ ?_); go_must (exact alloc_last _ _ _ (by simp)); go_must (exact (HX.out.drN _).below ((Below.refl _ _).alloc (Nat.le_refl _) _) (Nat.le_refl _)); intro g cap w2 hk hg hb2 hcap)
  have hb3 : Below (w.heap.size + 1) ((w.alloc (.cells #[.slice A0 n c0, .slice A1 m c1] 63)).drewN (nd + nd2 + nd3)) w2 := ((Below.refl _ _).alloc (by simp) _).trans hb2
  have hy2 := (HY.out.drN (nd + nd2 + nd3)).below hb3 (by simp)
  have hy3 : 0 < y.length → ∀ ad, A1 = some ad → ad.block ≠ g := fun h ad e => by
   have := (HY.out.drN (nd + nd2 + nd3)).lt h ad e
   simp at this
   omega
  refine (take_c g 0 _ _ x A1 _ _ y HQ.out _ hk HLA.out (by rw [HP.out]; omega) (by omega) hy2 HLB.out hy3).mono ?_
  rintro e w6 ⟨L', bb, rfl, hk6, hlen6, hlim6, _, hbit, hval, honly⟩
  have hfin := take_end (n := trimN a n) (by rw [hlen6]; exact HP.out) hlim6 HLA.out HP.out HLB.out (by rw [HQ.out]; exact hpq) hbit HLT.out (by rw [HQ.out]; exact hval)
  rw [hva.out, hvb.out] at hfin
  have HF := Lib.hid hfin
  have HK := Lib.hid (hk6.RL (by rw [hlen6, HP.out]; omega))
  have HL6 := Lib.hid (hlen6.trans HP.out)
  have HLim := Lib.hid hlim6
  have hbw : Below w.heap.size w w6 := Only.below ((bdrN HS.out _).trans (hb3.mono (by omega))) honly (by omega)
  clear hfin hk6 hlen6 hlim6 hval hbit hy2 hy3 hk honly
  have HBW := Lib.hid hbw
  clear hbw
  go_wp2_with fail
  refine (trimmed_c _ _ _ L' HL6.out (by omega) _ HK.out).mono ?_
  rintro e w7 ⟨rfl, ⟨nd7, rfl⟩⟩
  go_wp2
  go_ret2
  exact ⟨fun _ => resP_end HL6.out HK.out HLim.out HF.out HBW.out, fun h => by have := HLT.out; rw [hva.out, hvb.out] at this; omega⟩

structure MulI (g N m : Nat) (a b : List Int) (w : World) (k : Nat) (L' : List Int) (w1 : World) : Prop where
 blk : Blk w1 g L'
 len : L'.length = N
 lim : Lim L'
 zero : ∀ j, k + m ≤ j → lg L' j = 0
 val : win L' 0 (k + m) = sumB (lg a) k * lv b
 only : Only g w w1
theorem Only.trans {g : Nat} {a b c : World} (h : Only g a b) (k : Only g b c) : Only g a c :=
 ⟨k.os.trans h.os, k.tape.trans h.tape, k.output.trans h.output, k.size.trans h.size, fun i hi => (k.block i hi).trans (h.block i hi)⟩

set_option maxHeartbeats 1000000 in
theorem mul_c (A0 A1 : Option Addr) (n m c0 c1 : Nat) (a b : List Int) (hn : a.length = n) (hm : b.length = m) (hn4 : n ≤ 4000) (hm4 : m ≤ 4000) (w : World) (ha : RL w A0 a) (hb : RL w A1 b) (hla : Lim a) (hlb : Lim b) :
  Calls Tryz.prog 89 #[.slice A0 n c0, .slice A1 m c1] w (ResP (lv a * lv b) w) := by
 have hb0 : Below w.heap.size w (w.alloc (.cells #[.slice A0 n c0, .slice A1 m c1] 63)) := (Below.refl _ _).alloc (Nat.le_refl _) _
 have ha1 := ha.below hb0 (Nat.le_refl _)
 have hb1 := hb.below hb0 (Nat.le_refl _)
 have hmk := make_run (n + m) (by omega)
 rw [show ((n + m : Nat) : Int) = (n : Int) + (m : Int) by omega] at hmk
 have HN := Lib.hid hn
 have HM := Lib.hid hm
 have HLA := Lib.hid hla
 have HLB := Lib.hid hlb
 have HA1 := Lib.hid ha1
 have HB1 := Lib.hid hb1
 have HS := Lib.hid hb0
 clear ha hb hn hm hla hlb hb0 ha1 hb1
 go_enter Tryz.func89, Tryz.ntmps89
 go_wp2_with (go_at_call 106; refine (long2 _ _ _ _ _ _ _ hn4 hm4).mono ?_; rintro e w' ⟨rfl, rfl⟩)
 have hb1 : Below (w.heap.size + 1) (w.alloc (.cells #[.slice A0 n c0, .slice A1 m c1] 63)) ((w.alloc (.cells #[.slice A0 n c0, .slice A1 m c1] 63)).alloc (.cells (madeCells #[.int .u64 0] (n + m)) 79)) := (Below.refl _ _).alloc (by simp) _
 have hk0 := made_blk (w.alloc (.cells #[.slice A0 n c0, .slice A1 m c1] 63)) (n + m)
 rw [show (w.alloc (.cells #[.slice A0 n c0, .slice A1 m c1] 63)).heap.size = w.heap.size + 1 by simp] at hk0
 have hx1 := HA1.out.below hb1 (by simp)
 have hy1 := HB1.out.below hb1 (by simp)
 have hax : 0 < a.length → ∀ ad, A0 = some ad → ad.block ≠ w.heap.size + 1 := fun h ad e => Nat.ne_of_lt (by have := HA1.out.lt h ad e; simpa using this)
 have hbx : 0 < b.length → ∀ ad, A1 = some ad → ad.block ≠ w.heap.size + 1 := fun h ad e => Nat.ne_of_lt (by have := HB1.out.lt h ad e; simpa using this)
 have hbw := HS.out.trans (hb1.mono (by omega))
 generalize hw3 : (w.alloc (.cells #[.slice A0 n c0, .slice A1 m c1] 63)).alloc (.cells (madeCells #[.int .u64 0] (n + m)) 79) = w3 at *
 have HG : w.heap.size ≤ w.heap.size + 1 := by omega
 generalize w.heap.size + 1 = g at *
 have HI0 := Lib.hid (show MulI g (n + m) m a b w3 0 (List.replicate (n + m) 0) w3 from ⟨hk0, by simp, Lim_zero _, fun j _ => lg_replicate _ _, by
  have : win (List.replicate (n + m) 0) 0 (0 + m) = 0 := sumB_zero (m := 0) (by omega) fun j _ _ => lg_replicate _ _
  rw [this]; simp [sumB], Only.refl _ _⟩)
 have HX := Lib.hid hx1
 have HY := Lib.hid hy1
 have HAX := Lib.hid hax
 have HBX := Lib.hid hbx
 have HBW := Lib.hid hbw
 clear hk0 hx1 hy1 hax hbx hbw hb1 hw3 hmk
 go_loopw [7, 8, 21] (fun _ _ t w4 => ∃ (k : Nat) (L' : List Int), k ≤ n ∧ t = .int .i64 k ∧ MulI g (n + m) m a b w3 k L' w4) (fun _ _ t _ => n - (intOf t).toNat)
 case atStart => exact ⟨0, _, Nat.zero_le _, rfl, HI0.out⟩
 case round =>
  obtain ⟨k, L', hk, rfl, hI⟩ := hrel
  by_cases hlt : k < n
  ·have h1 : decide ((k : Int) < (n : Int)) = true := by simp; omega
   obtain ⟨ad, rfl, hcl⟩ := (HX.out.only hI.only HAX.out).2 (by have := HN.out; omega)
   have hc2 := hcl k (by have := HN.out; omega)
   have hY2 := Lib.hid (HY.out.only hI.only HBX.out)
   have HI := Lib.hid hI
   clear hI hcl
   go_wp2_with fail
   refine (addProduct_c g k m _ L' A1 _ b (lg a k) HM.out _ HI.out.blk HI.out.lim (by rw [HI.out.len]; omega) hY2.out HLB.out HBX.out (HLA.out k)).mono ?_
   rintro e w5 ⟨L2, c, rfl, hk5, hlen5, hlim5, hfar5, hcc, hval5, honly5⟩
   have hv : win L2 k m + c * B ^ m = win L' k m + lg a k * lv b := by
    rw [hval5, ← HM.out]; rfl
   have hst := mul_step (L' := L') hlen5 (by rw [HI.out.len]; omega) hlim5 hfar5 HI.out.zero hcc hv HI.out.val
   have hce := hk5.cell (k + m) (by rw [hlen5, HI.out.len]; omega)
   have hfr := hk5.free (k + m)
   have HST := Lib.hid hst
   have H5 := Lib.hid (And.intro hk5 (And.intro (hlen5.trans HI.out.len) (HI.out.only.trans honly5)))
   clear hst hk5 hlen5 hlim5 hfar5 hcc hval5 honly5 hv
   go_wp2
   obtain ⟨s1, s2, s3⟩ := HST.out
   obtain ⟨t1, t2, t3⟩ := H5.out
   exact ⟨⟨k + 1, _, by omega, by go_num, ⟨t1.set _ _, by rw [List.length_set]; exact t2, s1, s2, s3, t3.set _ _⟩⟩, by simp [intOf]; omega⟩
  ·have he : k = n := by omega
   subst he
   have h1 : decide ((k : Int) < (k : Int)) = false := by simp
   have hlv : lv L' = lv a * lv b := by
    have h2 := hI.val
    have h3 := hI.len
    rw [← h3, win_zero] at h2
    rw [h2]
    unfold lv
    rw [HN.out]
   have HF := Lib.hid hlv
   have HR := Lib.hid (hI.blk.RL (by rw [hI.len]; omega))
   have HI := Lib.hid hI
   clear hI hlv
   go_wp2_with fail
   refine (trimmed_c _ _ _ L' HI.out.len (by omega) _ HR.out).mono ?_
   rintro e w7 ⟨rfl, ⟨nd7, rfl⟩⟩
   go_wp2
   go_ret2
   exact resP_end HI.out.len HR.out HI.out.lim HF.out (Only.below HBW.out HI.out.only HG)
end Go.Proofs.YtoijlbcbbblbfaaGreatDoor
