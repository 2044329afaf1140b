import Derived.Test.YtfcjnhkkfmgmpaaGreatZsG43
set_option linter.all false
set_option maxRecDepth 100000
set_option maxHeartbeats 8000000
namespace Go.Proofs.YtfcjnhkkfmgmpaaGreat
open Go.RowKit aR Go.Proofs.aC.R Go.Proofs.aC.Z Go.Proofs.aD.bf
theorem OM.of {w0 w3:World} {b:Nat} {v0 v1 v2:Value} {ps:PS} {zs:List Int} {n1:Nat} {ss:SS} {cs0 lK:List Value} (r0:bk (dF.K w0) 6 ps cs0) (r2:bk (qQ.K w0) 3 ss lK) (hb:Below w0.heap.size w0 w3)
  (h0:w3.ownsRow b 42 6 v0 ps.length cs0) (h1:w3.ownsRow b 61 3 v1 n1 (mh zs)) (h2:w3.ownsRow b 55 3 v2 ss.length lK):OM w3 b v0 v1 v2 ps zs n1 ss :=
 ⟨⟨cs0,r0.j4 (fun _ _ hp=>dF.oQ hb hp),h0⟩,h1,⟨lK,r2.j4 (fun _ _ hp=>qQ.oQ hb hp),h2⟩⟩
structure CI (g r o:Nat) (w:World) (m x y:Array Value) (W:World):Prop where
 below:Below g w W
 bm:aM (W.heap[g]?=some (.cells m 26 (0,0)))
 br:aM (W.heap[r]?=some (.cells x 26 (0,0)))
 bo:aM (W.heap[o]?=some (.cells y 26 (0,0)))
theorem CI.gr {g r o:Nat} {w:World} {m x y:Array Value} {W W':World} (h:CI g r o w m x y W) (hg:W.grownBy W' none):CI g r o w m x y W' :=
 ⟨h.below.grown hg (Nat.le_of_lt (fJ h.bm.out)) (fun k hk=>by cases hk),⟨(hg.block _ (fJ h.bm.out) (by simp)).trans h.bm.out⟩,⟨(hg.block _ (fJ h.br.out) (by simp)).trans h.br.out⟩,⟨(hg.block _ (fJ h.bo.out) (by simp)).trans h.bo.out⟩⟩
theorem CI.st {g r o:Nat} {w:World} {m x y:Array Value} {W:World} (h:CI g r o w m x y W) (h1:g<o) (h2:r≠o) (i:Nat) (u:Value):CI g r o w m x (y.setIfInBounds i u) (W.setCell ⟨o,i,none⟩ u) :=
 ⟨h.below.setCell (Nat.le_of_lt h1) u,⟨Go.Proofs.aD.bf.dz h.bm.out (p:=⟨o,i,none⟩) (by simp;omega) u⟩,⟨Go.Proofs.aD.bf.dz h.br.out (p:=⟨o,i,none⟩) h2 u⟩,⟨su h.bo.out i u⟩⟩
theorem CI.ret {g r o:Nat} {w:World} {m y:Array Value} {x0 x1 x2:Value} {W:World} (h:CI g r o w m #[x0,x1,x2] y W) (h1:g<r) (a b c:Value) :
  (((W.setCell ⟨r,0,none⟩ a).setCell ⟨r,1,none⟩ b).setCell ⟨r,2,none⟩ c).heap[r]?=some (.cells #[a,b,c] 26 (0,0))∧Below g w (((W.setCell ⟨r,0,none⟩ a).setCell ⟨r,1,none⟩ b).setCell ⟨r,2,none⟩ c) :=
 ⟨su (su (su h.br.out 0 a) 1 b) 2 c,((h.below.setCell (p:=⟨r,0,none⟩) (Nat.le_of_lt h1) a).setCell (p:=⟨r,1,none⟩) (Nat.le_of_lt h1) b).setCell (p:=⟨r,2,none⟩) (Nat.le_of_lt h1) c⟩
theorem xK {w:World} {b:Nat} {e:TypeId} {size n:Nat} {v:Value} {cs:List Value} (h:w.ownsRow b e size v n cs) {r:Nat} (hp:r<b) (x y z:Value):(((w.setCell ⟨r,0,none⟩ x).setCell ⟨r,1,none⟩ y).setCell ⟨r,2,none⟩ z).ownsRow b e size v n cs :=
 xU (p:=⟨r,2,none⟩) (xU (p:=⟨r,1,none⟩) (xU (p:=⟨r,0,none⟩) h hp x) hp y) hp z
abbrev fM:Array Value:=#[.slice none 0 0,.slice none 0 0,.slice none 0 0]
theorem aaf (A0 A1 A2:Option Addr) (c0 n1 c1 c2:Nat) (ps:PS) (zs:List Int) (ss:SS) (w:World) (hA:mZ w A0 A1 A2 c0 c2 ps zs n1 ss) (hz:zs.length=3*n1) (hl:ps.length≤1000∧n1≤1000∧ss.length≤2000) :
  Calls Tryz.prog 9 #[.agg #[.slice A0 ps.length c0,.slice A1 n1 c1,.slice A2 ss.length c2]] w fun e w'=>∃ v0 v1 v2,e = .returned (.agg #[v0,v1,v2])∧OM w' w.heap.size v0 v1 v2 ps zs n1 ss∧Below w.heap.size w w':=by
 obtain⟨n0,hn0⟩:∃ n,ps.length=n:=⟨_,rfl⟩
 obtain⟨n2,hn2⟩:∃ n,ss.length=n:=⟨_,rfl⟩
 have HI:=qh (show CI w.heap.size (w.heap.size+1) (w.heap.size+1+1) w #[.slice A0 n0 c0,.slice A1 n1 c1,.slice A2 n2 c2] fM fM (((w.alloc (.cells #[.slice A0 n0 c0,.slice A1 n1 c1,.slice A2 n2 c2] 26)).alloc (.cells fM 26)).alloc (.cells fM 26)) from
  ⟨(((Below.refl _ _).alloc (Nat.le_refl _) _).alloc (by simp) _).alloc (by simp;omega) _,⟨aF (aF (jq _ _) _) _⟩,⟨by have:=aF (jq (w.alloc (.cells #[.slice A0 n0 c0,.slice A1 n1 c1,.slice A2 n2 c2] 26)) (.cells fM 26)) (.cells fM 26);simpa using this⟩,⟨by have:=jq ((w.alloc (.cells #[.slice A0 n0 c0,.slice A1 n1 c1,.slice A2 n2 c2] 26)).alloc (.cells fM 26)) (.cells fM 26);simpa using this⟩⟩)
 obtain⟨cs0,dL,hc0⟩:=MF hA.p;obtain⟨lK,hr2,hc2⟩:=MF hA.s;have hc1:=IR.cr (n:=n1) hA.t hz (by omega);have L0:=qh dL.1;have L2:=qh hr2.1;rw[hn0]at hl hc0 L0
 rw[hn2]at hl hc2 L2
 have R0:=qh dL;have R2:=qh hr2;have C0:=qh hc0;have C1:=qh hc1;have C2:=qh hc2;have HL:=qh hl;have H0:=qh hn0;have H2:=qh hn2;have HZ:=qh hz;rw[hn0,hn2];clear dL hr2 hc0 hc1 hc2 hA hn0 hn2 hz hl;obtain⟨g,hg⟩:∃ g,w.heap.size=g:=⟨_,rfl⟩
 have HG:=qh hg;rw[hg]at HI
 go_enter Tryz.func9,Tryz.ntmps9
 go_wp2_with (first
  | (at_builtin;refine SC rfl (.tmp 5) (.tmp 7) 22 42 rfl (.agg #[.bool false,.string ⟨#[]⟩,.string ⟨#[]⟩,.bool false,.string ⟨#[]⟩,.string ⟨#[]⟩]) 6 80 Tryz.underlying22 (by kernel_rfl) rfl (by decide) A0 n0 c0 cs0 rfl rfl HI.out.below HG.out.symm L0.out C0.out (Mj R0.out (by decide)) (by have:=HL.out;omega) (by have:=HL.out;simp only[maxLen];omega) ?_;intro B0 d0 w1 O0 G0;have Wb:=qh (HI.out.gr G0.out);obtain⟨a0,a1,a2,a3,a4,a5⟩:=z3 Wb.out.bm;obtain⟨b0,b1,b2,b3,b4,b5⟩:=z3 Wb.out.bo)
  | (at_builtin;have n9:=qh (Wb.out.st (by omega) (by omega) 0 (.slice B0 n0 d0));refine SC rfl (.tmp 11) (.tmp 13) 23 61 rfl (.agg #[.int .i64 0,.int .i64 0,.int .i64 0]) 3 24 Tryz.underlying23 (by kernel_rfl) rfl (by decide) A1 n1 c1 (mh zs) rfl rfl n9.out.below HG.out.symm (by simp[mh,HZ.out];omega) C1.out (LR _) (by have:=HL.out;omega) (by have:=HL.out;simp only[maxLen];omega) ?_;intro B1 d1 w2 O1 G1;have tj:=qh (n9.out.gr G1.out);clear a0 a1 a2 a3 a4 a5 b0 b1 b2 b3 b4 b5;obtain⟨a0,a1,a2,a3,a4,a5⟩:=z3 tj.out.bm;obtain⟨b0,b1,b2,b3,b4,b5⟩:=z3 tj.out.bo)
  | (at_builtin;have Lk:=qh (tj.out.st (by omega) (by omega) 1 (.slice B1 n1 d1));refine SC rfl (.tmp 17) (.tmp 19) 24 55 rfl (.agg #[.int .i64 0,.int .i64 0,.bool false]) 3 24 Tryz.underlying24 (by kernel_rfl) rfl (by decide) A2 n2 c2 lK rfl rfl Lk.out.below HG.out.symm L2.out C2.out (Mj R2.out (by decide)) (by have:=HL.out;omega) (by have:=HL.out;simp only[maxLen];omega) ?_;intro B2 d2 w3 O2 G2;have Wc:=qh (Lk.out.gr G2.out);clear a0 a1 a2 a3 a4 a5 b0 b1 b2 b3 b4 b5;obtain⟨a0,a1,a2,a3,a4,a5⟩:=z3 Wc.out.br;obtain⟨b0,b1,b2,b3,b4,b5⟩:=z3 Wc.out.bo)
  | fail)
 have HI6:=Wc.out.st (by omega) (by omega) 2 (.slice B2 n2 d2);obtain⟨hres,tX⟩:=HI6.ret (by omega) (.slice B0 n0 d0) (.slice B1 n1 d1) (.slice B2 n2 d2);have P0:=xK (xU (p:=⟨g+1+1,2,none⟩) (SE (xU (p:=⟨g+1+1,1,none⟩) (SE (xU (p:=⟨g+1+1,0,none⟩) (sk O0.out (Nat.succ_le_of_lt (fJ HI.out.bo.out))) (Nat.lt_succ_self _) (.slice B0 n0 d0)) G1.out) (Nat.lt_succ_self _) (.slice B1 n1 d1)) G2.out) (Nat.lt_succ_self _) (.slice B2 n2 d2)) (r:=g+1) (by omega) (.slice B0 n0 d0) (.slice B1 n1 d1) (.slice B2 n2 d2);have P1:=xK (xU (p:=⟨g+1+1,2,none⟩) (SE (xU (p:=⟨g+1+1,1,none⟩) (sk O1.out (Nat.succ_le_of_lt (fJ n9.out.bo.out))) (Nat.lt_succ_self _) (.slice B1 n1 d1)) G2.out) (Nat.lt_succ_self _) (.slice B2 n2 d2)) (r:=g+1) (by omega) (.slice B0 n0 d0) (.slice B1 n1 d1) (.slice B2 n2 d2);have P2:=xK (xU (p:=⟨g+1+1,2,none⟩) (sk O2.out (Nat.succ_le_of_lt (fJ Lk.out.bo.out))) (Nat.lt_succ_self _) (.slice B2 n2 d2)) (r:=g+1) (by omega) (.slice B0 n0 d0) (.slice B1 n1 d1) (.slice B2 n2 d2);refine bodyPost_ret (results_cell_row rfl _ _ (g+1) 26 #[.slice B0 n0 d0,.slice B1 n1 d1,.slice B2 n2 d2] (0,0) _ rfl hres Tryz.underlying26 rfl (by kernel_rfl)) rfl ?_;rw[hg];exact⟨_,_,_,rfl,OM.of R0.out R2.out (hg ▸ tX) (by rw[H0.out];exact sk P0 (by omega)) (sk P1 (by omega)) (by rw[H2.out];exact sk P2 (by omega)),tX⟩
theorem CI.Wd {g r o:Nat} {w:World} {m x y:Array Value} {W W':World} (h:CI g r o w m x y W) {k:Nat} {c:Array Value} {t:TypeId} {f:Nat × Nat} (hg:W.grownBy W' (some k)) (hk:W.heap[k]?=some (.cells c t f)) (ht:t≠26) (pQ:g≤k):CI g r o w m x y W':=by
 have ne:∀ {q:Nat} {z:Array Value},W.heap[q]?=some (.cells z 26 (0,0))→some q≠some k:=by
  intro q z hq e;injection e with e
  subst e;rw[hk]at hq
  injection hq with hq
  injection hq with _ hq
  exact ht hq
 exact⟨h.below.grown hg (Nat.le_of_lt (fJ h.bm.out)) (fun q hq=>by injection hq with hq;omega),⟨(hg.block _ (fJ h.bm.out) (ne h.bm.out)).trans h.bm.out⟩,⟨(hg.block _ (fJ h.br.out) (ne h.br.out)).trans h.br.out⟩,⟨(hg.block _ (fJ h.bo.out) (ne h.bo.out)).trans h.bo.out⟩⟩
structure OI (g o:Nat) (w:World) (m:Array Value) (n0 n1 n2:Nat) (l0 l1 l2:List Value) (B0 B1 B2:Nat) (W:World):Prop where
 ci:CI g (g+1) o w m fM #[.slice (some ⟨B0,0,none⟩) n0 n0,.slice (some ⟨B1,0,none⟩) n1 n1,.slice (some ⟨B2,0,none⟩) n2 n2] W
 ho:g+1<o
 o0:W.ownsRow (g+2) 42 6 (.slice (some ⟨B0,0,none⟩) n0 n0) n0 l0
 o1:W.ownsRow (g+2) 61 3 (.slice (some ⟨B1,0,none⟩) n1 n1) n1 l1
 o2:W.ownsRow (g+2) 55 3 (.slice (some ⟨B2,0,none⟩) n2 n2) n2 l2
theorem IW {W:World} {b B n sz:Nat} {e:TypeId} {z:Array Value} (h:W.heap[B]?=some (.cells z e (0,0))) (hs:z.size=n*sz) (hb:b≤B) (hm:n≤2000):W.ownsRow b e sz (.slice (some ⟨B,0,none⟩) n n) n z.toList :=
 ⟨by simp[hs],.inr ⟨B,n,z,rfl,hb,h,Nat.le_refl _,by simp only[maxLen];omega,hs,List.take_of_length_le (by simp[hs])⟩⟩
theorem OI.cp0 {g o:Nat} {w:World} {m:Array Value} {n0 n1 n2:Nat} {l0 l1 l2 l:List Value} {B0 B1 B2:Nat} {W W':World} (h:OI g o w m n0 n1 n2 l0 l1 l2 B0 B1 B2 W) (O:W'.ownsRow (g+2) 42 6 (.slice (some ⟨B0,0,none⟩) n0 n0) n0 l) (G:W.grownBy W' (some B0)):OI g o w m n0 n1 n2 l l1 l2 B0 B1 B2 W':=by
 obtain⟨c,f,hc⟩:=H9 h.o0 _ rfl;have:g+2≤B0:=zz h.o0 _ rfl;exact⟨h.ci.Wd G hc (by decide) (by omega),h.ho,O,wJ h.o1 G (fun k hk=>by cases hk;exact⟨_,_,_,hc,by decide⟩),wJ h.o2 G (fun k hk=>by cases hk;exact⟨_,_,_,hc,by decide⟩)⟩
theorem OI.cp1 {g o:Nat} {w:World} {m:Array Value} {n0 n1 n2:Nat} {l0 l1 l2 l:List Value} {B0 B1 B2:Nat} {W W':World} (h:OI g o w m n0 n1 n2 l0 l1 l2 B0 B1 B2 W) (O:W'.ownsRow (g+2) 61 3 (.slice (some ⟨B1,0,none⟩) n1 n1) n1 l) (G:W.grownBy W' (some B1)):OI g o w m n0 n1 n2 l0 l l2 B0 B1 B2 W':=by
 obtain⟨c,f,hc⟩:=H9 h.o1 _ rfl;have:g+2≤B1:=zz h.o1 _ rfl;exact⟨h.ci.Wd G hc (by decide) (by omega),h.ho,wJ h.o0 G (fun k hk=>by cases hk;exact⟨_,_,_,hc,by decide⟩),O,wJ h.o2 G (fun k hk=>by cases hk;exact⟨_,_,_,hc,by decide⟩)⟩
theorem OI.cp2 {g o:Nat} {w:World} {m:Array Value} {n0 n1 n2:Nat} {l0 l1 l2 l:List Value} {B0 B1 B2:Nat} {W W':World} (h:OI g o w m n0 n1 n2 l0 l1 l2 B0 B1 B2 W) (O:W'.ownsRow (g+2) 55 3 (.slice (some ⟨B2,0,none⟩) n2 n2) n2 l) (G:W.grownBy W' (some B2)):OI g o w m n0 n1 n2 l0 l1 l B0 B1 B2 W':=by
 obtain⟨c,f,hc⟩:=H9 h.o2 _ rfl;have:g+2≤B2:=zz h.o2 _ rfl;exact⟨h.ci.Wd G hc (by decide) (by omega),h.ho,wJ h.o0 G (fun k hk=>by cases hk;exact⟨_,_,_,hc,by decide⟩),wJ h.o1 G (fun k hk=>by cases hk;exact⟨_,_,_,hc,by decide⟩),O⟩
theorem Na {w:World} {o:Obj} {k:Nat} (h:w.heap.size=k):(w.alloc o).heap[k]?=some o:=h ▸ jq w o
theorem RR (P:Program) (e:TypeId) (z:Value) (size bytes:Nat) (h:(P.info? e).map (fun i=>(i.zero,i.size,i.bytes))=some (some z,size,bytes)):∃ i,P.info? e=some i∧i.zero=some z∧i.size=size∧i.bytes=bytes:=by
 obtain⟨i,hi,hz⟩:=Option.map_eq_some_iff.1 h;simp only[Prod.mk.injEq]at hz;exact⟨i,hi,hz⟩
theorem abq (A0 A1 A2:Option Addr) (c0 n1 c1 c2:Nat) (ps:PS) (zs:List Int) (ss:SS) (w:World) (hA:mZ w A0 A1 A2 c0 c2 ps zs n1 ss) (hz:zs.length=3*n1) (hl:ps.length≤1000∧n1≤1000∧ss.length≤2000) :
  Calls Tryz.prog 31 #[.agg #[.slice A0 ps.length c0,.slice A1 n1 c1,.slice A2 ss.length c2]] w fun e w'=>∃ v0 v1 v2,e = .returned (.agg #[v0,v1,v2])∧OM w' w.heap.size v0 v1 v2 ps zs n1 ss∧Below w.heap.size w w':=by
 obtain⟨n0,hn0⟩:∃ n,ps.length=n:=⟨_,rfl⟩
 obtain⟨n2,hn2⟩:∃ n,ss.length=n:=⟨_,rfl⟩
 obtain⟨cs0,dL,hc0⟩:=MF hA.p;obtain⟨lK,hr2,hc2⟩:=MF hA.s;have hc1:=IR.cr (n:=n1) hA.t hz (by omega);have L0:=qh dL.1;have L2:=qh hr2.1;rw[hn0]at hl hc0 L0
 rw[hn2]at hl hc2 L2
 have R0:=qh dL;have R2:=qh hr2;have C0:=qh hc0;have C1:=qh hc1;have C2:=qh hc2;have HL:=qh hl;have H0:=qh hn0;have H2:=qh hn2;have HZ:=qh hz;rw[hn0,hn2];clear dL hr2 hc0 hc1 hc2 hA hn0 hn2 hz hl;have m0:∀ W:World,(Instr.makeSlice 22 (.int .i64 (n0:Int)) (.int .i64 (n0:Int))).run Tryz.prog W = .ok (.slice (some ⟨W.heap.size,0,none⟩) n0 n0) (W.alloc (.cells (madeCells #[.bool false,.string ⟨#[]⟩,.string ⟨#[]⟩,.bool false,.string ⟨#[]⟩,.string ⟨#[]⟩] (n0*6)) 42)):=fun W=>by
  obtain⟨i,hi,hz,hs,hb⟩:=RR Tryz.prog 42 (.agg #[.bool false,.string ⟨#[]⟩,.string ⟨#[]⟩,.bool false,.string ⟨#[]⟩,.string ⟨#[]⟩]) 6 80 (by kernel_rfl);have:=run_make (P:=Tryz.prog) W 22 42 i _ Tryz.underlying22 hi hz .i64 .i64 n0 n0 (by omega) (by omega) (by rw[hb];have:=HL.out;omega) (by have:=HL.out;omega);rw[hs]at this
  exact this
 have m1:∀ W:World,(Instr.makeSlice 23 (.int .i64 (n1:Int)) (.int .i64 (n1:Int))).run Tryz.prog W = .ok (.slice (some ⟨W.heap.size,0,none⟩) n1 n1) (W.alloc (.cells (madeCells #[.int .i64 0,.int .i64 0,.int .i64 0] (n1*3)) 61)):=fun W=>by
  obtain⟨i,hi,hz,hs,hb⟩:=RR Tryz.prog 61 (.agg #[.int .i64 0,.int .i64 0,.int .i64 0]) 3 24 (by kernel_rfl);have:=run_make (P:=Tryz.prog) W 23 61 i _ Tryz.underlying23 hi hz .i64 .i64 n1 n1 (by omega) (by omega) (by rw[hb];have:=HL.out;omega) (by have:=HL.out;omega);rw[hs]at this
  exact this
 have m2:∀ W:World,(Instr.makeSlice 24 (.int .i64 (n2:Int)) (.int .i64 (n2:Int))).run Tryz.prog W = .ok (.slice (some ⟨W.heap.size,0,none⟩) n2 n2) (W.alloc (.cells (madeCells #[.int .i64 0,.int .i64 0,.bool false] (n2*3)) 55)):=fun W=>by
  obtain⟨i,hi,hz,hs,hb⟩:=RR Tryz.prog 55 (.agg #[.int .i64 0,.int .i64 0,.bool false]) 3 24 (by kernel_rfl);have:=run_make (P:=Tryz.prog) W 24 55 i _ Tryz.underlying24 hi hz .i64 .i64 n2 n2 (by omega) (by omega) (by rw[hb];have:=HL.out;omega) (by have:=HL.out;omega);rw[hs]at this
  exact this
 obtain⟨z0,e0⟩:∃ z,madeCells #[.bool false,.string ⟨#[]⟩,.string ⟨#[]⟩,.bool false,.string ⟨#[]⟩,.string ⟨#[]⟩] (n0*6)=z:=⟨_,rfl⟩
 obtain⟨z1,e1⟩:∃ z,madeCells #[.int .i64 0,.int .i64 0,.int .i64 0] (n1*3)=z:=⟨_,rfl⟩
 obtain⟨z2,e2⟩:∃ z,madeCells #[.int .i64 0,.int .i64 0,.bool false] (n2*3)=z:=⟨_,rfl⟩
 rw[e0]at m0
 rw[e1]at m1
 rw[e2]at m2
 have S0:=qh (show z0.size=n0*6 by rw[← e0,size_madeCells]);have S1:=qh (show z1.size=n1*3 by rw[← e1,size_madeCells]);have S2:=qh (show z2.size=n2*3 by rw[← e2,size_madeCells]);clear e0 e1 e2;obtain⟨g,hg⟩:∃ g,w.heap.size=g:=⟨_,rfl⟩
 have HG:=qh hg;go_enter Tryz.func31,Tryz.ntmps31;go_upto_region 1 with fail
 go_cut [3] (fun a wx=>∃ (o B0 B1 B2:Nat),a = .pointer (some ⟨o,0,none⟩)∧Hid (OI g o w #[.slice A0 n0 c0,.slice A1 n1 c1,.slice A2 n2 c2] n0 n1 n2 z0.toList z1.toList z2.toList B0 B1 B2 wx))
 case first =>
  go_region
  all_goals try go_wp2
  all_goals go_meet
  all_goals refine⟨_,_,_,_,rfl,qh ⟨⟨?_,⟨?_⟩,⟨?_⟩,⟨by (repeat(first|exact Na (by simp[hg])|with_reducible refine aH ?_|with_reducible refine aF ?_ _))⟩⟩,?_,IW ?_ S0.out ?_ (by have:=HL.out;omega),IW ?_ S1.out ?_ (by have:=HL.out;omega),IW ?_ S2.out ?_ (by have:=HL.out;omega)⟩⟩
  all_goals first
   | omega
   | ((repeat(first|exact Na (by simp[hg])|with_reducible refine aH ?_|with_reducible refine aF ?_ _));done)
   | ((repeat(first|with_reducible refine Below.drew ?_|refine Below.alloc ?_ (by simp[hg];try omega) _));rw[← hg];exact Below.refl _ _)
 case rest =>
  obtain⟨o,B0,B1,B2,rfl,HO⟩:=hcut;obtain⟨a0,a1,a2,a3,a4,a5⟩:=z3 HO.out.ci.bm;obtain⟨b0,b1,b2,b3,b4,b5⟩:=z3 HO.out.ci.bo;clear m0 m1 m2 S0 S1 S2
  go_wp2_with (first
   | (refine SD rfl (.tmp 18) (.tmp 20) 22 42 rfl 6 Tryz.underlying22 (by kernel_rfl) (.slice (some ⟨B0,0,none⟩) n0 n0) A0 n0 c0 cs0 rfl rfl HO.out.ci.below HG.out.symm HO.out.o0 L0.out C0.out (Mj R0.out (by decide)) ?_;intro w1 O0 G0;have oO:=qh (HO.out.cp0 O0.out G0.out);clear a0 a1 a2 a3 a4 a5 b0 b1 b2 b3 b4 b5;obtain⟨a0,a1,a2,a3,a4,a5⟩:=z3 oO.out.ci.bm;obtain⟨b0,b1,b2,b3,b4,b5⟩:=z3 oO.out.ci.bo)
   | (refine SD rfl (.tmp 23) (.tmp 25) 23 61 rfl 3 Tryz.underlying23 (by kernel_rfl) (.slice (some ⟨B1,0,none⟩) n1 n1) A1 n1 c1 (mh zs) rfl rfl oO.out.ci.below HG.out.symm oO.out.o1 (by simp[mh,HZ.out];omega) C1.out (LR _) ?_;intro w2 O1 G1;have Bk:=qh (oO.out.cp1 O1.out G1.out);clear a0 a1 a2 a3 a4 a5 b0 b1 b2 b3 b4 b5;obtain⟨a0,a1,a2,a3,a4,a5⟩:=z3 Bk.out.ci.bm;obtain⟨b0,b1,b2,b3,b4,b5⟩:=z3 Bk.out.ci.bo)
   | (refine SD rfl (.tmp 28) (.tmp 30) 24 55 rfl 3 Tryz.underlying24 (by kernel_rfl) (.slice (some ⟨B2,0,none⟩) n2 n2) A2 n2 c2 lK rfl rfl Bk.out.ci.below HG.out.symm Bk.out.o2 L2.out C2.out (Mj R2.out (by decide)) ?_;intro w3 O2 G2;have Hg:=qh (Bk.out.cp2 O2.out G2.out);clear a0 a1 a2 a3 a4 a5 b0 b1 b2 b3 b4 b5;obtain⟨a0,a1,a2,a3,a4,a5⟩:=z3 Hg.out.ci.br;obtain⟨b0,b1,b2,b3,b4,b5⟩:=z3 Hg.out.ci.bo)
   | fail)
  obtain⟨hres,tX⟩:=Hg.out.ci.ret (by omega) (.slice (some ⟨B0,0,none⟩) n0 n0) (.slice (some ⟨B1,0,none⟩) n1 n1) (.slice (some ⟨B2,0,none⟩) n2 n2);have P0:=xK Hg.out.o0 (r:=g+1) (by omega) (.slice (some ⟨B0,0,none⟩) n0 n0) (.slice (some ⟨B1,0,none⟩) n1 n1) (.slice (some ⟨B2,0,none⟩) n2 n2);have P1:=xK Hg.out.o1 (r:=g+1) (by omega) (.slice (some ⟨B0,0,none⟩) n0 n0) (.slice (some ⟨B1,0,none⟩) n1 n1) (.slice (some ⟨B2,0,none⟩) n2 n2);have P2:=xK Hg.out.o2 (r:=g+1) (by omega) (.slice (some ⟨B0,0,none⟩) n0 n0) (.slice (some ⟨B1,0,none⟩) n1 n1) (.slice (some ⟨B2,0,none⟩) n2 n2);refine bodyPost_ret (results_cell_row rfl _ _ (g+1) 26 #[.slice (some ⟨B0,0,none⟩) n0 n0,.slice (some ⟨B1,0,none⟩) n1 n1,.slice (some ⟨B2,0,none⟩) n2 n2] (0,0) _ rfl hres Tryz.underlying26 rfl (by kernel_rfl)) rfl ?_;rw[hg];exact⟨_,_,_,rfl,OM.of R0.out R2.out (hg ▸ tX) (by rw[H0.out];exact sk P0 (by omega)) (sk P1 (by omega)) (by rw[H2.out];exact sk P2 (by omega)),tX⟩
end Go.Proofs.YtfcjnhkkfmgmpaaGreat
