import Derived.Test.YtfcjnhkkfmgmpaaGreatZrG50
import Derived.Test.YtfcjnhkkfmgmpaaGreatZrG48
import Derived.Test.YtfcjnhkkfmgmpaaGreatZrG51
set_option linter.all false
set_option maxRecDepth 100000
set_option maxHeartbeats 8000000
namespace Go.Proofs.YtfcjnhkkfmgmpaaGreat
open Go.RowKit Num Go.Proofs.YtfcjnhkkfmgmpaaGreatH.R Go.Proofs.YtfcjnhkkfmgmpaaGreatH.Z Go.Proofs.YtfcjnhkkfmgmpaaGreatW.PrintWords
theorem okP_of {p:PT} (h:decide ((chkR (pX p)=0∧(pX p).2.1.size≤40∧(pX p).2.2.size≤40)∧chkR (pY p)=0∧(pY p).2.1.size≤40∧(pY p).2.2.size≤40)=true):okP p:=by
 obtain⟨⟨h1,h2,h3⟩,h4,h5,h6⟩:=of_decide_eq_true h;exact⟨⟨chkR_ok.1 h1,h2,h3⟩,⟨chkR_ok.1 h4,h5,h6⟩⟩
theorem ok2:okPs ps2:=by
 intro j hj;have hl:ps2.length=4:=rfl;have:j=0∨j=1∨j=2∨j=3:=by omega
 rcases this with rfl|rfl|rfl|rfl
 ·exact okP_of (by decide +kernel)
 ·exact okP_of (by decide +kernel)
 ·exact okP_of (by decide +kernel)
 ·exact okP_of (by decide +kernel)
theorem pok2:POK ps2.length zs2 2 [] (oriP ps2):=by
 refine⟨by decide,by decide,by decide,fun t ht=>?_,fun j hj=>?_,fun i hi=>absurd hi (Nat.not_lt_zero _)⟩
 ·have:t=0∨t=1:=by omega
  rcases this with rfl|rfl
  ·decide +kernel
  ·decide +kernel
 ·have:j=0∨j=1∨j=2∨j=3∨j=4∨j=5:=by omega
  rcases this with rfl|rfl|rfl|rfl|rfl|rfl <;> decide +kernel
theorem fl02:flipO ps2 zs2 2 [] (oriP ps2) 0 2=(0,ps2,[3,0,1,3,1,2],2,[]):=by
 have h1:isB 2 0 2=true:=by decide
 have h2:flipJ zs2 2 [] (oriP ps2) 2 0 1=some 3:=by decide +kernel
 have h3:flipZ zs2 0 3 2 0 1 3=[3,0,1,3,1,2]:=by decide +kernel
 unfold flipO;rw[if_pos h1];show(match flipJ zs2 2 [] (oriP ps2) 2 0 1 with
  | none=>badM 7
  | some j=>(0,ps2,flipZ zs2 0 j 2 0 1 (zs2.getD (3*(j / 3)+px (j%3)) 0),2,[]))=_
 rw[h2];show((0:Int),ps2,flipZ zs2 0 3 2 0 1 3,2,([]:SS))=_;rw[h3]
theorem fl00:flipO ps2 zs2 2 [] (oriP ps2) 0 0=badM 7:=by
 have h1:isB 2 0 0=true:=by decide
 have h2:flipJ zs2 2 [] (oriP ps2) 0 1 2=none:=by decide +kernel
 unfold flipO;rw[if_pos h1];show(match flipJ zs2 2 [] (oriP ps2) 0 1 2 with
  | none=>badM 7
  | some j=>(0,ps2,flipZ zs2 0 j 0 1 2 (zs2.getD (3*(j / 3)+px (j%3)) 0),2,[]))=_
 rw[h2]
theorem acr2:acrO zs2 2 0 2=(1,0,0):=by decide +kernel
theorem own_six {w:World} {b g1 k1:Nat} {x0 x1 x2 x3 x4 x5:Int} (h:w.ownsRow b 61 3 (.slice (some ⟨g1,0,none⟩) 2 k1) 2 (icells [x0,x1,x2,x3,x4,x5])) :
  w.cell? ⟨g1,0,none⟩=some (.int .i64 x0)∧w.cell? ⟨g1,1,none⟩=some (.int .i64 x1)∧w.cell? ⟨g1,2,none⟩=some (.int .i64 x2)∧w.cell? ⟨g1,3,none⟩=some (.int .i64 x3)∧w.cell? ⟨g1,4,none⟩=some (.int .i64 x4)∧w.cell? ⟨g1,5,none⟩=some (.int .i64 x5) :=
 ⟨h.cells rfl 0 _ rfl,h.cells rfl 1 _ rfl,h.cells rfl 2 _ rfl,h.cells rfl 3 _ rfl,h.cells rfl 4 _ rfl,h.cells rfl 5 _ rfl⟩
attribute [local go_sem high] eqT
theorem live_m (w:World):Calls Tryz.prog 8 #[] w fun e w'=>e = .returned (.bool true)∧Below w.heap.size w w':=by
 have H2:=qh (two_m w);have HBW:=qh (Below.refl w.heap.size w);go_enter Tryz.func8,Tryz.ntmps8;go_wp2_with (refine H2.out.mono ?_;rintro e w1 ⟨v0,v1,rfl,hOM,hb⟩;refine Stop.out ?_)
 refine⟨?_⟩;obtain⟨A0,c0,A1,c1,A2,c2,rfl,rfl,hv2,hc1,hA⟩:=hOM.args;injection hv2 with e1 e2 e3
 subst e1 e3;clear e2;have hal:=(Below.refl w1.heap.size w1).alloc (Nat.le_refl _) (.cells #[.slice A0 ps2.length c0,.slice A1 2 c1,.slice none 0 0] 26);have HB2:=qh (hb.trans (hal.mono hb.size));have HA2:=qh (hA.below hal rfl);have HM2:=qh (show Aside0 ((w1.alloc (.cells #[.slice A0 ps2.length c0,.slice A1 2 c1,.slice none 0 0] 26)).heap[w1.heap.size]?=some (.cells #[.slice A0 ps2.length c0,.slice A1 2 c1,.slice none 0 0] 26 (0,0))) from ⟨blk_new _ _⟩);clear hal hb hOM hA H2;go_upto_region 2 with fail
 generalize (w1.alloc (.cells #[.slice A0 ps2.length c0,.slice A1 2 c1,.slice none 0 0] 26))=w2 at HB2 HA2 HM2 ⊢;generalize w1.heap.size=g at HM2 ⊢;have HF:=qh (fun W (hA:ArgM W A0 A1 none c0 0 ps2 zs2 2 [])=>across_m A0 A1 none c0 2 c1 0 ps2 zs2 [] W hA 40 (masked_f ok2 (by decide) 40 (by decide)) (oriP ps2) (orP ok2 40 (by decide)) pok2 0 2);have HG1:=qh (fun W (hA:ArgM W A0 A1 none c0 0 ps2 zs2 2 [])=>flip_m A0 A1 none c0 2 c1 0 ps2 zs2 [] W hA rfl 40 (masked_f ok2 (by decide) 40 (by decide)) (oriP ps2) (orP ok2 40 (by decide)) pok2 (ori_ne ps2) 0 2);have HG2:=qh (fun W (hA:ArgM W A0 A1 none c0 0 ps2 zs2 2 [])=>flip_m A0 A1 none c0 2 c1 0 ps2 zs2 [] W hA rfl 40 (masked_f ok2 (by decide) 40 (by decide)) (oriP ps2) (orP ok2 40 (by decide)) pok2 (ori_ne ps2) 0 0);rw[acr2]at HF
 rw[fl02]at HG1
 rw[fl00]at HG2
 obtain⟨a0,a1,a2,a3,a4,a5⟩:=z3 HM2.out;go_wp2_with (refine(HF.out _ HA2.out).mono ?_;rintro e w3 ⟨rfl,hb⟩;refine Stop.out ?_)
 refine⟨?_⟩;have HA3:=qh (HA2.out.below hb rfl);have HB3:=qh (HB2.out.trans (hb.mono HB2.out.size));have HM3:=qh (show Aside0 (w3.heap[g]?=some (.cells #[.slice A0 ps2.length c0,.slice A1 2 c1,.slice none 0 0] 26 (0,0))) from ⟨blk_below HM2.out.out hb⟩);clear hb HA2 HB2 HM2 HF a0 a1 a2 a3 a4 a5;obtain⟨a0,a1,a2,a3,a4,a5⟩:=z3 HM3.out;go_wp2_with (refine(HG1.out _ HA3.out).mono ?_;rintro e w4 ⟨u0,u1,u2,rfl,hOM,hb⟩;refine Stop.out ?_)
 refine⟨?_⟩;replace hOM:OM w4 w3.heap.size u0 u1 u2 ps2 [3,0,1,3,1,2] 2 []:=hOM;obtain⟨g1,k1,rfl⟩:=hOM.blk (by decide);obtain⟨D0,d0,D1,d1,D2,d2,rfl,-,rfl,-,-⟩:=hOM.args;have hal:=(Below.refl w4.heap.size w4).alloc (Nat.le_refl _) (.cells #[.slice D0 ps2.length d0,.slice (some ⟨g1,0,none⟩) 2 k1,.slice D2 ([]:SS).length d2] 26);have hb5:=hb.trans (hal.mono hb.size);have HA5:=qh (HA3.out.below hb5 rfl);have HB5:=qh (HB3.out.trans (hb5.mono HB3.out.size));have HM5:=qh (show Aside0 ((w4.alloc (.cells #[.slice D0 ps2.length d0,.slice (some ⟨g1,0,none⟩) 2 k1,.slice D2 ([]:SS).length d2] 26)).heap[g]?=some (.cells #[.slice A0 ps2.length c0,.slice A1 2 c1,.slice none 0 0] 26 (0,0))) from ⟨blk_below HM3.out.out hb5⟩);have HN5:=qh (show Aside0 ((w4.alloc (.cells #[.slice D0 ps2.length d0,.slice (some ⟨g1,0,none⟩) 2 k1,.slice D2 ([]:SS).length d2] 26)).heap[w4.heap.size]?=some (.cells #[.slice D0 ps2.length d0,.slice (some ⟨g1,0,none⟩) 2 k1,.slice D2 ([]:SS).length d2] 26 (0,0))) from ⟨blk_new _ _⟩);have HO5:=qh (pw_own_below hOM.t hal);clear hal hb hb5 hOM HA3 HB3 HM3 HG1 a0 a1 a2 a3 a4 a5;go_upto_region 4 with fail
 generalize (w4.alloc (.cells #[.slice D0 ps2.length d0,.slice (some ⟨g1,0,none⟩) 2 k1,.slice D2 ([]:SS).length d2] 26))=w5 at HA5 HB5 HM5 HN5 HO5 ⊢;generalize w4.heap.size=h at HN5 ⊢;obtain⟨a0,a1,a2,a3,a4,a5⟩:=z3 HM5.out;go_wp2_with (refine(HG2.out _ HA5.out).mono ?_;rintro e w6 ⟨u0,u1,u2,rfl,hOM,hb⟩;refine Stop.out ?_)
 refine⟨?_⟩;replace hOM:OM w6 w5.heap.size u0 u1 u2 [] [] 0 []:=hOM;obtain⟨E0,f0,E1,f1,E2,f2,rfl,rfl,rfl,-,-⟩:=hOM.args;have hb7:=hb.trans (((Below.refl w6.heap.size w6).alloc (Nat.le_refl _) (.cells #[.slice E0 ([]:PS).length f0,.slice E1 0 f1,.slice E2 ([]:SS).length f2] 26)).mono hb.size);have HB6:=qh (HB5.out.trans (hb7.mono HB5.out.size));have HN6:=qh (show Aside0 ((w6.alloc (.cells #[.slice E0 ([]:PS).length f0,.slice E1 0 f1,.slice E2 ([]:SS).length f2] 26)).heap[h]?=some (.cells #[.slice D0 ps2.length d0,.slice (some ⟨g1,0,none⟩) 2 k1,.slice D2 ([]:SS).length d2] 26 (0,0))) from ⟨blk_below HN5.out.out hb7⟩);have HO6:=qh (pw_own_below HO5.out hb7);clear hb hb7 hOM HA5 HB5 HM5 HN5 HO5 HG2 a0 a1 a2 a3 a4 a5;go_upto_region 5 with fail
 generalize (w6.alloc (.cells #[.slice E0 ([]:PS).length f0,.slice E1 0 f1,.slice E2 ([]:SS).length f2] 26))=w7 at HB6 HN6 HO6 ⊢;obtain⟨a0,a1,a2,a3,a4,a5⟩:=z3 HN6.out;obtain⟨x0,x1,x2,x3,x4,x5⟩:=own_six HO6.out;go_wp2
 go_ret
 exact⟨rfl,HB6.out⟩
structure Stop2 (p:Prop):Prop where
 out:p
structure M2 (g:Nat) (w:World) (A0 A1 A2 B0 B1 B2:Option Addr) (n0 c0 n1 c1 n2 c2 d0 d1 d2:Nat) (wr:World):Prop where
 a:MB g w A0 A1 A2 n0 c0 n1 c1 n2 c2 wr
 b0:wr.cell? ⟨g+1,0,none⟩=some (.slice B0 n0 d0)
 b1:wr.cell? ⟨g+1,1,none⟩=some (.slice B1 n1 d1)
 b2:wr.cell? ⟨g+1,2,none⟩=some (.slice B2 n2 d2)
theorem M2.step {g:Nat} {w:World} {A0 A1 A2 B0 B1 B2:Option Addr} {n0 c0 n1 c1 n2 c2 d0 d1 d2:Nat} {wr w2:World} (h:M2 g w A0 A1 A2 B0 B1 B2 n0 c0 n1 c1 n2 c2 d0 d1 d2 wr) (hb:Below wr.heap.size wr w2):M2 g w A0 A1 A2 B0 B1 B2 n0 c0 n1 c1 n2 c2 d0 d1 d2 w2 :=
 ⟨h.a.step hb,(hb.cell (ql h.b0)).trans h.b0,(hb.cell (ql h.b1)).trans h.b1,(hb.cell (ql h.b2)).trans h.b2⟩
theorem tri_cells {w:World} {ad:Addr} {n:Nat} {zs:List Int} (h:IR w (some ad) (3*n) zs) {t:Nat} (ht:t<n):w.cell? (ad.add (t*3))=some (.int .i64 (zs.getD (3*t) 0))∧w.cell? ⟨(ad.add (t*3)).block,(ad.add (t*3)).off+1,none⟩=some (.int .i64 (zs.getD (3*t+1) 0))∧w.cell? ⟨(ad.add (t*3)).block,(ad.add (t*3)).off+2,none⟩=some (.int .i64 (zs.getD (3*t+2) 0)):=by
 obtain⟨ad',e,hc⟩:=h (by omega);obtain rfl:=Option.some.inj e;have y0:=hc (t*3) (by omega);have y1:=hc (t*3+1) (by omega);have y2:=hc (t*3+2) (by omega);rw[addF _ _ _ (by decide)]at y1 y2
 rw[show t*3=3*t by omega]at y0 y1 y2 ⊢
 exact⟨y0,y1,y2⟩
attribute [local go_sem high] eqT
theorem same_m (A0 A1 A2 B0 B1 B2:Option Addr) (c0 n1 c1 c2 d0 d1 d2:Nat) (ps:PS) (zs:List Int) (ss:SS) (w:World) (hA:ArgM w A0 A1 A2 c0 c2 ps zs n1 ss) (hB:ArgM w B0 B1 B2 d0 d2 ps zs n1 ss) (hl:ps.length≤1000∧n1≤1000∧ss.length≤2000) (K:Nat) (hK:2001≤K) :
  Calls Tryz.prog 12 #[.agg #[.slice A0 ps.length c0,.slice A1 n1 c1,.slice A2 ss.length c2],.agg #[.slice B0 ps.length d0,.slice B1 n1 d1,.slice B2 ss.length d2]] w fun e w'=>e = .returned (.bool true)∧Below w.heap.size w w':=by
 obtain⟨n0,hn0⟩:∃ n,ps.length=n:=⟨_,rfl⟩
 obtain⟨n2,hn2⟩:∃ n,ss.length=n:=⟨_,rfl⟩
 have HM:=qh (show M2 w.heap.size w A0 A1 A2 B0 B1 B2 n0 c0 n1 c1 n2 c2 d0 d1 d2 ((w.alloc (.cells #[.slice A0 n0 c0,.slice A1 n1 c1,.slice A2 n2 c2] 26)).alloc (.cells #[.slice B0 n0 d0,.slice B1 n1 d1,.slice B2 n2 d2] 26)) from
  ⟨(MB.new w A0 A1 A2 n0 c0 n1 c1 n2 c2).step ((Below.refl _ _).alloc (Nat.le_refl _) _),by simp[go_sem],by simp[go_sem],by simp[go_sem]⟩)
 rw[hn0,hn2]at hl
 have HL:=qh hl;have H0:=qh hn0;have H2:=qh hn2;have HA:=qh hA;have HB:=qh hB;have HS1:=qh (samep_p ps K (by omega) (by omega));have HS2:=qh (sames_p ss K (by omega) (by omega));rw[hn0,hn2];clear hA hB hl hn0 hn2 hK;obtain⟨g,hg⟩:∃ g,w.heap.size=g:=⟨_,rfl⟩
 have HG:=qh hg;rw[hg]at HM
 go_enter Tryz.func12,Tryz.ntmps12;go_upto_region 1 with fail
 generalize ((w.alloc (.cells #[.slice A0 n0 c0,.slice A1 n1 c1,.slice A2 n2 c2] 26)).alloc (.cells #[.slice B0 n0 d0,.slice B1 n1 d1,.slice B2 n2 d2] 26))=w1 at HM ⊢;have q1:=HM.out.a.b1;have q2:=HM.out.b1;go_wp2
 clear q1 q2;go_loopw [5] (fun v wr=>∃ (i:Nat),i≤n1∧v = .int .i64 (i:Int)∧Hid (M2 g w A0 A1 A2 B0 B1 B2 n0 c0 n1 c1 n2 c2 d0 d1 d2 wr)) (fun v _=>n1-(intOf v).toNat)
 case atStart=>exact⟨0,Nat.zero_le _,rfl,HM⟩
 case round =>
  obtain⟨i,ht,rfl,hI⟩:=hrel;clear HM;have q1:=hI.out.a.b1;have q2:=hI.out.b1;by_cases htn:i<n1
  ·have h1:decide ((i:Int)<(n1:Int))=true:=decide_eq_true (by omega)
   have h2:((i:Int)<(n1:Int))=True:=eq_true (by omega);have h3:(i<n1)=True:=eq_true htn;have h4:((0:Int)≤(i:Int))=True:=eq_true (by omega);obtain⟨ad,rfl,-⟩:=(HA.out.below hI.out.a.below HG.out.symm).t (by omega);obtain⟨bd,rfl,-⟩:=(HB.out.below hI.out.a.below HG.out.symm).t (by omega);obtain⟨y0,y1,y2⟩:=tri_cells (HA.out.below hI.out.a.below HG.out.symm).t htn;obtain⟨x0,x1,x2⟩:=tri_cells (HB.out.below hI.out.a.below HG.out.symm).t htn;have HT:=qh htn;clear htn ht;go_wp2
   refine region_bw wr (by kernel_rfl) (by kernel_rfl) ?_;have y0':=bw_cell y0;have y1':=bw_cell y1;have y2':=bw_cell y2;have x0':=bw_cell x0;have x1':=bw_cell x1;have x2':=bw_cell x2;have q1':=bw_cell q1;have q2':=bw_cell q2;clear y0 y1 y2 x0 x1 x2 q1 q2;repeat(go_big_quiet_step (fail))
   refine wpQuiet_nil ?_;intro _ hw';obtain⟨p,rfl⟩:=hw';go_wp2
   rw[wrN (by have:=HT.out;have:=HL.out;omega)];exact⟨⟨i+1,by have:=HT.out;omega,rfl,qh (hI.out.step (p.h.mono (Nat.le_refl _)))⟩,by have:=HT.out;show n1-(((i+1:Nat):Int)).toNat<n1-((i:Nat):Int).toNat;omega⟩
  ·have h1:decide ((i:Int)<(n1:Int))=false:=decide_eq_false (by omega)
   have h1b:decide (i<n1)=false:=decide_eq_false htn;have q0:=hI.out.a.b0;have q3:=hI.out.b0;have HS:=qh (gussetref08_SamePoints.calls K A0 c0 ps B0 d0 ps true wr (HA.out.below hI.out.a.below HG.out.symm).p HA.out.pc (HB.out.below hI.out.a.below HG.out.symm).p HB.out.pc HS1.out);rw[H0.out]at HS
   go_wp2_with (refine HS.out.mono ?_;rintro e w3 ⟨rfl,hb⟩;refine Stop2.out ?_)
   refine⟨?_⟩;have HI3:=qh (hI.out.step hb.below);clear hb HS q0 q1 q2 q3;have q0:=HI3.out.a.b2;have q3:=HI3.out.b2;have HS:=qh (gussetref08_SameSegs.calls K A2 c2 ss B2 d2 ss true w3 (HA.out.below HI3.out.a.below HG.out.symm).s HA.out.sc (HB.out.below HI3.out.a.below HG.out.symm).s HB.out.sc HS2.out);rw[H2.out]at HS
   go_wp2_with (refine HS.out.mono ?_;rintro e w4 ⟨rfl,hb⟩;refine Stop2.out ?_)
   refine⟨?_⟩;have HI4:=qh (HI3.out.step hb.below);clear hb;go_wp2
   go_ret
   exact⟨rfl,by rw[HG.out];exact HI4.out.a.below⟩
theorem flip_bd (ps:PS) (zs:List Int) (n1:Nat) (ss:SS) (ori:Nat→Nat→Nat→Int) (t k:Int) (h:ps.length≤1000∧n1≤1000∧ss.length≤2000):(flipO ps zs n1 ss ori t k).2.1.length≤1000∧(flipO ps zs n1 ss ori t k).2.2.2.1≤1000∧(flipO ps zs n1 ss ori t k).2.2.2.2.length≤2000:=by
 have hb:∀ r,(badM r).2.1.length≤1000∧(badM r).2.2.2.1≤1000∧(badM r).2.2.2.2.length≤2000:=fun r=>by simp[badM]
 unfold flipO;split
 ·split
  ·exact hb 7
  ·exact h
 ·exact hb 1
structure LB (h:Nat) (ps:PS) (zs:List Int) (n1:Nat) (ss:SS) (A0 A1 A2:Option Addr) (c0 c1 c2 n0 n2:Nat) (W:World):Prop where
 a:ArgM W A0 A1 A2 c0 c2 ps zs n1 ss
 b:Aside0 (W.heap[h]?=some (.cells #[.slice A0 n0 c0,.slice A1 n1 c1,.slice A2 n2 c2] 26 (0,0)))
theorem LB.step {h:Nat} {ps:PS} {zs:List Int} {n1:Nat} {ss:SS} {A0 A1 A2:Option Addr} {c0 c1 c2 n0 n2:Nat} {W W':World} (hl:LB h ps zs n1 ss A0 A1 A2 c0 c1 c2 n0 n2 W) (hb:Below W.heap.size W W'):LB h ps zs n1 ss A0 A1 A2 c0 c1 c2 n0 n2 W':=⟨hl.a.below hb rfl,⟨blk_below hl.b.out hb⟩⟩
theorem LB.new {w W:World} {b:Nat} {A0 A1 A2:Option Addr} {c0 c1 c2:Nat} {ps:PS} {zs:List Int} {n1:Nat} {ss:SS} (h:ArgM W A0 A1 A2 c0 c2 ps zs n1 ss):LB W.heap.size ps zs n1 ss A0 A1 A2 c0 c1 c2 ps.length ss.length (W.alloc (.cells #[.slice A0 ps.length c0,.slice A1 n1 c1,.slice A2 ss.length c2] 26)) :=
 ⟨h.below ((Below.refl _ _).alloc (Nat.le_refl _) _) rfl,⟨blk_new _ _⟩⟩
theorem flips_c (A0 A1 A2:Option Addr) (c0 n1 c1 c2:Nat) (ps:PS) (zs:List Int) (ss:SS) (w:World) (hA:ArgM w A0 A1 A2 c0 c2 ps zs n1 ss) (hz:zs.length=3*n1) (t k:Int) :
  Calls Tryz.prog 3 #[.agg #[.slice A0 ps.length c0,.slice A1 n1 c1,.slice A2 ss.length c2],.int .i64 t,.int .i64 k] w fun e w'=>e = .returned (.bool true)∧Below w.heap.size w w':=by
 obtain⟨n0,hn0⟩:∃ n,ps.length=n:=⟨_,rfl⟩
 obtain⟨n2,hn2⟩:∃ n,ss.length=n:=⟨_,rfl⟩
 have HM1:=qh (show LB w.heap.size ps zs n1 ss A0 A1 A2 c0 c1 c2 n0 n2 (w.alloc (.cells #[.slice A0 n0 c0,.slice A1 n1 c1,.slice A2 n2 c2] 26)) from by rw[← hn0,← hn2];exact LB.new (w:=w) (b:=0) hA);have HB1:=qh ((Below.refl w.heap.size w).alloc (Nat.le_refl _) (.cells #[.slice A0 n0 c0,.slice A1 n1 c1,.slice A2 n2 c2] 26));have H0:=qh hn0;have H2:=qh hn2;have HZ:=qh hz;have HLV:=qh live_m;rw[hn0,hn2];clear hA hn0 hn2 hz;obtain⟨g,hg⟩:∃ g,w.heap.size=g:=⟨_,rfl⟩
 have HG:=qh hg;rw[hg]at HM1 HB1
 go_enter Tryz.func3,Tryz.ntmps3;go_upto_region 1 with fail
 generalize (w.alloc (.cells #[.slice A0 n0 c0,.slice A1 n1 c1,.slice A2 n2 c2] 26))=w1 at HM1 HB1 ⊢;have HSM:=qh (small_m A0 A1 A2 c0 n1 c1 c2 ps ss w1 HM1.out.a.p);rw[H0.out,H2.out]at HSM
 obtain⟨q0,q1,q2,q3,q4,q5⟩:=z3 HM1.out.b;go_wp2_with (refine HSM.out.mono ?_;rintro e w2 ⟨b,rfl,hsm,hb⟩;refine Stop.out ?_)
 refine⟨?_⟩;have HB2:=qh (HB1.out.trans (hb.mono (Nat.le_of_lt (blk_lt HM1.out.b.out))));have HM2:=qh (HM1.out.step hb);clear hb HB1 HM1 q0 q1 q2 q3 q4 q5;have hB2:g≤w2.heap.size:=Nat.le_of_lt (blk_lt HM2.out.b.out);cases b with
 | false =>
  have HC:=qh (HLV.out w2);clear hsm;go_wp2_with (refine HC.out.mono ?_;rintro e w3 ⟨rfl,hb⟩;refine Stop.out ?_)
  refine⟨?_⟩;have HB3:=qh (HB2.out.trans (hb.mono hB2));clear hb;go_wp2_with (first|(go_ret;exact⟨rfl,by rw[HG.out];exact HB3.out⟩)|fail)
 | true =>
  have HS:=qh (hsm rfl);clear hsm;have hl:=HS.out;unfold SmallM at hl;obtain⟨ask,hask,hok⟩:=rasked_f hl.2.2.2 (by omega) 4000 (by omega);have HCK:=qh (check_m A0 A1 A2 c0 n1 c1 c2 ps zs ss w2 HM2.out.a 4000 ask hask (oriP ps) (fun e=>orO (hok e) 4000 (by decide)) (sgP ss) (segof_p ss 4000 (by omega) (by omega)));rw[H0.out,H2.out]at HCK
  have HOK:=qh hok;have HLS:=qh (show ss.length≤45 by omega);have HL:=qh (show ps.length≤1000∧n1≤1000∧ss.length≤2000 by omega);clear hl hask hok;obtain⟨q0,q1,q2,q3,q4,q5⟩:=z3 HM2.out.b;go_wp2_with (refine HCK.out.mono ?_;rintro e w3 ⟨r,rfl,hr,hb⟩;refine Stop.out ?_)
  refine⟨?_⟩;have HB3:=qh (HB2.out.trans (hb.mono hB2));have HM3:=qh (HM2.out.step hb);have HR:=qh hr;clear hb HB2 HM2 HCK hr q0 q1 q2 q3 q4 q5 hB2;have hB3:g≤w3.heap.size:=Nat.le_of_lt (blk_lt HM3.out.b.out);by_cases h0:r=0
  ·subst h0
   have hMOK:=HR.out.1 rfl;have hOk:=HOK.out hMOK.a;have hM0:=hMOK.a;subst hM0;have HP:=qh (pok_of hMOK);have HOK2:=qh hOk;clear hMOK hOk;have HCP:=qh (copy_m A0 A1 A2 c0 n1 c1 c2 ps zs ss w3 HM3.out.a HZ.out HL.out);rw[H0.out,H2.out]at HCP
   obtain⟨q0,q1,q2,q3,q4,q5⟩:=z3 HM3.out.b;go_wp2_with (refine HCP.out.mono ?_;rintro e w4 ⟨v0,v1,v2,rfl,hOM,hb⟩;refine Stop.out ?_)
   refine⟨?_⟩;obtain⟨B0,d0,B1,d1,B2,d2,rfl,rfl,rfl,-,hA⟩:=hOM.args;have hal:=hb.trans (((Below.refl w4.heap.size w4).alloc (Nat.le_refl _) (.cells #[.slice B0 ps.length d0,.slice B1 n1 d1,.slice B2 ss.length d2] 26)).mono hb.size);have HB5:=qh (HB3.out.trans (hal.mono hB3));have HM5:=qh (HM3.out.step hal);have HN5:=qh (LB.new (w:=w) (b:=0) (c1:=d1) hA);clear hal hb hOM hA HB3 HM3 HCP q0 q1 q2 q3 q4 q5 hB3 HR HOK;go_upto_region 4 with fail
   generalize (w4.alloc (.cells #[.slice B0 ps.length d0,.slice B1 n1 d1,.slice B2 ss.length d2] 26))=w5 at HB5 HM5 HN5 ⊢;generalize w4.heap.size=o at HN5 ⊢;have hB5:g≤w5.heap.size:=Nat.le_of_lt (blk_lt HM5.out.b.out);have HFL:=qh (flip_m B0 B1 B2 d0 n1 d1 d2 ps zs ss w5 HN5.out.a HZ.out 4000 (masked_f HOK2.out HL.out.1 4000 (by have:=HL.out;omega)) (oriP ps) (orP HOK2.out 4000 (by decide)) HP.out (ori_ne ps) t k);have HBD:=qh (flip_bd ps zs n1 ss (oriP ps) t k HL.out);have HFR:=qh (fun W (hm:LB g ps zs n1 ss A0 A1 A2 c0 c1 c2 n0 n2 W)=>flip_r A0 A1 A2 c0 n1 c1 c2 ps zs ss W hm.a HZ.out 4000 (oriP ps) (orO HOK2.out 4000 (by decide)) (segof_p ss 4000 (by have:=HLS.out;omega) (by have:=HLS.out;omega)) HP.out (ori_ne ps) t k);rw[H0.out,H2.out]at HFR
   obtain⟨O,hO⟩:∃ x,flipO ps zs n1 ss (oriP ps) t k=x:=⟨_,rfl⟩
   rw[hO]at HFL HFR HBD
   clear hO;obtain⟨q0,q1,q2,q3,q4,q5⟩:=z3 HN5.out.b;go_wp2_with (refine HFL.out.mono ?_;rintro e w6 ⟨u0,u1,u2,rfl,hOM,hb⟩;refine Stop.out ?_)
   refine⟨?_⟩;obtain⟨D0,e0,D1,e1,D2,e2,rfl,rfl,rfl,-,hA⟩:=hOM.args;have hal:=hb.trans (((Below.refl w6.heap.size w6).alloc (Nat.le_refl _) (.cells #[.slice D0 O.2.1.length e0,.slice D1 O.2.2.2.1 e1,.slice D2 O.2.2.2.2.length e2] 26)).mono hb.size);have HB7:=qh (HB5.out.trans (hal.mono hB5));have HM7:=qh (HM5.out.step hal);have HN7:=qh (HN5.out.step hal);have HP7:=qh (LB.new (w:=w) (b:=0) (c1:=e1) hA);clear hal hb hOM hA HB5 HM5 HN5 HFL q0 q1 q2 q3 q4 q5 hB5 HP HOK2;go_upto_region 5 with fail
   generalize (w6.alloc (.cells #[.slice D0 O.2.1.length e0,.slice D1 O.2.2.2.1 e1,.slice D2 O.2.2.2.2.length e2] 26))=w7 at HB7 HM7 HN7 HP7 ⊢;generalize w6.heap.size=p at HP7 ⊢;have hB7:g≤w7.heap.size:=Nat.le_of_lt (blk_lt HM7.out.b.out);obtain⟨q0,q1,q2,q3,q4,q5⟩:=z3 HM7.out.b;go_wp2_with (refine(HFR.out w7 HM7.out).mono ?_;rintro e w8 ⟨u0,u1,u2,rfl,hOM,hb⟩;refine Stop.out ?_)
   refine⟨?_⟩;obtain⟨E0,f0,E1,f1,E2,f2,rfl,rfl,rfl,-,hA⟩:=hOM.args;have hal:=hb.trans (((Below.refl w8.heap.size w8).alloc (Nat.le_refl _) (.cells #[.slice E0 O.2.1.length f0,.slice E1 O.2.2.2.1 f1,.slice E2 O.2.2.2.2.length f2] 26)).mono hb.size);have HB9:=qh (HB7.out.trans (hal.mono hB7));have HM9:=qh (HM7.out.step hal);have HN9:=qh (HN7.out.step hal);have HP9:=qh (HP7.out.step hal);have HQ9:=qh (LB.new (w:=w) (b:=0) (c1:=f1) hA);clear hal hb hOM hA HB7 HM7 HN7 HP7 HFR q0 q1 q2 q3 q4 q5 hB7;go_upto_region 6 with fail
   generalize (w8.alloc (.cells #[.slice E0 O.2.1.length f0,.slice E1 O.2.2.2.1 f1,.slice E2 O.2.2.2.2.length f2] 26))=w9 at HB9 HM9 HN9 HP9 HQ9 ⊢;generalize w8.heap.size=q at HQ9 ⊢;have hB9:g≤w9.heap.size:=Nat.le_of_lt (blk_lt HM9.out.b.out);obtain⟨q0,q1,q2,q3,q4,q5⟩:=z3 HP9.out.b;obtain⟨p0,p1,p2,p3,p4,p5⟩:=z3 HQ9.out.b;have HS1:=qh (same_m D0 D1 D2 E0 E1 E2 e0 O.2.2.2.1 e1 e2 f0 f1 f2 O.2.1 O.2.2.1 O.2.2.2.2 w9 HP9.out.a HQ9.out.a HBD.out 4000 (by decide));go_wp2_with (refine HS1.out.mono ?_;rintro e w10 ⟨rfl,hb⟩;refine Stop.out ?_)
   refine⟨?_⟩;have HB10:=qh (HB9.out.trans (hb.mono hB9));have HM10:=qh (HM9.out.step hb);have HN10:=qh (HN9.out.step hb);clear hb HB9 HM9 HN9 HP9 HQ9 HS1 HBD q0 q1 q2 q3 q4 q5 p0 p1 p2 p3 p4 p5 hB9;have hB10:g≤w10.heap.size:=Nat.le_of_lt (blk_lt HM10.out.b.out);obtain⟨q0,q1,q2,q3,q4,q5⟩:=z3 HN10.out.b;obtain⟨p0,p1,p2,p3,p4,p5⟩:=z3 HM10.out.b;have HS1:=qh (same_m B0 B1 B2 A0 A1 A2 d0 n1 d1 d2 c0 c1 c2 ps zs ss w10 HN10.out.a HM10.out.a HL.out 4000 (by decide));rw[H0.out,H2.out]at HS1
   rw[H0.out]at q0
   rw[H2.out]at q2
   go_wp2_with (refine HS1.out.mono ?_;rintro e w11 ⟨rfl,hb⟩;refine Stop.out ?_)
   refine⟨?_⟩;have HB11:=qh (HB10.out.trans (hb.mono hB10));have hB11:=Nat.le_trans hB10 hb.size;have HC:=qh (HLV.out w11);clear hb HB10 HM10 HN10 HS1 q0 q1 q2 q3 q4 q5 p0 p1 p2 p3 p4 p5 hB10;go_wp2_with (refine HC.out.mono ?_;rintro e w12 ⟨rfl,hb⟩;refine Stop.out ?_)
   refine⟨?_⟩;have HB12:=qh (HB11.out.trans (hb.mono hB11));clear hb;go_wp2_with (first|(go_ret;exact⟨rfl,by rw[HG.out];exact HB12.out⟩)|fail)
  ·have hne:(r != 0)=true:=bne_iff_ne.mpr h0
   have HC:=qh (HLV.out w3);clear h0;go_wp2_with (refine HC.out.mono ?_;rintro e w4 ⟨rfl,hb⟩;refine Stop.out ?_)
   refine⟨?_⟩;have HB4:=qh (HB3.out.trans (hb.mono hB3));clear hb;go_wp2_with (first|(go_ret;exact⟨rfl,by rw[HG.out];exact HB4.out⟩)|fail)
end Go.Proofs.YtfcjnhkkfmgmpaaGreat
