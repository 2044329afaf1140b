import Derived.Test.YtfcjnhkkfmgmpaaGreatZsG46
set_option linter.all false
set_option maxRecDepth 100000
set_option maxHeartbeats 8000000
namespace Go.Proofs.YtfcjnhkkfmgmpaaGreat
open Go.RowKit aR Go.Proofs.aC.R Go.Proofs.aC.Z Go.Proofs.aD.bf
theorem Np {p:PT} (h:decide ((pM (pX p)=0∧(pX p).2.1.size≤40∧(pX p).2.2.size≤40)∧pM (pY p)=0∧(pY p).2.1.size≤40∧(pY p).2.2.size≤40)=true):k9 p:=by
 obtain⟨⟨h1,h2,h3⟩,h4,h5,h6⟩:=of_decide_eq_true h;exact⟨⟨zZ.1 h1,h2,h3⟩,⟨zZ.1 h4,h5,h6⟩⟩
theorem Hr:D7 ps2:=by
 intro j hj;have hl:ps2.length=4:=rfl;have:j=0∨j=1∨j=2∨j=3:=by omega
 rcases this with rfl|rfl|rfl|rfl
 ·exact Np (by decide +kernel)
 ·exact Np (by decide +kernel)
 ·exact Np (by decide +kernel)
 ·exact Np (by decide +kernel)
theorem Vh:r_ ps2.length zs2 2 [] (oJ ps2):=by
 refine⟨by decide,by decide,by decide,fun t ht=>?_,fun j hj=>?_,fun i hi=>absurd hi (Nat.not_lt_zero _)⟩
 ·have:t=0∨t=1:=by omega
  rcases this with rfl|rfl
  ·decide +kernel
  ·decide +kernel
 ·have:j=0∨j=1∨j=2∨j=3∨j=4∨j=5:=by omega
  rcases this with rfl|rfl|rfl|rfl|rfl|rfl <;> decide +kernel
theorem aqg:sP ps2 zs2 2 [] (oJ ps2) 0 2=(0,ps2,[3,0,1,3,1,2],2,[]):=by
 have h1:o8 2 0 2=true:=by decide
 have h2:tT zs2 2 [] (oJ ps2) 2 0 1=some 3:=by decide +kernel
 have h3:vk zs2 0 3 2 0 1 3=[3,0,1,3,1,2]:=by decide +kernel
 unfold sP;rw[if_pos h1];show(match tT zs2 2 [] (oJ ps2) 2 0 1 with
  | none=>mH 7
  | some j=>(0,ps2,vk zs2 0 j 2 0 1 (zs2.getD (3*(j / 3)+px (j%3)) 0),2,[]))=_
 rw[h2];show((0:Int),ps2,vk zs2 0 3 2 0 1 3,2,([]:SS))=_;rw[h3]
theorem aqh:sP ps2 zs2 2 [] (oJ ps2) 0 0=mH 7:=by
 have h1:o8 2 0 0=true:=by decide
 have h2:tT zs2 2 [] (oJ ps2) 0 1 2=none:=by decide +kernel
 unfold sP;rw[if_pos h1];show(match tT zs2 2 [] (oJ ps2) 0 1 2 with
  | none=>mH 7
  | some j=>(0,ps2,vk zs2 0 j 0 1 2 (zs2.getD (3*(j / 3)+px (j%3)) 0),2,[]))=_
 rw[h2]
theorem aqi:Bb zs2 2 0 2=(1,0,0):=by decide +kernel
theorem akt {w:World} {b g1 k1:Nat} {x0 x1 x2 x3 x4 x5:Int} (h:w.ownsRow b 61 3 (.slice (some ⟨g1,0,none⟩) 2 k1) 2 (mh [x0,x1,x2,x3,x4,x5])) :
  w.cell? ⟨g1,0,none⟩=some (.int .i64 x0)∧w.cell? ⟨g1,1,none⟩=some (.int .i64 x1)∧w.cell? ⟨g1,2,none⟩=some (.int .i64 x2)∧w.cell? ⟨g1,3,none⟩=some (.int .i64 x3)∧w.cell? ⟨g1,4,none⟩=some (.int .i64 x4)∧w.cell? ⟨g1,5,none⟩=some (.int .i64 x5) :=
 ⟨h.cells rfl 0 _ rfl,h.cells rfl 1 _ rfl,h.cells rfl 2 _ rfl,h.cells rfl 3 _ rfl,h.cells rfl 4 _ rfl,h.cells rfl 5 _ rfl⟩
attribute [local go_sem high] eqT
theorem ale (w:World):Calls Tryz.prog 8 #[] w fun e w'=>e = .returned (.bool true)∧Below w.heap.size w w':=by
 have H2:=qh (aoy w);have m_:=qh (Below.refl w.heap.size w);go_enter Tryz.func8,Tryz.ntmps8;go_wp2_with (refine H2.out.mono ?_;rintro e w1 ⟨v0,v1,rfl,gD,hb⟩;refine Stop.out ?_)
 refine⟨?_⟩;obtain⟨A0,c0,A1,c1,A2,c2,rfl,rfl,hv2,hc1,hA⟩:=gD.args;injection hv2 with e1 e2 e3
 subst e1 e3;clear e2;have dW:=(Below.refl w1.heap.size w1).alloc (Nat.le_refl _) (.cells #[.slice A0 ps2.length c0,.slice A1 2 c1,.slice none 0 0] 26);have dD:=qh (hb.trans (dW.mono hb.size));have PK:=qh (hA.below dW rfl);have fA:=qh (show aM ((w1.alloc (.cells #[.slice A0 ps2.length c0,.slice A1 2 c1,.slice none 0 0] 26)).heap[w1.heap.size]?=some (.cells #[.slice A0 ps2.length c0,.slice A1 2 c1,.slice none 0 0] 26 (0,0))) from ⟨jq _ _⟩);clear dW hb gD hA H2;go_upto_region 2 with fail
 generalize (w1.alloc (.cells #[.slice A0 ps2.length c0,.slice A1 2 c1,.slice none 0 0] 26))=w2 at dD PK fA ⊢;generalize w1.heap.size=g at fA ⊢;have HF:=qh (fun W (hA:mZ W A0 A1 none c0 0 ps2 zs2 2 [])=>agF A0 A1 none c0 2 c1 0 ps2 zs2 [] W hA 40 (Mk Hr (by decide) 40 (by decide)) (oJ ps2) (PI Hr 40 (by decide)) Vh 0 2);have WI:=qh (fun W (hA:mZ W A0 A1 none c0 0 ps2 zs2 2 [])=>aaB A0 A1 none c0 2 c1 0 ps2 zs2 [] W hA rfl 40 (Mk Hr (by decide) 40 (by decide)) (oJ ps2) (PI Hr 40 (by decide)) Vh (aaG ps2) 0 2);have WJ:=qh (fun W (hA:mZ W A0 A1 none c0 0 ps2 zs2 2 [])=>aaB A0 A1 none c0 2 c1 0 ps2 zs2 [] W hA rfl 40 (Mk Hr (by decide) 40 (by decide)) (oJ ps2) (PI Hr 40 (by decide)) Vh (aaG ps2) 0 0);rw[aqi]at HF
 rw[aqg]at WI
 rw[aqh]at WJ
 obtain⟨a0,a1,a2,a3,a4,a5⟩:=z3 fA.out;go_wp2_with (refine(HF.out _ PK.out).mono ?_;rintro e w3 ⟨rfl,hb⟩;refine Stop.out ?_)
 refine⟨?_⟩;have WK:=qh (PK.out.below hb rfl);have dy:=qh (dD.out.trans (hb.mono dD.out.size));have l7:=qh (show aM (w3.heap[g]?=some (.cells #[.slice A0 ps2.length c0,.slice A1 2 c1,.slice none 0 0] 26 (0,0))) from ⟨eA fA.out.out hb⟩);clear hb PK dD fA HF a0 a1 a2 a3 a4 a5;obtain⟨a0,a1,a2,a3,a4,a5⟩:=z3 l7.out;go_wp2_with (refine(WI.out _ WK.out).mono ?_;rintro e w4 ⟨u0,u1,u2,rfl,gD,hb⟩;refine Stop.out ?_)
 refine⟨?_⟩;replace gD:OM w4 w3.heap.size u0 u1 u2 ps2 [3,0,1,3,1,2] 2 []:=gD;obtain⟨g1,k1,rfl⟩:=gD.blk (by decide);obtain⟨D0,d0,D1,d1,D2,d2,rfl,-,rfl,-,-⟩:=gD.args;have dW:=(Below.refl w4.heap.size w4).alloc (Nat.le_refl _) (.cells #[.slice D0 ps2.length d0,.slice (some ⟨g1,0,none⟩) 2 k1,.slice D2 ([]:SS).length d2] 26);have cH:=hb.trans (dW.mono hb.size);have WL:=qh (WK.out.below cH rfl);have jL:=qh (dy.out.trans (cH.mono dy.out.size));have pS:=qh (show aM ((w4.alloc (.cells #[.slice D0 ps2.length d0,.slice (some ⟨g1,0,none⟩) 2 k1,.slice D2 ([]:SS).length d2] 26)).heap[g]?=some (.cells #[.slice A0 ps2.length c0,.slice A1 2 c1,.slice none 0 0] 26 (0,0))) from ⟨eA l7.out.out cH⟩);have lG:=qh (show aM ((w4.alloc (.cells #[.slice D0 ps2.length d0,.slice (some ⟨g1,0,none⟩) 2 k1,.slice D2 ([]:SS).length d2] 26)).heap[w4.heap.size]?=some (.cells #[.slice D0 ps2.length d0,.slice (some ⟨g1,0,none⟩) 2 k1,.slice D2 ([]:SS).length d2] 26 (0,0))) from ⟨jq _ _⟩);have WM:=qh (EV gD.t dW);clear dW hb cH gD WK dy l7 WI a0 a1 a2 a3 a4 a5;go_upto_region 4 with fail
 generalize (w4.alloc (.cells #[.slice D0 ps2.length d0,.slice (some ⟨g1,0,none⟩) 2 k1,.slice D2 ([]:SS).length d2] 26))=w5 at WL jL pS lG WM ⊢;generalize w4.heap.size=h at lG ⊢;obtain⟨a0,a1,a2,a3,a4,a5⟩:=z3 pS.out;go_wp2_with (refine(WJ.out _ WL.out).mono ?_;rintro e w6 ⟨u0,u1,u2,rfl,gD,hb⟩;refine Stop.out ?_)
 refine⟨?_⟩;replace gD:OM w6 w5.heap.size u0 u1 u2 [] [] 0 []:=gD;obtain⟨E0,f0,E1,f1,E2,f2,rfl,rfl,rfl,-,-⟩:=gD.args;have lU:=hb.trans (((Below.refl w6.heap.size w6).alloc (Nat.le_refl _) (.cells #[.slice E0 ([]:PS).length f0,.slice E1 0 f1,.slice E2 ([]:SS).length f2] 26)).mono hb.size);have vU:=qh (jL.out.trans (lU.mono jL.out.size));have HN6:=qh (show aM ((w6.alloc (.cells #[.slice E0 ([]:PS).length f0,.slice E1 0 f1,.slice E2 ([]:SS).length f2] 26)).heap[h]?=some (.cells #[.slice D0 ps2.length d0,.slice (some ⟨g1,0,none⟩) 2 k1,.slice D2 ([]:SS).length d2] 26 (0,0))) from ⟨eA lG.out.out lU⟩);have HO6:=qh (EV WM.out lU);clear hb lU gD WL jL pS lG WM WJ a0 a1 a2 a3 a4 a5;go_upto_region 5 with fail
 generalize (w6.alloc (.cells #[.slice E0 ([]:PS).length f0,.slice E1 0 f1,.slice E2 ([]:SS).length f2] 26))=w7 at vU HN6 HO6 ⊢;obtain⟨a0,a1,a2,a3,a4,a5⟩:=z3 HN6.out;obtain⟨x0,x1,x2,x3,x4,x5⟩:=akt HO6.out;go_wp2
 go_ret
 exact⟨rfl,vU.out⟩
theorem add_add (ad:Addr) (m n:Nat):(ad.add m).add n=ad.add (m+n):=by
 unfold Addr.add;by_cases h1:m=0
 ·subst h1;simp
 ·by_cases h2:n=0
  ·subst h2;simp[h1]
  ·have h3:¬ m+n=0:=by omega
   simp only[if_neg h1,if_neg h2,if_neg h3];congr 1
   omega
abbrev P6 (ad:Addr) (ps:PS) (i:Nat) (w:World):Prop:=w.cell? (ad.add (i*6))=some (.bool (aA ps i).f0.f0.f0)∧w.cell? ⟨(ad.add (i*6)).block,(ad.add (i*6)).off+1,none⟩=some (.string (aA ps i).f0.f0.f1)∧w.cell? ⟨(ad.add (i*6)).block,(ad.add (i*6)).off+2,none⟩=some (.string (aA ps i).f0.f1)∧w.cell? ⟨(ad.add (i*6)).block,(ad.add (i*6)).off+3,none⟩=some (.bool (aA ps i).f1.f0.f0)∧w.cell? ⟨(ad.add (i*6)).block,(ad.add (i*6)).off+4,none⟩=some (.string (aA ps i).f1.f0.f1)∧w.cell? ⟨(ad.add (i*6)).block,(ad.add (i*6)).off+5,none⟩=some (.string (aA ps i).f1.f1)
abbrev SP (w0:World) (ad:Addr) (ps:PS) (i j k l:Nat) (w:World):Prop:=P6 ad ps i w∧P6 ad ps j w∧P6 ad ps k w∧P6 ad ps l w∧Below w0.heap.size w0 w
structure RF (g:Nat) (w:World) (A0 A1 A2:Option Addr) (n0 c0 n1 c1 n2 c2:Nat) (W:World):Prop where
 box:MB g w A0 A1 A2 n0 c0 n1 c1 n2 c2 W
 br:aM (W.heap[g+1]?=some (.cells fM 26 (0,0)))
structure ace (p:Prop):Prop where
 out:p
structure M2 (g:Nat) (w:World) (A0 A1 A2 B0 B1 B2:Option Addr) (n0 c0 n1 c1 n2 c2 d0 d1 d2:Nat) (wr:World):Prop where
 a:MB g w A0 A1 A2 n0 c0 n1 c1 n2 c2 wr
 b0:wr.cell? ⟨g+1,0,none⟩=some (.slice B0 n0 d0)
 b1:wr.cell? ⟨g+1,1,none⟩=some (.slice B1 n1 d1)
 b2:wr.cell? ⟨g+1,2,none⟩=some (.slice B2 n2 d2)
theorem M2.step {g:Nat} {w:World} {A0 A1 A2 B0 B1 B2:Option Addr} {n0 c0 n1 c1 n2 c2 d0 d1 d2:Nat} {wr w2:World} (h:M2 g w A0 A1 A2 B0 B1 B2 n0 c0 n1 c1 n2 c2 d0 d1 d2 wr) (hb:Below wr.heap.size wr w2):M2 g w A0 A1 A2 B0 B1 B2 n0 c0 n1 c1 n2 c2 d0 d1 d2 w2 :=
 ⟨h.a.step hb,(hb.cell (ql h.b0)).trans h.b0,(hb.cell (ql h.b1)).trans h.b1,(hb.cell (ql h.b2)).trans h.b2⟩
theorem Mb {w:World} {ad:Addr} {n:Nat} {zs:List Int} (h:IR w (some ad) (3*n) zs) {t:Nat} (ht:t<n):w.cell? (ad.add (t*3))=some (.int .i64 (zs.getD (3*t) 0))∧w.cell? ⟨(ad.add (t*3)).block,(ad.add (t*3)).off+1,none⟩=some (.int .i64 (zs.getD (3*t+1) 0))∧w.cell? ⟨(ad.add (t*3)).block,(ad.add (t*3)).off+2,none⟩=some (.int .i64 (zs.getD (3*t+2) 0)):=by
 obtain⟨yG,e,hc⟩:=h (by omega);obtain rfl:=Option.some.inj e;have y0:=hc (t*3) (by omega);have y1:=hc (t*3+1) (by omega);have y2:=hc (t*3+2) (by omega);rw[vv _ _ _ (by decide)]at y1 y2
 rw[show t*3=3*t by omega]at y0 y1 y2 ⊢
 exact⟨y0,y1,y2⟩
attribute [local go_sem high] eqT
theorem aaH (A0 A1 A2 B0 B1 B2:Option Addr) (c0 n1 c1 c2 d0 d1 d2:Nat) (ps:PS) (zs:List Int) (ss:SS) (w:World) (hA:mZ w A0 A1 A2 c0 c2 ps zs n1 ss) (hB:mZ w B0 B1 B2 d0 d2 ps zs n1 ss) (hl:ps.length≤1000∧n1≤1000∧ss.length≤2000) (K:Nat) (hK:2001≤K) :
  Calls Tryz.prog 12 #[.agg #[.slice A0 ps.length c0,.slice A1 n1 c1,.slice A2 ss.length c2],.agg #[.slice B0 ps.length d0,.slice B1 n1 d1,.slice B2 ss.length d2]] w fun e w'=>e = .returned (.bool true)∧Below w.heap.size w w':=by
 obtain⟨n0,hn0⟩:∃ n,ps.length=n:=⟨_,rfl⟩
 obtain⟨n2,hn2⟩:∃ n,ss.length=n:=⟨_,rfl⟩
 have HM:=qh (show M2 w.heap.size w A0 A1 A2 B0 B1 B2 n0 c0 n1 c1 n2 c2 d0 d1 d2 ((w.alloc (.cells #[.slice A0 n0 c0,.slice A1 n1 c1,.slice A2 n2 c2] 26)).alloc (.cells #[.slice B0 n0 d0,.slice B1 n1 d1,.slice B2 n2 d2] 26)) from
  ⟨(MB.new w A0 A1 A2 n0 c0 n1 c1 n2 c2).step ((Below.refl _ _).alloc (Nat.le_refl _) _),by simp[go_sem],by simp[go_sem],by simp[go_sem]⟩)
 rw[hn0,hn2]at hl
 have HL:=qh hl;have H0:=qh hn0;have H2:=qh hn2;have HA:=qh hA;have HB:=qh hB;have sj:=qh (akj ps K (by omega) (by omega));have HS2:=qh (akl ss K (by omega) (by omega));rw[hn0,hn2];clear hA hB hl hn0 hn2 hK;obtain⟨g,hg⟩:∃ g,w.heap.size=g:=⟨_,rfl⟩
 have HG:=qh hg;rw[hg]at HM
 go_enter Tryz.func12,Tryz.ntmps12;go_upto_region 1 with fail
 generalize ((w.alloc (.cells #[.slice A0 n0 c0,.slice A1 n1 c1,.slice A2 n2 c2] 26)).alloc (.cells #[.slice B0 n0 d0,.slice B1 n1 d1,.slice B2 n2 d2] 26))=w1 at HM ⊢;have q1:=HM.out.a.b1;have q2:=HM.out.b1;go_wp2
 clear q1 q2;go_loopw [5] (fun v wr=>∃ (i:Nat),i≤n1∧v = .int .i64 (i:Int)∧Hid (M2 g w A0 A1 A2 B0 B1 B2 n0 c0 n1 c1 n2 c2 d0 d1 d2 wr)) (fun v _=>n1-(intOf v).toNat)
 case atStart=>exact⟨0,Nat.zero_le _,rfl,HM⟩
 case round =>
  obtain⟨i,ht,rfl,hI⟩:=hrel;clear HM;have q1:=hI.out.a.b1;have q2:=hI.out.b1;by_cases htn:i<n1
  ·have h1:decide ((i:Int)<(n1:Int))=true:=decide_eq_true (by omega)
   have h2:((i:Int)<(n1:Int))=True:=eq_true (by omega);have h3:(i<n1)=True:=eq_true htn;have h4:((0:Int)≤(i:Int))=True:=eq_true (by omega);obtain⟨ad,rfl,-⟩:=(HA.out.below hI.out.a.below HG.out.symm).t (by omega);obtain⟨bd,rfl,-⟩:=(HB.out.below hI.out.a.below HG.out.symm).t (by omega);obtain⟨y0,y1,y2⟩:=Mb (HA.out.below hI.out.a.below HG.out.symm).t htn;obtain⟨x0,x1,x2⟩:=Mb (HB.out.below hI.out.a.below HG.out.symm).t htn;have HT:=qh htn;clear htn ht;go_wp2
   refine Ma wr (by kernel_rfl) (by kernel_rfl) ?_;have y0':=cO y0;have y1':=cO y1;have y2':=cO y2;have x0':=cO x0;have x1':=cO x1;have x2':=cO x2;have q1':=cO q1;have q2':=cO q2;clear y0 y1 y2 x0 x1 x2 q1 q2;repeat(go_big_quiet_step (fail))
   refine wpQuiet_nil ?_;intro _ hw';obtain⟨p,rfl⟩:=hw';go_wp2
   rw[lS (by have:=HT.out;have:=HL.out;omega)];exact⟨⟨i+1,by have:=HT.out;omega,rfl,qh (hI.out.step (p.h.mono (Nat.le_refl _)))⟩,by have:=HT.out;show n1-(((i+1:Nat):Int)).toNat<n1-((i:Nat):Int).toNat;omega⟩
  ·have h1:decide ((i:Int)<(n1:Int))=false:=decide_eq_false (by omega)
   have zg:decide (i<n1)=false:=decide_eq_false htn;have q0:=hI.out.a.b0;have q3:=hI.out.b0;have HS:=qh (pU.calls K A0 c0 ps B0 d0 ps true wr (HA.out.below hI.out.a.below HG.out.symm).p HA.out.pc (HB.out.below hI.out.a.below HG.out.symm).p HB.out.pc sj.out);rw[H0.out]at HS
   go_wp2_with (refine HS.out.mono ?_;rintro e w3 ⟨rfl,hb⟩;refine ace.out ?_)
   refine⟨?_⟩;have tj:=qh (hI.out.step hb.below);clear hb HS q0 q1 q2 q3;have q0:=tj.out.a.b2;have q3:=tj.out.b2;have HS:=qh (pV.calls K A2 c2 ss B2 d2 ss true w3 (HA.out.below tj.out.a.below HG.out.symm).s HA.out.sc (HB.out.below tj.out.a.below HG.out.symm).s HB.out.sc HS2.out);rw[H2.out]at HS
   go_wp2_with (refine HS.out.mono ?_;rintro e w4 ⟨rfl,hb⟩;refine ace.out ?_)
   refine⟨?_⟩;have Lk:=qh (tj.out.step hb.below);clear hb;go_wp2
   go_ret
   exact⟨rfl,by rw[HG.out];exact Lk.out.a.below⟩
structure LB (h:Nat) (ps:PS) (zs:List Int) (n1:Nat) (ss:SS) (A0 A1 A2:Option Addr) (c0 c1 c2 n0 n2:Nat) (W:World):Prop where
 a:mZ W A0 A1 A2 c0 c2 ps zs n1 ss
 b:aM (W.heap[h]?=some (.cells #[.slice A0 n0 c0,.slice A1 n1 c1,.slice A2 n2 c2] 26 (0,0)))
theorem LB.step {h:Nat} {ps:PS} {zs:List Int} {n1:Nat} {ss:SS} {A0 A1 A2:Option Addr} {c0 c1 c2 n0 n2:Nat} {W W':World} (hl:LB h ps zs n1 ss A0 A1 A2 c0 c1 c2 n0 n2 W) (hb:Below W.heap.size W W'):LB h ps zs n1 ss A0 A1 A2 c0 c1 c2 n0 n2 W':=⟨hl.a.below hb rfl,⟨eA hl.b.out hb⟩⟩
theorem LB.new {w W:World} {b:Nat} {A0 A1 A2:Option Addr} {c0 c1 c2:Nat} {ps:PS} {zs:List Int} {n1:Nat} {ss:SS} (h:mZ W A0 A1 A2 c0 c2 ps zs n1 ss):LB W.heap.size ps zs n1 ss A0 A1 A2 c0 c1 c2 ps.length ss.length (W.alloc (.cells #[.slice A0 ps.length c0,.slice A1 n1 c1,.slice A2 ss.length c2] 26)) :=
 ⟨h.below ((Below.refl _ _).alloc (Nat.le_refl _) _) rfl,⟨jq _ _⟩⟩
abbrev uw:=aX
abbrev iK (p:uw):Array Value:=#[.bool p.f0.f0.f0,.string p.f0.f0.f1,.string p.f0.f1,.bool p.f1.f0.f0,.string p.f1.f0.f1,.string p.f1.f1]
theorem aoA {w:World} {b:Nat} {p:uw} (h:w.heap[b]?=some (.cells (iK p) 42 (0,0))):Kd.C dF w (some ⟨b,0,none⟩) 1 [p]:=by
 refine⟨rfl,by omega,fun _=>⟨_,rfl,fun j q hj=>?_⟩⟩;cases j with
 | succ j=>simp at hj
 | zero =>
  simp at hj;subst hj;refine⟨_,rfl,wL w p,fun i u hi=>?_⟩;rw[Nat.zero_mul,Nat.zero_add];have:(⟨b,0,none⟩:Addr).add i=⟨b,i,none⟩:=by unfold Addr.add;split <;> simp_all
  rw[this,gP h];simpa using hi
theorem MU {w:World} {b:Nat} {c:Array Value} {t:TypeId} (h:w.heap[b]?=some (.cells c t (0,0))):∀ j u,c.toList[j]?=some u→w.cell? ((⟨b,0,none⟩:Addr).add j)=some u:=by
 intro j u hj;have:(⟨b,0,none⟩:Addr).add j=⟨b,j,none⟩:=by unfold Addr.add;split <;> simp_all
 rw[this,gP h];simpa using hj
theorem alf (A0 A1 A2:Option Addr) (n0 c0 n1 c1 n2 c2:Nat) (w:World) (h0:n0<400) (h1:n1≤898) :
  Calls Tryz.prog 40 #[.agg #[.slice A0 n0 c0,.slice A1 n1 c1,.slice A2 n2 c2]] w fun e w'=>e = .returned (.bool false)∧Below w.heap.size w w':=by
 have HM:=qh (MB.new w A0 A1 A2 n0 c0 n1 c1 n2 c2);have q0:=HM.out.b0;have q1:=HM.out.b1;have e0:decide ((400:Int)≤(n0:Int))=false:=decide_eq_false (by omega);have EH:decide (400≤n0)=false:=decide_eq_false (by omega);have e1:decide ((898:Int)<(n1:Int))=false:=decide_eq_false (by omega);have EI:decide (898<n1)=false:=decide_eq_false (by omega);clear h0 h1;go_enter Tryz.func40,Tryz.ntmps40;go_wp2
 go_ret
 exact⟨rfl,HM.out.below⟩
structure RP (g:Nat) (w:World) (A0 A1 A2:Option Addr) (n0 c0 n1 c1 n2 c2:Nat) (p:uw) (W:World):Prop where
 box:MB g w A0 A1 A2 n0 c0 n1 c1 n2 c2 W
 bp:aM (W.heap[g+1]?=some (.cells (iK p) 42 (0,0)))
 br:aM (W.heap[g+2]?=some (.cells fM 26 (0,0)))
theorem RP.step {g:Nat} {w:World} {A0 A1 A2:Option Addr} {n0 c0 n1 c1 n2 c2:Nat} {p:uw} {W W':World} (h:RP g w A0 A1 A2 n0 c0 n1 c1 n2 c2 p W) (hb:Below W.heap.size W W'):RP g w A0 A1 A2 n0 c0 n1 c1 n2 c2 p W' :=
 ⟨h.box.step hb,⟨eA h.bp.out hb⟩,⟨eA h.br.out hb⟩⟩
theorem RP.new (w:World) (A0 A1 A2:Option Addr) (n0 c0 n1 c1 n2 c2:Nat) (p:uw):RP w.heap.size w A0 A1 A2 n0 c0 n1 c1 n2 c2 p (((w.alloc (.cells #[.slice A0 n0 c0,.slice A1 n1 c1,.slice A2 n2 c2] 26)).alloc (.cells (iK p) 42)).alloc (.cells fM 26)):=by
 refine⟨(MB.new w A0 A1 A2 n0 c0 n1 c1 n2 c2).step (((Below.refl _ _).alloc (Nat.le_refl _) _).alloc (by simp) _),⟨?_⟩,⟨?_⟩⟩
 ·have:=aF (jq (w.alloc (.cells #[.slice A0 n0 c0,.slice A1 n1 c1,.slice A2 n2 c2] 26)) (.cells (iK p) 42)) (.cells fM 26)
  simpa using this
 ·have:=jq ((w.alloc (.cells #[.slice A0 n0 c0,.slice A1 n1 c1,.slice A2 n2 c2] 26)).alloc (.cells (iK p) 42)) (.cells fM 26)
  simpa using this
theorem RP.bad {g:Nat} {w:World} {A0 A1 A2:Option Addr} {n0 c0 n1 c1 n2 c2:Nat} {p:uw} {W:World} (h:RP g w A0 A1 A2 n0 c0 n1 c1 n2 c2 p W) (hg:w.heap.size=g) (r:Int) :
  (((W.setCell ⟨g+2,0,none⟩ (.slice none 0 0)).setCell ⟨g+2,1,none⟩ (.slice none 0 0)).setCell ⟨g+2,2,none⟩ (.slice none 0 0)).heap[g+2]?=some (.cells fM 26 (0,0))∧tP w (mH r) (.returned (.tuple #[.agg fM,.int .i64 r])) (((W.setCell ⟨g+2,0,none⟩ (.slice none 0 0)).setCell ⟨g+2,1,none⟩ (.slice none 0 0)).setCell ⟨g+2,2,none⟩ (.slice none 0 0)):=by
 have h3:=ret3 h.box.below h.br (show g<g+2 by omega) (.slice none 0 0) (.slice none 0 0) (.slice none 0 0);exact⟨h3.1,tP.bad _ _ _ (by rw[hg];exact h3.2)⟩
theorem SI.aej {g vb:Nat} {w W wn:World} {A0 A1 A2:Option Addr} {n0 c0 m1 c1 n2 c2:Nat} {p:uw} {x0 x1 x2:Int} {v0 v1 v2:Value} {ps:PS} {zs:List Int} {n1:Nat} {ss:SS} (hF:RP g w A0 A1 A2 n0 c0 m1 c1 n2 c2 p W) (hV:aM (W.heap[vb]?=some (.cells #[.int .i64 x0,.int .i64 x1,.int .i64 x2] 61 (0,0)))) (hb:Below W.heap.size W wn) (hO:OM wn W.heap.size v0 v1 v2 ps zs n1 ss) :
  SI g wn.heap.size W.heap.size vb w (iK p) #[v0,v1,v2] x0 x1 x2 v0 v1 v2 ps zs n1 ss (wn.alloc (.cells #[v0,v1,v2] 26)):=by
 have dW:=(Below.refl wn.heap.size wn).alloc (Nat.le_refl _) (.cells #[v0,v1,v2] 26);have hF2:=(hF.step hb).step dW;exact⟨hO.below dW,hF2.bp,hF2.br,⟨eA (eA hV.out hb) dW⟩,⟨jq _ _⟩,hF2.box.below,⟨fJ hF.br.out,fJ hV.out,Nat.lt_of_lt_of_le (fJ hF.br.out) hb.size,Nat.lt_of_lt_of_le (fJ hV.out) hb.size⟩,Nat.le_trans hb.size dW.size⟩
theorem SI.aqt {g o vb:Nat} {w W wn:World} {A0 A1 A2:Option Addr} {n0 c0 m1 c1 n2 c2:Nat} {p:uw} {x0 x1 x2:Int} {v0 v1 v2:Value} {ps:PS} {zs:List Int} {n1:Nat} {ss:SS} (hb:Below W.heap.size W wn) (hO:OM wn W.heap.size v0 v1 v2 ps zs n1 ss) (hF:RP g w A0 A1 A2 n0 c0 m1 c1 n2 c2 p W) (hV:aM (W.heap[vb]?=some (.cells #[.int .i64 x0,.int .i64 x1,.int .i64 x2] 61 (0,0)))) (ho:W.heap[o]?=some (.cells fM 26 (0,0))) (h1:g+2<o∧vb<o) :
  SI g o W.heap.size vb w (iK p) #[v0,v1,v2] x0 x1 x2 v0 v1 v2 ps zs n1 ss (((wn.setCell ⟨o,0,none⟩ v0).setCell ⟨o,1,none⟩ v1).setCell ⟨o,2,none⟩ v2):=by
 have hF2:=hF.step hb;have h:SI g o W.heap.size vb w (iK p) fM x0 x1 x2 v0 v1 v2 ps zs n1 ss wn:=⟨hO,hF2.bp,hF2.br,⟨eA hV.out hb⟩,⟨eA ho hb⟩,hF2.box.below,⟨fJ hF.br.out,fJ hV.out,h1⟩,hb.size⟩
 exact((h.st 0 v0).st 1 v1).st 2 v2
def WiO (K:Nat) (ps:PS) (p:uw) (wi:Nat→Nat→Nat→Int):Prop:=∀ i j k,i<ps.length→j<ps.length→k<ps.length →
 pz.f K (aA ps i).f0.f0.f0 (aA ps i).f0.f0.f1 (aA ps i).f0.f1 (aA ps i).f1.f0.f0 (aA ps i).f1.f0.f1 (aA ps i).f1.f1 (aA ps j).f0.f0.f0 (aA ps j).f0.f0.f1 (aA ps j).f0.f1 (aA ps j).f1.f0.f0 (aA ps j).f1.f0.f1 (aA ps j).f1.f1 (aA ps k).f0.f0.f0 (aA ps k).f0.f0.f1 (aA ps k).f0.f1 (aA ps k).f1.f0.f0 (aA ps k).f1.f0.f1 (aA ps k).f1.f1 p.f0.f0.f0 p.f0.f0.f1 p.f0.f1 p.f1.f0.f0 p.f1.f0.f1 p.f1.f1=some (wi i j k)
theorem alg (A0 A1 A2:Option Addr) (c0 n1 c1 c2:Nat) (ps:PS) (zs:List Int) (ss:SS) (w:World) (hA:mZ w A0 A1 A2 c0 c2 ps zs n1 ss) (hz:zs.length=3*n1) (K:Nat) (bC:Nat→Nat→Nat→Int) (hM:r_ ps.length zs n1 ss bC) (hl:ps.length<400∧n1≤898) (p:uw) (br:Int) (hK:jN.f K [p]=some br) (wi:Nat→Nat→Nat→Int) (hW:br=0→WiO K ps p wi) (t:Int) :
  Calls Tryz.prog 15 #[.agg #[.slice A0 ps.length c0,.slice A1 n1 c1,.slice A2 ss.length c2],.int .i64 t,.agg (iK p)] w fun e w'=>tP w (uP ps zs n1 ss wi br p t) e w':=by
 obtain⟨n0,hn0⟩:∃ n,ps.length=n:=⟨_,rfl⟩
 obtain⟨n2,hn2⟩:∃ n,ss.length=n:=⟨_,rfl⟩
 have HL:=qh (show n0<400∧n1≤898∧n2≤1300 from ⟨hn0 ▸ hl.1,hl.2,hn2 ▸ hM.l2⟩);have jh:=qh (RP.new w A0 A1 A2 n0 c0 n1 c1 n2 c2 p);have H0:=qh hn0;have H2:=qh hn2;have HZ:=qh hz;have HA:=qh hA;have HM:=qh hM;have HK:=qh hK;have HW:=qh hW;rw[hn0,hn2];clear hA hz hM hW hK hl hn0 hn2;obtain⟨g,hg⟩:∃ g,w.heap.size=g:=⟨_,rfl⟩
 have HG:=qh hg;rw[hg]at jh
 go_enter Tryz.func15,Tryz.ntmps15;go_upto_region 1 with fail
 rw[show(#[.slice none 0 0,.slice none 0 0,.slice none 0 0]:Array Value)=fM from rfl];generalize (((w.alloc (.cells #[.slice A0 n0 c0,.slice A1 n1 c1,.slice A2 n2 c2] 26)).alloc (.cells (iK p) 42)).alloc (.cells fM 26))=w1 at jh ⊢;have q0:=jh.out.box.b0;have q1:=jh.out.box.b1;have q2:=jh.out.box.b2;have LG:=qh (aph A0 A1 A2 n0 c0 n1 c1 n2 c2 w1 t 0);cases hB:o8 n1 t 0 with
 | false =>
  rw[hB]at LG
  have eN:=qh (show uP ps zs n1 ss wi br p t=mH 1 from if_neg (by rw[hB];decide));clear hB;go_wp2_with (refine LG.out.mono ?_;rintro e w2 ⟨rfl,hb⟩;refine Stop.out ?_)
  refine⟨?_⟩;have gI:=qh (jh.out.step hb);clear hb;obtain⟨b0,b1,b2,b3,b4,b5⟩:=z3 gI.out.br;go_wp2_with (refine sB (p:=6) (u:=7) (g:=g+2) (cs:=fM) (v := .int .i64 1) ?_ ?_ ?_ (gI.out.bad HG.out 1).1 Tryz.underlying26 ?_ ?_ ?_ ?_;exact(by kernel_rfl);exact(by kernel_rfl);exact(by kernel_rfl);rfl;exact(by kernel_rfl);rfl;rw[eN.out];exact(gI.out.bad HG.out 1).2)
 | true =>
  rw[hB]at LG
  have hR:=hB;unfold o8 at hR;simp only[Bool.and_eq_true,decide_eq_true_eq]at hR;obtain⟨⟨⟨a1,a2⟩,a3⟩,a4⟩:=hR;obtain⟨T,rfl⟩:=Int.eq_ofNat_of_zero_le a1;have hT:T<n1:=by omega
  have HR:=qh (show uP ps zs n1 ss wi br p (T:Int)=_ from if_pos hB);simp only[Int.toNat_natCast]at HR;have HT:=qh hT;have gX:=HM.out.inr (j:=3*T) (by omega);have fA:=HM.out.inr (j:=3*T+1) (by omega);have l7:=HM.out.inr (j:=3*T+2) (by omega);rw[H0.out]at gX fA l7
  obtain⟨na,iT⟩:∃ x:Nat,zs.getD (3*T) 0=x:=⟨_,(Int.toNat_of_nonneg gX.1).symm⟩
  obtain⟨nb,iU⟩:∃ x:Nat,zs.getD (3*T+1) 0=x:=⟨_,(Int.toNat_of_nonneg fA.1).symm⟩
  obtain⟨nc,lJ⟩:∃ x:Nat,zs.getD (3*T+2) 0=x:=⟨_,(Int.toNat_of_nonneg l7.1).symm⟩
  rw[iT,iU,lJ,H0.out]at HR
  simp only[Int.toNat_natCast]at HR;rw[iT]at gX
  rw[iU]at fA
  rw[lJ]at l7
  have ED:=qh iT;have EE:=qh iU;have Lz:=qh lJ;have ej:=qh (show na<n0∧nb<n0∧nc<n0 by omega);clear iT iU lJ gX fA l7 hT a1 a2 a3 a4 hB;go_wp2_with (refine LG.out.mono ?_;rintro e w2 ⟨rfl,hb⟩;refine Stop.out ?_)
  refine⟨?_⟩;have gI:=qh (jh.out.step hb);clear hb LG jh q0 q1 q2;obtain⟨p0,p1,p2,p3,p4,p5,p6,p7,p8,p9,EJ,EK⟩:=z6 gI.out.bp;have vZ:=qh (jN.calls K (some ⟨w2.heap.size,0,none⟩) 1 [p] br (w2.alloc (.cells (iK p) 42)) (aoA (jq _ _)) (Nat.le_refl _) HK.out);go_wp2_with (refine vZ.out.mono ?_;rintro e w3 ⟨rfl,hb⟩;refine Stop.out ?_)
  refine⟨?_⟩;have dW:=((Below.refl w2.heap.size w2).alloc (Nat.le_refl _) (.cells (iK p) 42)).trans (hb.mono (by simp));have eI:=qh (gI.out.step dW);clear dW hb vZ gI p0 p1 p2 p3 p4 p5 p6 p7 p8 p9 EJ EK;by_cases hbr:br=0
  ·subst hbr
   have mK:=qh (HR.out.trans (if_pos rfl));have q1:=eI.out.box.b1;have fQ:=qh (HA.out.below eI.out.box.below HG.out.symm);obtain⟨ad,rfl,-⟩:=fQ.out.t (by have:=HT.out;omega);obtain⟨y0,y1,y2⟩:=Mb fQ.out.t HT.out;rw[ED.out]at y0
   rw[EE.out]at y1
   rw[Lz.out]at y2
   have WA:((T:Int)<(n1:Int))=True:=eq_true (by have:=HT.out;omega);have WB:(T<n1)=True:=eq_true HT.out;have WC:((0:Int)≤(T:Int))=True:=eq_true (by omega);clear HR fQ;go_upto_region 7 with fail
   have gC:=qh (eI.out.step ((Below.refl w3.heap.size w3).alloc (Nat.le_refl _) (.cells #[.int .i64 (na:Int),.int .i64 (nb:Int),.int .i64 (nc:Int)] 61)));have wm:=qa (jq w3 (.cells #[.int .i64 (na:Int),.int .i64 (nb:Int),.int .i64 (nc:Int)] 61));clear eI q1 y0 y1 y2;generalize (w3.alloc (.cells #[.int .i64 (na:Int),.int .i64 (nb:Int),.int .i64 (nc:Int)] 61))=w4 at gC wm ⊢;generalize w3.heap.size=vb at wm ⊢;have HP:=qh (HA.out.below gC.out.box.below HG.out.symm).p;rw[H0.out]at HP
   obtain⟨BX,rfl,-⟩:=nJ HP.out (na:Int) (by omega) (by have:=ej.out;omega);obtain⟨wv,EL⟩:∃ x,wi na nb nc=x:=⟨_,rfl⟩
   have BZ:=HW.out rfl na nb nc (by rw[H0.out];exact ej.out.1) (by rw[H0.out];exact ej.out.2.1) (by rw[H0.out];exact ej.out.2.2);rw[EL]at BZ
   simp only[EL]at mK;clear EL;have xx:=qh (fun W (hW:Below w4.heap.size w4 W)=>pz.calls K _ _ _ _ _ _ _ _ _ _ _ _ _ _ _ _ _ _ _ _ _ _ _ _ _ W BZ);clear BZ;obtain⟨D0,D1,D2,D3,D4,D5⟩:=sH HP.out na ej.out.1;obtain⟨P0,P1,P2,P3,P4,P5⟩:=sH HP.out nb ej.out.2.1;obtain⟨C0,C1,C2,C3,C4,C5⟩:=sH HP.out nc ej.out.2.2;obtain⟨E0,E1,E2,E3,E4,E5,_,_,_,_,_,_⟩:=z6 gC.out.bp;obtain⟨V0,V1,V2,_,_,_⟩:=z3 wm;have Q0:=gC.out.box.b0;have q0:=cO Q0;have BV:=cO V0;have v1':=cO V1;have v2':=cO V2;have nw:=cO D0;have qV:=cO D1;have WO:=cO D2;have WQ:=cO D3;have WR:=cO D4;have WS:=cO D5;have WT:=cO P0;have p1':=cO P1;have p2':=cO P2;have WU:=cO P3;have WV:=cO P4;have WW:=cO P5;have EM:=cO C0;have EN:=cO C1;have EO:=cO C2;have EP:=cO C3;have ER:=cO C4;have ES:=cO C5;have EH:=cO E0;have EI:=cO E1;have LD:=cO E2;have WX:=cO E3;have WY:=cO E4;have WZ:=cO E5;have x2:((nb:Int)<(n0:Int))=True:=eq_true (by have:=ej.out;omega);have x3:((nc:Int)<(n0:Int))=True:=eq_true (by have:=ej.out;omega);have x4:((na:Int)<(n0:Int))=True:=eq_true (by have:=ej.out;omega);have y2:(nb<n0)=True:=eq_true ej.out.2.1;have y3:(nc<n0)=True:=eq_true ej.out.2.2;have y4:(na<n0)=True:=eq_true ej.out.1;clear D0 D1 D2 D3 D4 D5 P0 P1 P2 P3 P4 P5 C0 C1 C2 C3 C4 C5 E0 E1 E2 E3 E4 E5 V0 V1 V2 Q0;refine Ma w4 (by kernel_rfl) (by kernel_rfl) ?_;repeat(go_big_quiet_step ((go_at_call 39;with_reducible exact ZP xx.out _)))
   refine wpQuiet_nil ?_;intro w5 hw';have BO:Below w4.heap.size w4 w5:=by obtain⟨q,rfl⟩:=hw';exact q.h
   clear hw';have ji:=qh (gC.out.step BO);have kg:=qa (eA wm.out BO);clear gC wm BO HP xx q0 BV v1' v2' nw qV WO WQ WR WS WT p1' p2' WU WV WW EM EN EO EP ER ES EH EI LD WX WY WZ;by_cases hw:wv=1
   ·subst hw
    have W8:=qh (mK.out.trans (if_pos rfl));clear mK;have q0:=ji.out.box.b0;have q1:=ji.out.box.b1;have q2:=ji.out.box.b2;have LH:=qh (alf (some BX) (some ad) A2 n0 c0 n1 c1 n2 c2 w5 HL.out.1 HL.out.2.1);go_wp2_with (refine LH.out.mono ?_;rintro e w6 ⟨rfl,hb⟩;refine Stop.out ?_)
    refine⟨?_⟩;have kK:=qh (ji.out.step hb);have y9:=qa (eA kg.out hb);clear ji kg hb LH q0 q1 q2;have q0:=kK.out.box.b0;have q1:=kK.out.box.b1;have q2:=kK.out.box.b2;have wj:=qh (aaf (some BX) (some ad) A2 c0 n1 c1 c2 ps zs ss w6 (HA.out.below kK.out.box.below HG.out.symm) HZ.out (by rw[H0.out,H2.out];have:=HL.out;omega));rw[H0.out,H2.out]at wj
    go_wp2_with (refine wj.out.mono ?_;rintro e w7 ⟨v0,v1,v2,rfl,gD,hb⟩;refine Stop.out ?_)
    refine⟨?_⟩;obtain⟨g1,k1,rfl⟩:=gD.blk (by have:=HT.out;omega);obtain⟨B0,d0,B1,d1,B2,d2,rfl,-,rfl,-,-⟩:=gD.args;rw[H0.out,H2.out]at gD ⊢
    have dW:=(Below.refl w7.heap.size w7).alloc (Nat.le_refl _) (.cells #[.slice B0 n0 d0,.slice (some ⟨g1,0,none⟩) n1 k1,.slice B2 n2 d2] 26);have HS:=qh (SI.aej kK.out y9 hb gD);have EF:=qh ((kK.out.step hb).step dW);clear dW gD hb wj q0 q1 q2 kK y9;have q0:=EF.out.box.b0;go_upto_region 13 with fail
    clear q0 EF;generalize (w7.alloc (.cells #[.slice B0 n0 d0,.slice (some ⟨g1,0,none⟩) n1 k1,.slice B2 n2 d2] 26))=w8 at HS ⊢;generalize w7.heap.size=o at HS ⊢;generalize w6.heap.size=b at HS;have zk:=qh (HS.out.al (.cells (iK p) 42));have HN:=qa (jq w8 (.cells (iK p) 42));have hbz:b≤(w8.alloc (.cells (iK p) 42)).heap.size:=zk.out.hz;obtain⟨cs0,dL,lZ⟩:=zk.out.om.p;have ET:=lZ;rw[H0.out]at ET
    have eF:=qh dL;have LI:=qh lZ;have oO:=qh ET;clear dL lZ ET;obtain⟨z0,z1,z2,z3,z4,z5⟩:=z3 HS.out.bo;obtain⟨p0,p1,p2,p3,p4,p5,p6,p7,p8,p9,EJ,EK⟩:=z6 HS.out.bp;go_upto_region 14 with (first|(at_builtin;refine Nq rfl (.tmp 60) (.tmp 62) 22 42 rfl (.agg #[.bool false,.string ⟨#[]⟩,.string ⟨#[]⟩,.bool false,.string ⟨#[]⟩,.string ⟨#[]⟩]) 6 80 Tryz.underlying22 (by kernel_rfl) rfl (by decide) (.slice B0 n0 d0) n0 cs0 rfl ⟨w8.heap.size,0,none⟩ 1 1 rfl (iK p).toList oO.out hbz rfl (MU HN.out) (fun u hu=>dF.qx (wL w8 p) u hu) (by have:=HL.out;omega) (by have:=HL.out;simp only[maxLen];omega) ?_;intro o_ nw w9 O0 G0;have qW:=qh (zk.out.aeh (BV := .slice o_ (n0+1) nw) LI.out eF.out (wL _ p) rfl (by rw[H0.out];exact O0.out) G0.out);clear z0 z1 z2 z3 z4 z5 p0 p1 p2 p3 p4 p5 p6 p7 p8 p9 EJ EK;obtain⟨z0,z1,z2,z3,z4,z5⟩:=Go.Proofs.aC.Z.z3 qW.out.bo)|fail)
    have ny:=qh (show SI g o b vb w (iK p) #[.slice o_ (n0+1) nw,.slice (some ⟨g1,0,none⟩) n1 k1,.slice B2 n2 d2] na nb nc (.slice o_ (n0+1) nw) (.slice (some ⟨g1,0,none⟩) n1 k1) (.slice B2 n2 d2) (ps++[p]) zs n1 ss _ from qW.out.st 0 (.slice o_ (n0+1) nw));clear HS zk HN hbz eF LI oO qW O0 G0 z0 z1 z2 z3 z4 z5;generalize (w9.setCell ⟨o,0,none⟩ (.slice o_ (n0+1) nw))=g_ at ny ⊢;have jy:¬ g1=o:=by obtain⟨-,c,hc,-⟩:=ny.out.g1;exact FR hc ny.out.bo.out (by decide)
    have j8:¬ o=g1:=fun e=>jy e.symm;have pT:¬ g1=vb:=by have:=ny.out.g1.1;have:=ny.out.hb;omega
    have td:¬ vb=g1:=fun e=>pT e.symm;obtain⟨z0,z1,z2,z3,z4,z5⟩:=Go.Proofs.aC.Z.z3 ny.out.bo;obtain⟨v0,v1,v2,v3,v4,v5⟩:=Go.Proofs.aC.Z.z3 ny.out.bv;obtain⟨EM,EN,EO,EP,ER,ES,W9,W_,Xa⟩:=ny.out.cells HT.out;go_upto_region 15 with fail
    have ux:=qh (ny.out.OO HT.out na nb n0);clear ny z0 z1 z2 z3 z4 z5 v0 v1 v2 v3 v4 v5 EM EN EO EP ER ES W9 W_ Xa jy j8 pT td;generalize (((g_.setCell ⟨g1,T*3,none⟩ (.int .i64 (na:Int))).setCell ⟨g1,T*3+1,none⟩ (.int .i64 (nb:Int))).setCell ⟨g1,T*3+2,none⟩ (.int .i64 (n0:Int)))=kD at ux ⊢;have zl:=qh (ux.out.al (.cells #[.int .i64 (nb:Int),.int .i64 (nc:Int),.int .i64 (n0:Int),.int .i64 (nc:Int),.int .i64 (na:Int),.int .i64 (n0:Int)] 61));have HN:=qa (jq kD (.cells #[.int .i64 (nb:Int),.int .i64 (nc:Int),.int .i64 (n0:Int),.int .i64 (nc:Int),.int .i64 (na:Int),.int .i64 (n0:Int)] 61));have hbz:b≤(kD.alloc (.cells #[.int .i64 (nb:Int),.int .i64 (nc:Int),.int .i64 (n0:Int),.int .i64 (nc:Int),.int .i64 (na:Int),.int .i64 (n0:Int)] 61)).heap.size:=zl.out.hz;obtain⟨z0,z1,z2,z3,z4,z5⟩:=Go.Proofs.aC.Z.z3 ux.out.bo;obtain⟨v0,v1,v2,v3,v4,v5⟩:=Go.Proofs.aC.Z.z3 ux.out.bv;go_upto_region 16 with (first|(at_builtin;refine Nq rfl (.tmp 76) (.tmp 89) 23 61 rfl (.agg #[.int .i64 0,.int .i64 0,.int .i64 0]) 3 24 Tryz.underlying23 (by kernel_rfl) rfl (by decide) (.slice (some ⟨g1,0,none⟩) n1 k1) n1 (mh (wO zs T na nb n0)) rfl ⟨kD.heap.size,0,none⟩ 2 2 rfl (mh [(nb:Int),nc,n0,nc,na,n0]) zl.out.om.t hbz rfl (MU HN.out) (LR _) (by have:=HL.out;omega) (by have:=HL.out;simp only[maxLen];omega) ?_;intro wo qV jd O0 G0;have qW:=qh (zl.out.aei O0.out G0.out);clear z0 z1 z2 z3 z4 z5 v0 v1 v2 v3 v4 v5;obtain⟨z0,z1,z2,z3,z4,z5⟩:=Go.Proofs.aC.Z.z3 qW.out.bo)|fail)
    have wu:=qh (show SI g o b vb w (iK p) #[.slice o_ (n0+1) nw,.slice wo (n1+2) qV,.slice B2 n2 d2] na nb nc (.slice o_ (n0+1) nw) (.slice wo (n1+2) qV) (.slice B2 n2 d2) (ps++[p]) (SN zs T na nb nc n0) (n1+2) ss _ from qW.out.st 1 (.slice wo (n1+2) qV));clear ux zl HN hbz qW O0 G0 z0 z1 z2 z3 z4 z5;generalize (jd.setCell ⟨o,1,none⟩ (.slice wo (n1+2) qV))=rY at wu ⊢;obtain⟨z0,z1,z2,z3,z4,z5⟩:=Go.Proofs.aC.Z.z3 wu.out.bo;obtain⟨b0,b1,b2,b3,b4,b5⟩:=Go.Proofs.aC.Z.z3 wu.out.br;go_wp2_with (refine sB (p:=6) (u:=7) (g:=g+2) (cs:=#[.slice o_ (n0+1) nw,.slice wo (n1+2) qV,.slice B2 n2 d2]) (v := .int .i64 0) ?_ ?_ ?_ (wu.out.ret HG.out 0).1 Tryz.underlying26 ?_ ?_ ?_ ?_;exact(by kernel_rfl);exact(by kernel_rfl);exact(by kernel_rfl);rfl;exact(by kernel_rfl);rfl;rw[W8.out];exact(wu.out.ret HG.out 0).2)
   ·have e1:(wv != 1)=true:=bne_iff_ne.mpr hw
    have eN:=qh (mK.out.trans (if_neg hw));clear hw mK;obtain⟨b0,b1,b2,b3,b4,b5⟩:=z3 ji.out.br;go_wp2_with (refine sB (p:=6) (u:=7) (g:=g+2) (cs:=fM) (v := .int .i64 7) ?_ ?_ ?_ (ji.out.bad HG.out 7).1 Tryz.underlying26 ?_ ?_ ?_ ?_;exact(by kernel_rfl);exact(by kernel_rfl);exact(by kernel_rfl);rfl;exact(by kernel_rfl);rfl;rw[eN.out];exact(ji.out.bad HG.out 7).2)
  ·have e1:(br != 0)=true:=bne_iff_ne.mpr hbr
   have eN:=qh (HR.out.trans (if_neg hbr));clear hbr;obtain⟨b0,b1,b2,b3,b4,b5⟩:=z3 eI.out.br;go_wp2_with (refine sB (p:=6) (u:=7) (g:=g+2) (cs:=fM) (v := .int .i64 br) ?_ ?_ ?_ (eI.out.bad HG.out br).1 Tryz.underlying26 ?_ ?_ ?_ ?_;exact(by kernel_rfl);exact(by kernel_rfl);exact(by kernel_rfl);rfl;exact(by kernel_rfl);rfl;rw[eN.out];exact(eI.out.bad HG.out br).2)
end Go.Proofs.YtfcjnhkkfmgmpaaGreat
