import Derived.Test.YtfcjnhkkfmgmpaaGreatZsG48
set_option linter.all false
set_option maxRecDepth 100000
set_option maxHeartbeats 8000000
namespace Go.Proofs.YtfcjnhkkfmgmpaaGreat
open Go.RowKit aR Go.Proofs.aC.R Go.Proofs.aC.Z Go.Proofs.aD.bf
theorem alh (A0 A1 A2:Option Addr) (n0 c0 n1 c1 n2 c2:Nat) (w:World) (h0:n0<400) (h1:n1≤898) :
  Calls Tryz.prog 38 #[.agg #[.slice A0 n0 c0,.slice A1 n1 c1,.slice A2 n2 c2]] w fun e w'=>e = .returned (.bool true)∧Below w.heap.size w w':=by
 have HM:=qh (MB.new w A0 A1 A2 n0 c0 n1 c1 n2 c2);have q0:=HM.out.b0;have q1:=HM.out.b1;have e0:decide ((n0:Int)<(400:Int))=true:=decide_eq_true (by omega);have EH:decide (n0<400)=true:=decide_eq_true (by omega);have e1:decide ((n1:Int)≤(898:Int))=true:=decide_eq_true (by omega);have EI:decide (n1≤898)=true:=decide_eq_true (by omega);clear h0 h1;go_enter Tryz.func38,Tryz.ntmps38;go_wp2
 go_ret
 exact⟨rfl,HM.out.below⟩
def WiP (K:Nat) (ps:PS) (p:uw) (bC wi:Nat→Nat→Nat→Int) (br:Int):Prop:=∀ i j k,i<ps.length→j<ps.length→k<ps.length→0<bC i j k →
 pG.f K (aA ps i).f0.f0.f0 (aA ps i).f0.f0.f1 (aA ps i).f0.f1 (aA ps i).f1.f0.f0 (aA ps i).f1.f0.f1 (aA ps i).f1.f1 (aA ps j).f0.f0.f0 (aA ps j).f0.f0.f1 (aA ps j).f0.f1 (aA ps j).f1.f0.f0 (aA ps j).f1.f0.f1 (aA ps j).f1.f1 (aA ps k).f0.f0.f0 (aA ps k).f0.f0.f1 (aA ps k).f0.f1 (aA ps k).f1.f0.f0 (aA ps k).f1.f0.f1 (aA ps k).f1.f1 p.f0.f0.f0 p.f0.f0.f1 p.f0.f1 p.f1.f0.f0 p.f1.f0.f1 p.f1.f1=some (if br=0 then (wi i j k,0) else (0,br))
abbrev T3 (w0:World) (p0 p1 p2:Addr) (v0 v1 v2:Value) (W:World):Prop:=W.cell? p0=some v0∧W.cell? p1=some v1∧W.cell? p2=some v2∧Below w0.heap.size w0 W
theorem aoB {w0 W:World} {p0 p1 p2:Addr} {v0 v1 v2:Value} (h:T3 w0 p0 p1 p2 v0 v1 v2 w0) (hb:Below w0.heap.size w0 W):T3 w0 p0 p1 p2 v0 v1 v2 W :=
 ⟨(hb.cell (ql h.1)).trans h.1,(hb.cell (ql h.2.1)).trans h.2.1,(hb.cell (ql h.2.2.1)).trans h.2.2.1,hb⟩
theorem ZU {w0 W W':World} {p0 p1 p2:Addr} {v0 v1 v2:Value} (hb:Below W.heap.size W W') (h:T3 w0 p0 p1 p2 v0 v1 v2 W):T3 w0 p0 p1 p2 v0 v1 v2 W' :=
 ⟨(hb.cell (ql h.1)).trans h.1,(hb.cell (ql h.2.1)).trans h.2.1,(hb.cell (ql h.2.2.1)).trans h.2.2.1,h.2.2.2.trans (hb.mono h.2.2.2.size)⟩
theorem akv {w0 W:World} {p0 p1 p2:Addr} {v0 v1 v2:Value} (h:T3 w0 p0 p1 p2 v0 v1 v2 W):T3 w0 p0 p1 p2 v0 v1 v2 W.drew:=⟨h.1,h.2.1,h.2.2.1,h.2.2.2.drew⟩
theorem agP {w0 W:World} {p0 p1 p2:Addr} {v0 v1 v2:Value} (o:Obj) (h:T3 w0 p0 p1 p2 v0 v1 v2 W):T3 w0 p0 p1 p2 v0 v1 v2 (W.alloc o):=ZU ((Below.refl _ _).alloc (Nat.le_refl _) _) h
theorem ali {w0 W:World} {p0 p1 p2:Addr} {v0 v1 v2:Value} (h0:T3 w0 p0 p1 p2 v0 v1 v2 w0) (h:T3 w0 p0 p1 p2 v0 v1 v2 W) {q:Nat} (hq:w0.heap.size≤q) (u v z:Value):T3 w0 p0 p1 p2 v0 v1 v2 (((W.setCell ⟨q,0,none⟩ u).setCell ⟨q,1,none⟩ v).setCell ⟨q,2,none⟩ z) :=
 aoB h0 (((h.2.2.2.setCell (p:=⟨q,0,none⟩) hq u).setCell (p:=⟨q,1,none⟩) hq v).setCell (p:=⟨q,2,none⟩) hq z)
theorem alj (A0 A1 A2:Option Addr) (c0 n1 c1 c2:Nat) (ps:PS) (zs:List Int) (ss:SS) (w:World) (hA:mZ w A0 A1 A2 c0 c2 ps zs n1 ss) (hz:zs.length=3*n1) (K:Nat) (hK:oz.f K ps=some 0) (bC:Nat→Nat→Nat→Int) (hO:Hj K ps bC) (hM:r_ ps.length zs n1 ss bC) (hl:ps.length<400∧n1≤898) (p:uw) (br:Int) (wi:Nat→Nat→Nat→Int) (hW:WiP K ps p bC wi br) (t:Int) :
  Calls Tryz.prog 14 #[.agg #[.slice A0 ps.length c0,.slice A1 n1 c1,.slice A2 ss.length c2],.int .i64 t,.agg (iK p)] w fun e w'=>tP w (uP ps zs n1 ss wi br p t) e w':=by
 obtain⟨n0,hn0⟩:∃ n,ps.length=n:=⟨_,rfl⟩
 obtain⟨n2,hn2⟩:∃ n,ss.length=n:=⟨_,rfl⟩
 have HL:=qh (show n0<400∧n1≤898∧n2≤1300 from ⟨hn0 ▸ hl.1,hl.2,hn2 ▸ hM.l2⟩);have jh:=qh (RP.new w A0 A1 A2 n0 c0 n1 c1 n2 c2 p);have H0:=qh hn0;have H2:=qh hn2;have HZ:=qh hz;have HA:=qh hA;have HM:=qh hM;have HK:=qh hK;have HO:=qh hO;have HW:=qh hW;rw[hn0,hn2];clear hA hz hM hW hK hl hn0 hn2 hO;obtain⟨g,hg⟩:∃ g,w.heap.size=g:=⟨_,rfl⟩
 have HG:=qh hg;rw[hg]at jh
 go_enter Tryz.func14,Tryz.ntmps14;go_upto_region 1 with fail
 rw[show(#[.slice none 0 0,.slice none 0 0,.slice none 0 0]:Array Value)=fM from rfl];generalize (((w.alloc (.cells #[.slice A0 n0 c0,.slice A1 n1 c1,.slice A2 n2 c2] 26)).alloc (.cells (iK p) 42)).alloc (.cells fM 26))=w1 at jh ⊢;have q0:=jh.out.box.b0;have q1:=jh.out.box.b1;have q2:=jh.out.box.b2;have wh:=qh (Rc A0 A1 A2 c0 n1 c1 c2 ps zs ss w1 (HA.out.below jh.out.box.below HG.out.symm) K HK.out bC HO.out HM.out);rw[H0.out,H2.out]at wh
 go_wp2_with (refine wh.out.mono ?_;rintro e w2 ⟨kb,B,rfl,hkb,hB,hmp,e0,e1,e2,e3,hb⟩;refine Stop.out ?_)
 refine⟨?_⟩;have gI:=qh (jh.out.step hb);have fY:=qh e1;clear hb hmp hB wh jh q0 q1 q2 e0 e1 e2 e3 hkb HK HO;cases hB:o8 n1 t 0 with
 | false =>
  have ou:=qh (Q_ kb A1 n1 c1 w2 fY.out t 0 hB);have eN:=qh (show uP ps zs n1 ss wi br p t=mH 1 from if_neg (by rw[hB];decide));go_wp2_with (refine ou.out.mono ?_;rintro e w3 ⟨rfl,hb⟩;refine Stop.out ?_)
  refine⟨?_⟩;have eI:=qh (gI.out.step hb);have gC:=qh (eI.out.step ((Below.refl w3.heap.size w3).alloc (Nat.le_refl _) (.cells #[.int .i64 0,.int .i64 0] 66)));clear hb ou gI hB eI;go_upto_region 6 with fail
  generalize (w3.alloc (.cells #[.int .i64 0,.int .i64 0] 66))=w4 at gC ⊢;obtain⟨b0,b1,b2,b3,b4,b5⟩:=z3 gC.out.br;go_wp2_with (refine sB (p:=6) (u:=7) (g:=g+2) (cs:=fM) (v := .int .i64 1) ?_ ?_ ?_ (gC.out.bad HG.out 1).1 Tryz.underlying26 ?_ ?_ ?_ ?_;exact(by kernel_rfl);exact(by kernel_rfl);exact(by kernel_rfl);rfl;exact(by kernel_rfl);rfl;rw[eN.out];exact(gC.out.bad HG.out 1).2)
 | true =>
  have hR:=hB;unfold o8 at hR;simp only[Bool.and_eq_true,decide_eq_true_eq]at hR;obtain⟨⟨⟨a1,a2⟩,a3⟩,a4⟩:=hR;obtain⟨T,rfl⟩:=Int.eq_ofNat_of_zero_le a1;have hT:T<n1:=by omega
  have HR:=qh (show uP ps zs n1 ss wi br p (T:Int)=_ from if_pos hB);simp only[Int.toNat_natCast]at HR;have HT:=qh hT;have gX:=HM.out.inr (j:=3*T) (by omega);have fA:=HM.out.inr (j:=3*T+1) (by omega);have l7:=HM.out.inr (j:=3*T+2) (by omega);rw[H0.out]at gX fA l7
  obtain⟨na,iT⟩:∃ x:Nat,zs.getD (3*T) 0=x:=⟨_,(Int.toNat_of_nonneg gX.1).symm⟩
  obtain⟨nb,iU⟩:∃ x:Nat,zs.getD (3*T+1) 0=x:=⟨_,(Int.toNat_of_nonneg fA.1).symm⟩
  obtain⟨nc,lJ⟩:∃ x:Nat,zs.getD (3*T+2) 0=x:=⟨_,(Int.toNat_of_nonneg l7.1).symm⟩
  have HOR:=qh (show 0<bC na nb nc by have h:=HM.out.c T hT;unfold uT at h;rw[Bool.and_eq_true,decide_eq_true_eq,decide_eq_true_eq]at h;have h2:=h.2;rw[iT,iU,lJ]at h2;simpa using h2);rw[iT,iU,lJ,H0.out]at HR
  simp only[Int.toNat_natCast]at HR;rw[iT]at gX
  rw[iU]at fA
  rw[lJ]at l7
  have ED:=qh iT;have EE:=qh iU;have Lz:=qh lJ;have ej:=qh (show na<n0∧nb<n0∧nc<n0 by omega);clear iT iU lJ gX fA l7 hT a1 a2 a3 a4 hB;have fQ:=qh (HA.out.below gI.out.box.below HG.out.symm);have hpk:=RS kb A1 n1 c1 zs w2 fY.out fQ.out.t T 0 HT.out (by omega) (by have:=HL.out;omega);rw[show((0:Nat):Int)=0 from rfl,Nat.add_zero,show nx 0=1 from rfl,ED.out,EE.out]at hpk
  have ou:=qh hpk;clear hpk fQ;go_wp2_with (refine ou.out.mono ?_;rintro e Xb ⟨rfl,hb⟩;refine Stop.out ?_)
  refine⟨?_⟩;have aek:=qh (gI.out.step hb);have eI:=qh (aek.out.step ((Below.refl Xb.heap.size Xb).alloc (Nat.le_refl _) (.cells #[.int .i64 (na:Int),.int .i64 (nb:Int)] 66)));clear hb ou gI aek fY;go_upto_region 7 with fail
  generalize (Xb.alloc (.cells #[.int .i64 (na:Int),.int .i64 (nb:Int)] 66))=w3 at eI ⊢;have q1:=eI.out.box.b1;have fQ:=qh (HA.out.below eI.out.box.below HG.out.symm);obtain⟨ad,rfl,-⟩:=fQ.out.t (by have:=HT.out;omega);obtain⟨y0,y1,y2⟩:=Mb fQ.out.t HT.out;rw[ED.out]at y0
  rw[EE.out]at y1
  rw[Lz.out]at y2
  have WA:((T:Int)<(n1:Int))=True:=eq_true (by have:=HT.out;omega);have WB:(T<n1)=True:=eq_true HT.out;have WC:((0:Int)≤(T:Int))=True:=eq_true (by omega);clear fQ;go_upto_region 8 with fail
  have gC:=qh (eI.out.step ((Below.refl w3.heap.size w3).alloc (Nat.le_refl _) (.cells #[.int .i64 (na:Int),.int .i64 (nb:Int),.int .i64 (nc:Int)] 61)));have wm:=qa (jq w3 (.cells #[.int .i64 (na:Int),.int .i64 (nb:Int),.int .i64 (nc:Int)] 61));clear eI q1 y0 y1 y2;generalize (w3.alloc (.cells #[.int .i64 (na:Int),.int .i64 (nb:Int),.int .i64 (nc:Int)] 61))=w4 at gC wm ⊢;generalize w3.heap.size=vb at wm ⊢;have HP:=qh (HA.out.below gC.out.box.below HG.out.symm).p;rw[H0.out]at HP
  obtain⟨BX,rfl,-⟩:=nJ HP.out (na:Int) (by omega) (by have:=ej.out;omega);obtain⟨wv,EL⟩:∃ x,wi na nb nc=x:=⟨_,rfl⟩
  have BZ:=HW.out na nb nc (by rw[H0.out];exact ej.out.1) (by rw[H0.out];exact ej.out.2.1) (by rw[H0.out];exact ej.out.2.2) HOR.out;rw[EL]at BZ
  simp only[EL]at HR;clear EL;obtain⟨r1,r2,rV⟩:∃ r1 r2:Int,(if br=0 then (wv,(0:Int)) else (0,br))=(r1,r2):=⟨_,_,rfl⟩
  rw[rV]at BZ
  have PL:=qh rV;clear rV;have xx:=qh (fun W (hW:Below w4.heap.size w4 W)=>pG.calls K _ _ _ _ _ _ _ _ _ _ _ _ _ _ _ _ _ _ _ _ _ _ _ _ _ _ W BZ);clear BZ;obtain⟨D0,D1,D2,D3,D4,D5⟩:=sH HP.out na ej.out.1;obtain⟨P0,P1,P2,P3,P4,P5⟩:=sH HP.out nb ej.out.2.1;obtain⟨C0,C1,C2,C3,C4,C5⟩:=sH HP.out nc ej.out.2.2;obtain⟨E0,E1,E2,E3,E4,E5,_,_,_,_,_,_⟩:=z6 gC.out.bp;obtain⟨V0,V1,V2,_,_,_⟩:=z3 wm;have Q0:=gC.out.box.b0;have q0:=cO Q0;have BV:=cO V0;have v1':=cO V1;have v2':=cO V2;have nw:=cO D0;have qV:=cO D1;have WO:=cO D2;have WQ:=cO D3;have WR:=cO D4;have WS:=cO D5;have WT:=cO P0;have p1':=cO P1;have p2':=cO P2;have WU:=cO P3;have WV:=cO P4;have WW:=cO P5;have EM:=cO C0;have EN:=cO C1;have EO:=cO C2;have EP:=cO C3;have ER:=cO C4;have ES:=cO C5;have EH:=cO E0;have EI:=cO E1;have LD:=cO E2;have WX:=cO E3;have WY:=cO E4;have WZ:=cO E5;have x2:((nb:Int)<(n0:Int))=True:=eq_true (by have:=ej.out;omega);have x3:((nc:Int)<(n0:Int))=True:=eq_true (by have:=ej.out;omega);have x4:((na:Int)<(n0:Int))=True:=eq_true (by have:=ej.out;omega);have y2:(nb<n0)=True:=eq_true ej.out.2.1;have y3:(nc<n0)=True:=eq_true ej.out.2.2;have y4:(na<n0)=True:=eq_true ej.out.1;clear D0 D1 D2 D3 D4 D5 P0 P1 P2 P3 P4 P5 C0 C1 C2 C3 C4 C5 E0 E1 E2 E3 E4 E5 V0 V1 V2 Q0;refine Ma w4 (by kernel_rfl) (by kernel_rfl) ?_;repeat(go_big_quiet_step ((go_at_call 37;with_reducible exact ZP xx.out _)))
  refine wpQuiet_nil ?_;intro w5 hw';have BO:Below w4.heap.size w4 w5:=by obtain⟨q,rfl⟩:=hw';exact q.h
  clear hw';have ji:=qh (gC.out.step BO);have kg:=qa (eA wm.out BO);clear gC wm BO HP xx q0 BV v1' v2' nw qV WO WQ WR WS WT p1' p2' WU WV WW EM EN EO EP ER ES EH EI LD WX WY WZ;by_cases hbr:br=0
  ·subst hbr
   have rV:=PL.out;rw[if_pos rfl]at rV
   injection rV with h1 h2
   subst h1 h2;have mK:=qh (HR.out.trans (if_pos rfl));clear HR PL;by_cases hw:wv=1
   ·subst hw
    have W8:=qh (mK.out.trans (if_pos rfl));clear mK;have q0:=ji.out.box.b0;have q1:=ji.out.box.b1;have q2:=ji.out.box.b2;have LH:=qh (alh (some BX) (some ad) A2 n0 c0 n1 c1 n2 c2 w5 HL.out.1 HL.out.2.1);go_wp2_with (refine LH.out.mono ?_;rintro e w6 ⟨rfl,hb⟩;refine Stop.out ?_)
    refine⟨?_⟩;have kK:=qh (ji.out.step hb);have y9:=qa (eA kg.out hb);clear ji kg hb LH q0 q1 q2;go_upto_region 15 with fail
    have wj:=qh (fun W (hW:T3 w6 ⟨g,0,none⟩ ⟨g,1,none⟩ ⟨g,2,none⟩ (.slice (some BX) n0 c0) (.slice (some ad) n1 c1) (.slice A2 n2 c2) W)=>abq (some BX) (some ad) A2 c0 n1 c1 c2 ps zs ss W (HA.out.below (kK.out.step hW.2.2.2).box.below HG.out.symm) HZ.out (by rw[H0.out,H2.out];have:=HL.out;omega));rw[H0.out,H2.out]at wj
    have dR:T3 w6 ⟨g,0,none⟩ ⟨g,1,none⟩ ⟨g,2,none⟩ (.slice (some BX) n0 c0) (.slice (some ad) n1 c1) (.slice A2 n2 c2) w6:=⟨kK.out.box.b0,kK.out.box.b1,kK.out.box.b2,Below.refl _ _⟩
    go_cut [14,15] (fun a b wx=>∃ (o bb:Nat) (B0:Option Addr) (d0 g1 k1:Nat) (B2:Option Addr) (d2:Nat),a = .pointer (some ⟨o,0,none⟩)∧b = .int .i64 (n0:Int)∧Hid (SI g o bb vb w (iK p) #[.slice B0 n0 d0,.slice (some ⟨g1,0,none⟩) n1 k1,.slice B2 n2 d2] na nb nc (.slice B0 n0 d0) (.slice (some ⟨g1,0,none⟩) n1 k1) (.slice B2 n2 d2) ps zs n1 ss wx))
    case first =>
     go_region_held3 (T3 w6 ⟨g,0,none⟩ ⟨g,1,none⟩ ⟨g,2,none⟩ (.slice (some BX) n0 c0) (.slice (some ad) n1 c1) (.slice A2 n2 c2)) (first|assumption|exact akv (by assumption)|exact agP _ (by assumption)|exact ali dR (by assumption) (Nat.le_refl _) _ _ _) (first|(go_at_call 31;refine(wj.out _ (by assumption)).mono ?_;rintro e wn ⟨v0,v1,v2,rfl,gD,i_⟩;have hS1:=ZU i_ (by assumption);obtain⟨g1,k1,rfl⟩:=gD.blk (by have:=HT.out;omega);obtain⟨B0,d0,B1,d1,B2,d2,rfl,-,rfl,-,-⟩:=gD.args;rw[H0.out,H2.out]at gD ⊢;first|(have p0:=(i_.cell (p:=⟨w6.heap.size,0,none⟩) (by simp)).trans (show(World.alloc w6 (.cells #[.slice none 0 0,.slice none 0 0,.slice none 0 0] 26)).cell? ⟨w6.heap.size,0,none⟩=some (.slice none 0 0) by simp[go_sem]);have p1:=(i_.cell (p:=⟨w6.heap.size,1,none⟩) (by simp)).trans (show(World.alloc w6 (.cells #[.slice none 0 0,.slice none 0 0,.slice none 0 0] 26)).cell? ⟨w6.heap.size,1,none⟩=some (.slice none 0 0) by simp[go_sem]);have p2:=(i_.cell (p:=⟨w6.heap.size,2,none⟩) (by simp)).trans (show(World.alloc w6 (.cells #[.slice none 0 0,.slice none 0 0,.slice none 0 0] 26)).cell? ⟨w6.heap.size,2,none⟩=some (.slice none 0 0) by simp[go_sem]);have p3:=(i_.frozen (p:=⟨w6.heap.size,0,none⟩) (by simp)).trans (show(World.alloc w6 (.cells #[.slice none 0 0,.slice none 0 0,.slice none 0 0] 26)).frozen? ⟨w6.heap.size,0,none⟩=false by simp[go_sem]);have p4:=(i_.frozen (p:=⟨w6.heap.size,1,none⟩) (by simp)).trans (show(World.alloc w6 (.cells #[.slice none 0 0,.slice none 0 0,.slice none 0 0] 26)).frozen? ⟨w6.heap.size,1,none⟩=false by simp[go_sem]);have p5:=(i_.frozen (p:=⟨w6.heap.size,2,none⟩) (by simp)).trans (show(World.alloc w6 (.cells #[.slice none 0 0,.slice none 0 0,.slice none 0 0] 26)).frozen? ⟨w6.heap.size,2,none⟩=false by simp[go_sem]))|skip)|fail)
     all_goals go_wp2
     all_goals go_meet
     all_goals first
      | exact⟨_,_,_,_,_,_,_,_,rfl,rfl,qh (SI.aej (kK.out.step (Below.refl _ _).drew) ⟨y9.out⟩ i_ gD)⟩
      | exact⟨_,_,_,_,_,_,_,_,rfl,rfl,qh (SI.aqt i_ gD (kK.out.step ((Below.refl w6.heap.size w6).alloc (Nat.le_refl _) _).drew) ⟨aH (aF y9.out _)⟩ (aH (jq _ _)) ⟨fJ kK.out.br.out,fJ y9.out⟩)⟩
    case rest =>
     obtain⟨o,b,B0,d0,g1,k1,B2,d2,rfl,rfl,HS⟩:=hcut;clear wj dR kK y9;have zk:=qh (HS.out.al (.cells (iK p) 42));have HN:=qa (jq wc (.cells (iK p) 42));have hbz:b≤(wc.alloc (.cells (iK p) 42)).heap.size:=zk.out.hz;obtain⟨cs0,dL,lZ⟩:=zk.out.om.p;have ET:=lZ;rw[H0.out]at ET
     have eF:=qh dL;have LI:=qh lZ;have oO:=qh ET;clear dL lZ ET;obtain⟨z0,z1,z2,z3,z4,z5⟩:=z3 HS.out.bo;obtain⟨p0,p1,p2,p3,p4,p5,p6,p7,p8,p9,EJ,EK⟩:=z6 HS.out.bp;go_upto_region 17 with (first|(at_builtin;refine Nq rfl (.tmp 83) (.tmp 85) 22 42 rfl (.agg #[.bool false,.string ⟨#[]⟩,.string ⟨#[]⟩,.bool false,.string ⟨#[]⟩,.string ⟨#[]⟩]) 6 80 Tryz.underlying22 (by kernel_rfl) rfl (by decide) (.slice B0 n0 d0) n0 cs0 rfl ⟨wc.heap.size,0,none⟩ 1 1 rfl (iK p).toList oO.out hbz rfl (MU HN.out) (fun u hu=>dF.qx (wL wc p) u hu) (by have:=HL.out;omega) (by have:=HL.out;simp only[maxLen];omega) ?_;intro o_ nw w9 O0 G0;have qW:=qh (zk.out.aeh (BV := .slice o_ (n0+1) nw) LI.out eF.out (wL _ p) rfl (by rw[H0.out];exact O0.out) G0.out);clear z0 z1 z2 z3 z4 z5 p0 p1 p2 p3 p4 p5 p6 p7 p8 p9 EJ EK;obtain⟨z0,z1,z2,z3,z4,z5⟩:=Go.Proofs.aC.Z.z3 qW.out.bo)|fail)
     have ny:=qh (show SI g o b vb w (iK p) #[.slice o_ (n0+1) nw,.slice (some ⟨g1,0,none⟩) n1 k1,.slice B2 n2 d2] na nb nc (.slice o_ (n0+1) nw) (.slice (some ⟨g1,0,none⟩) n1 k1) (.slice B2 n2 d2) (ps++[p]) zs n1 ss _ from qW.out.st 0 (.slice o_ (n0+1) nw));clear HS zk HN hbz eF LI oO qW O0 G0 z0 z1 z2 z3 z4 z5;generalize (w9.setCell ⟨o,0,none⟩ (.slice o_ (n0+1) nw))=g_ at ny ⊢;have jy:¬ g1=o:=by obtain⟨-,c,hc,-⟩:=ny.out.g1;exact FR hc ny.out.bo.out (by decide)
     have j8:¬ o=g1:=fun e=>jy e.symm;have pT:¬ g1=vb:=by have:=ny.out.g1.1;have:=ny.out.hb;omega
     have td:¬ vb=g1:=fun e=>pT e.symm;obtain⟨z0,z1,z2,z3,z4,z5⟩:=Go.Proofs.aC.Z.z3 ny.out.bo;obtain⟨v0,v1,v2,v3,v4,v5⟩:=Go.Proofs.aC.Z.z3 ny.out.bv;obtain⟨EM,EN,EO,EP,ER,ES,W9,W_,Xa⟩:=ny.out.cells HT.out;go_upto_region 18 with fail
     have ux:=qh (ny.out.A_ (i:=T*3+2) (by have:=HT.out;omega) n0);rw[show zs.set (T*3+2) (n0:Int)=wO zs T na nb n0 by rw[← ED.out,← EE.out,aeY (by rw[HZ.out];have:=HT.out;omega),show 3*T+2=T*3+2 by omega]]at ux
     clear ny z0 z1 z2 z3 z4 z5 v0 v1 v2 v3 v4 v5 EM EN EO EP ER ES W9 W_ Xa jy j8 pT td;generalize (g_.setCell ⟨g1,T*3+2,none⟩ (.int .i64 (n0:Int)))=kD at ux ⊢;have zl:=qh (ux.out.al (.cells #[.int .i64 (nb:Int),.int .i64 (nc:Int),.int .i64 (n0:Int),.int .i64 (nc:Int),.int .i64 (na:Int),.int .i64 (n0:Int)] 61));have HN:=qa (jq kD (.cells #[.int .i64 (nb:Int),.int .i64 (nc:Int),.int .i64 (n0:Int),.int .i64 (nc:Int),.int .i64 (na:Int),.int .i64 (n0:Int)] 61));have hbz:b≤(kD.alloc (.cells #[.int .i64 (nb:Int),.int .i64 (nc:Int),.int .i64 (n0:Int),.int .i64 (nc:Int),.int .i64 (na:Int),.int .i64 (n0:Int)] 61)).heap.size:=zl.out.hz;obtain⟨z0,z1,z2,z3,z4,z5⟩:=Go.Proofs.aC.Z.z3 ux.out.bo;obtain⟨v0,v1,v2,v3,v4,v5⟩:=Go.Proofs.aC.Z.z3 ux.out.bv;go_upto_region 19 with (first|(at_builtin;refine Nq rfl (.tmp 95) (.tmp 108) 23 61 rfl (.agg #[.int .i64 0,.int .i64 0,.int .i64 0]) 3 24 Tryz.underlying23 (by kernel_rfl) rfl (by decide) (.slice (some ⟨g1,0,none⟩) n1 k1) n1 (mh (wO zs T na nb n0)) rfl ⟨kD.heap.size,0,none⟩ 2 2 rfl (mh [(nb:Int),nc,n0,nc,na,n0]) zl.out.om.t hbz rfl (MU HN.out) (LR _) (by have:=HL.out;omega) (by have:=HL.out;simp only[maxLen];omega) ?_;intro wo qV jd O0 G0;have qW:=qh (zl.out.aei O0.out G0.out);clear z0 z1 z2 z3 z4 z5 v0 v1 v2 v3 v4 v5;obtain⟨z0,z1,z2,z3,z4,z5⟩:=Go.Proofs.aC.Z.z3 qW.out.bo)|fail)
     have wu:=qh (show SI g o b vb w (iK p) #[.slice o_ (n0+1) nw,.slice wo (n1+2) qV,.slice B2 n2 d2] na nb nc (.slice o_ (n0+1) nw) (.slice wo (n1+2) qV) (.slice B2 n2 d2) (ps++[p]) (SN zs T na nb nc n0) (n1+2) ss _ from qW.out.st 1 (.slice wo (n1+2) qV));clear ux zl HN hbz qW O0 G0 z0 z1 z2 z3 z4 z5;generalize (jd.setCell ⟨o,1,none⟩ (.slice wo (n1+2) qV))=rY at wu ⊢;obtain⟨z0,z1,z2,z3,z4,z5⟩:=Go.Proofs.aC.Z.z3 wu.out.bo;obtain⟨b0,b1,b2,b3,b4,b5⟩:=Go.Proofs.aC.Z.z3 wu.out.br;go_wp2_with (refine sB (p:=6) (u:=7) (g:=g+2) (cs:=#[.slice o_ (n0+1) nw,.slice wo (n1+2) qV,.slice B2 n2 d2]) (v := .int .i64 0) ?_ ?_ ?_ (wu.out.ret HG.out 0).1 Tryz.underlying26 ?_ ?_ ?_ ?_;exact(by kernel_rfl);exact(by kernel_rfl);exact(by kernel_rfl);rfl;exact(by kernel_rfl);rfl;rw[W8.out];exact(wu.out.ret HG.out 0).2)
   ·have e1:(wv != 1)=true:=bne_iff_ne.mpr hw
    have eN:=qh (mK.out.trans (if_neg hw));clear hw mK;obtain⟨b0,b1,b2,b3,b4,b5⟩:=z3 ji.out.br;go_wp2_with (refine sB (p:=6) (u:=7) (g:=g+2) (cs:=fM) (v := .int .i64 7) ?_ ?_ ?_ (ji.out.bad HG.out 7).1 Tryz.underlying26 ?_ ?_ ?_ ?_;exact(by kernel_rfl);exact(by kernel_rfl);exact(by kernel_rfl);rfl;exact(by kernel_rfl);rfl;rw[eN.out];exact(ji.out.bad HG.out 7).2)
  ·have rV:=PL.out
   rw[if_neg hbr]at rV
   injection rV with h1 h2
   subst h1 h2;have e1:(br != 0)=true:=bne_iff_ne.mpr hbr;have eN:=qh (HR.out.trans (if_neg hbr));clear hbr HR PL;obtain⟨b0,b1,b2,b3,b4,b5⟩:=z3 ji.out.br;go_wp2_with (refine sB (p:=6) (u:=7) (g:=g+2) (cs:=fM) (v := .int .i64 br) ?_ ?_ ?_ (ji.out.bad HG.out br).1 Tryz.underlying26 ?_ ?_ ?_ ?_;exact(by kernel_rfl);exact(by kernel_rfl);exact(by kernel_rfl);rfl;exact(by kernel_rfl);rfl;rw[eN.out];exact(ji.out.bad HG.out br).2)
theorem akw (ps:PS) (zs:List Int) (n1:Nat) (ss:SS) (wi:Nat→Nat→Nat→Int) (br:Int) (p:PT) (t:Int) (h:ps.length<400∧n1≤898∧ss.length≤2000):(uP ps zs n1 ss wi br p t).2.1.length≤1000∧(uP ps zs n1 ss wi br p t).2.2.2.1≤1000∧(uP ps zs n1 ss wi br p t).2.2.2.2.length≤2000:=by
 have hb:∀ r,(mH r).2.1.length≤1000∧(mH r).2.2.2.1≤1000∧(mH r).2.2.2.2.length≤2000:=fun r=>by simp[mH]
 unfold uP;split
 ·split
  ·split
   ·exact⟨by rw[List.length_append];simp;omega,by show n1+2≤1000;omega,h.2.2⟩
   ·exact hb 7
  ·exact hb br
 ·exact hb 1
theorem aoC {p:PT} (h:BR p.f0.f0.f1 p.f0.f1 p.f1.f0.f1 p.f1.f1=true):yF p:=by
 unfold BR at h;simp only[Bool.and_eq_true,decide_eq_true_eq]at h;exact⟨by show p.f0.f0.f1.size≤40;omega,by show p.f0.f1.size≤40;omega,by show p.f1.f0.f1.size≤40;omega,by show p.f1.f1.size≤40;omega⟩
def Hs (ps:PS) (p:PT) (i j k:Nat):Int:=WN (aA ps i) (aA ps j) (aA ps k) p
theorem wiO {ps:PS} {p:PT} (h:D7 ps) (hp:yF p) (K:Nat) (hK:1≤K) (hb:iD (pX p) (pY p)=0):WiO K ps p (Hs ps p):=by
 obtain⟨k,rfl⟩:∃ k,K=k+1:=⟨K-1,by omega⟩
 exact fun i j l hi hj hl=>agN k (h i hi) (h j hj) (h l hl) (XE hb hp)
theorem wiP {ps:PS} {p:PT} (h:D7 ps) (hp:yF p) (K:Nat) (hK:35≤K):WiP K ps p (oJ ps) (Hs ps p) (iD (pX p) (pY p)):=by
 obtain⟨k,rfl⟩:∃ k,K=k+35:=⟨K-35,by omega⟩
 exact fun i j l hi hj hl h0=>agO k (h i hi) (h j hj) (h l hl) hp (Int.ne_of_gt h0)
theorem agQ (A0 A1 A2:Option Addr) (c0 n1 c1 c2:Nat) (ps:PS) (zs:List Int) (ss:SS) (w:World) (hA:mZ w A0 A1 A2 c0 c2 ps zs n1 ss) (hz:zs.length=3*n1) (t:Int) (p:PT) :
  Calls Tryz.prog 4 #[.agg #[.slice A0 ps.length c0,.slice A1 n1 c1,.slice A2 ss.length c2],.int .i64 t,.agg (iK p)] w fun e w'=>e = .returned (.bool true)∧Below w.heap.size w w':=by
 obtain⟨n0,hn0⟩:∃ n,ps.length=n:=⟨_,rfl⟩
 obtain⟨n2,hn2⟩:∃ n,ss.length=n:=⟨_,rfl⟩
 have dW:=(Below.refl (w.alloc (.cells #[.slice A0 n0 c0,.slice A1 n1 c1,.slice A2 n2 c2] 26)).heap.size _).alloc (Nat.le_refl _) (.cells (iK p) 42);have gX:=qh (show LB w.heap.size ps zs n1 ss A0 A1 A2 c0 c1 c2 n0 n2 ((w.alloc (.cells #[.slice A0 n0 c0,.slice A1 n1 c1,.slice A2 n2 c2] 26)).alloc (.cells (iK p) 42)) from by rw[← hn0,← hn2]at dW ⊢;exact(LB.new (w:=w) (b:=0) hA).step dW);have bD:=qh (((Below.refl w.heap.size w).alloc (Nat.le_refl _) (.cells #[.slice A0 n0 c0,.slice A1 n1 c1,.slice A2 n2 c2] 26)).trans (dW.mono (by simp)));have vR:=qa (show((w.alloc (.cells #[.slice A0 n0 c0,.slice A1 n1 c1,.slice A2 n2 c2] 26)).alloc (.cells (iK p) 42)).heap[w.heap.size+1]?=some (.cells (iK p) 42 (0,0)) from by have:=jq (w.alloc (.cells #[.slice A0 n0 c0,.slice A1 n1 c1,.slice A2 n2 c2] 26)) (.cells (iK p) 42);simpa using this);have H0:=qh hn0;have H2:=qh hn2;have HZ:=qh hz;have PM:=qh ale;rw[hn0,hn2];clear hA hn0 hn2 hz dW;obtain⟨g,hg⟩:∃ g,w.heap.size=g:=⟨_,rfl⟩
 have HG:=qh hg;rw[hg]at gX bD vR
 go_enter Tryz.func4,Tryz.ntmps4;go_upto_region 1 with fail
 generalize ((w.alloc (.cells #[.slice A0 n0 c0,.slice A1 n1 c1,.slice A2 n2 c2] 26)).alloc (.cells (iK p) 42))=w1 at gX bD vR ⊢;have HSM:=qh (akr A0 A1 A2 c0 n1 c1 c2 ps ss w1 gX.out.a.p);rw[H0.out,H2.out]at HSM
 obtain⟨q0,q1,q2,q3,q4,q5⟩:=z3 gX.out.b;go_wp2_with (refine HSM.out.mono ?_;rintro e w2 ⟨b,rfl,hsm,hb⟩;refine Stop.out ?_)
 refine⟨?_⟩;have dD:=qh (bD.out.trans (hb.mono (Nat.le_of_lt (fJ gX.out.b.out))));have fA:=qh (gX.out.step hb);have qN:=qa (eA vR.out hb);clear hb bD gX vR q0 q1 q2 q3 q4 q5;have BP:g≤w2.heap.size:=Nat.le_of_lt (fJ fA.out.b.out);cases b with
 | false =>
  have HC:=qh (PM.out w2);clear hsm;go_wp2_with (refine HC.out.mono ?_;rintro e w3 ⟨rfl,hb⟩;refine Stop.out ?_)
  refine⟨?_⟩;have dy:=qh (dD.out.trans (hb.mono BP));clear hb;go_wp2_with (first|(go_ret;exact⟨rfl,by rw[HG.out];exact dy.out⟩)|fail)
 | true =>
  have HS:=qh (hsm rfl);clear hsm;have LJ:=qh (ZS p.f0.f0.f0 p.f0.f0.f1 p.f0.f1 p.f1.f0.f0 p.f1.f0.f1 p.f1.f1 w2);obtain⟨p0,p1,p2,p3,p4,p5,p6,p7,p8,p9,EJ,EK⟩:=z6 qN;cases hsp:BR p.f0.f0.f1 p.f0.f1 p.f1.f0.f1 p.f1.f1 with
  | false =>
   rw[hsp]at LJ
   clear hsp;go_wp2_with (refine LJ.out.mono ?_;rintro e w3 ⟨rfl,hb⟩;refine Stop.out ?_)
   refine⟨?_⟩;have dy:=qh (dD.out.trans (hb.mono BP));have cQ:g≤w3.heap.size:=Nat.le_trans BP hb.size;have HC:=qh (PM.out w3);clear hb;go_wp2_with (refine HC.out.mono ?_;rintro e w4 ⟨rfl,hb⟩;refine Stop.out ?_)
   refine⟨?_⟩;have mJ:=qh (dy.out.trans (hb.mono cQ));clear hb;go_wp2_with (first|(go_ret;exact⟨rfl,by rw[HG.out];exact mJ.out⟩)|fail)
  | true =>
   rw[hsp]at LJ
   have Bt:=qh (aoC hsp);clear hsp;go_wp2_with (refine LJ.out.mono ?_;rintro e w2s ⟨rfl,hb⟩;refine Stop.out ?_)
   refine⟨?_⟩;have ael:=qh (dD.out.trans (hb.mono BP));have Kw:=qh (fA.out.step hb);have aem:=qa (eA qN.out hb);clear hb LJ dD fA qN BP p0 p1 p2 p3 p4 p5 p6 p7 p8 p9 EJ EK;have aen:g≤w2s.heap.size:=Nat.le_of_lt (fJ Kw.out.b.out);have hl:=HS.out;unfold SM at hl;obtain⟨ask,GN,hok⟩:=agM hl.2.2.2 (by omega) 4000 (by omega);have Eh:=qh (ah5 A0 A1 A2 c0 n1 c1 c2 ps zs ss w2s Kw.out.a 4000 ask GN (oJ ps) (fun e=>orO (hok e) 4000 (by decide)) (xy ss) (akg ss 4000 (by omega) (by omega)));rw[H0.out,H2.out]at Eh
   have G3:=qh hok;have HLS:=qh (show ss.length≤45 by omega);have HL:=qh (show ps.length≤1000∧n1≤1000∧ss.length≤2000 by omega);have LK:=qh (show ps.length<400∧n1≤898∧ss.length≤2000 by omega);clear hl GN hok;obtain⟨q0,q1,q2,q3,q4,q5⟩:=z3 Kw.out.b;go_wp2_with (refine Eh.out.mono ?_;rintro e w3 ⟨r,rfl,hr,hb⟩;refine Stop.out ?_)
   refine⟨?_⟩;have dy:=qh (ael.out.trans (hb.mono aen));have l7:=qh (Kw.out.step hb);have HT3:=qa (eA aem.out hb);have HR:=qh hr;clear hb ael Kw aem Eh hr q0 q1 q2 q3 q4 q5 aen;have cQ:g≤w3.heap.size:=Nat.le_of_lt (fJ l7.out.b.out);by_cases h0:r=0
   ·subst h0
    have OT:=HR.out.1 rfl;have hOk:=G3.out OT.a;have hM0:=OT.a;subst hM0;have HP:=qh (ala OT);have Ky:=qh hOk;clear OT hOk;have Xc:=qh (aaf A0 A1 A2 c0 n1 c1 c2 ps zs ss w3 l7.out.a HZ.out HL.out);rw[H0.out,H2.out]at Xc
    obtain⟨q0,q1,q2,q3,q4,q5⟩:=z3 l7.out.b;go_wp2_with (refine Xc.out.mono ?_;rintro e w4 ⟨v0,v1,v2,rfl,gD,hb⟩;refine Stop.out ?_)
    refine⟨?_⟩;obtain⟨B0,d0,B1,d1,B2,d2,rfl,rfl,rfl,-,hA⟩:=gD.args;have dW:=hb.trans (((Below.refl w4.heap.size w4).alloc (Nat.le_refl _) (.cells #[.slice B0 ps.length d0,.slice B1 n1 d1,.slice B2 ss.length d2] 26)).mono hb.size);have jL:=qh (dy.out.trans (dW.mono cQ));have pS:=qh (l7.out.step dW);have PN:=qa (eA HT3.out dW);have lG:=qh (LB.new (w:=w) (b:=0) (c1:=d1) hA);clear dW hb gD hA dy l7 HT3 Xc q0 q1 q2 q3 q4 q5 cQ HR G3;go_upto_region 4 with fail
    generalize (w4.alloc (.cells #[.slice B0 ps.length d0,.slice B1 n1 d1,.slice B2 ss.length d2] 26))=w5 at jL pS PN lG ⊢;generalize w4.heap.size=o at lG ⊢;have hB5:g≤w5.heap.size:=Nat.le_of_lt (fJ pS.out.b.out);obtain⟨br,hbr⟩:∃ x,iD (pX p) (pY p)=x:=⟨_,rfl⟩
    have Xd:=wiO Ky.out Bt.out 4000 (by decide);have hwp:=wiP Ky.out Bt.out 4000 (by decide);have GN:=aku 3994 Bt.out;rw[hbr]at Xd hwp GN
    have Xe:=qh (alj B0 B1 B2 d0 n1 d1 d2 ps zs ss w5 lG.out.a HZ.out 4000 (Mk Ky.out HL.out.1 4000 (by have:=HL.out;omega)) (oJ ps) (PI Ky.out 4000 (by decide)) HP.out ⟨LK.out.1,LK.out.2.1⟩ p br (Hs ps p) hwp t);have PB:=qh (akw ps zs n1 ss (Hs ps p) br p t LK.out);have PO:=qh (fun W (hm:LB g ps zs n1 ss A0 A1 A2 c0 c1 c2 n0 n2 W)=>alg A0 A1 A2 c0 n1 c1 c2 ps zs ss W hm.a HZ.out 4000 (oJ ps) HP.out ⟨LK.out.1,LK.out.2.1⟩ p br GN (Hs ps p) Xd t);rw[H0.out,H2.out]at PO
    clear Xd hwp GN hbr;obtain⟨O,hO⟩:∃ x,uP ps zs n1 ss (Hs ps p) br p t=x:=⟨_,rfl⟩
    rw[hO]at Xe PO PB
    clear hO;obtain⟨q0,q1,q2,q3,q4,q5⟩:=z3 lG.out.b;obtain⟨s0,s1,s2,s3,s4,s5,s6,s7,s8,s9,Xf,Xg⟩:=z6 PN;go_wp2_with (refine Xe.out.mono ?_;rintro e w6 ⟨u0,u1,u2,rfl,gD,hb⟩;refine Stop.out ?_)
    refine⟨?_⟩;obtain⟨D0,e0,D1,e1,D2,e2,rfl,rfl,rfl,-,hA⟩:=gD.args;have dW:=hb.trans (((Below.refl w6.heap.size w6).alloc (Nat.le_refl _) (.cells #[.slice D0 O.2.1.length e0,.slice D1 O.2.2.2.1 e1,.slice D2 O.2.2.2.2.length e2] 26)).mono hb.size);have j6:=qh (jL.out.trans (dW.mono hB5));have Ht:=qh (pS.out.step dW);have PR:=qa (eA PN.out dW);have Xh:=qh (lG.out.step dW);have PU:=qh (LB.new (w:=w) (b:=0) (c1:=e1) hA);clear dW hb gD hA jL pS PN s0 s1 s2 s3 s4 s5 s6 s7 s8 s9 Xf Xg lG Xe q0 q1 q2 q3 q4 q5 hB5 HP Ky;go_upto_region 5 with fail
    generalize (w6.alloc (.cells #[.slice D0 O.2.1.length e0,.slice D1 O.2.2.2.1 e1,.slice D2 O.2.2.2.2.length e2] 26))=w7 at j6 Ht PR Xh PU ⊢;generalize w6.heap.size=p at PU ⊢;have hB7:g≤w7.heap.size:=Nat.le_of_lt (fJ Ht.out.b.out);obtain⟨q0,q1,q2,q3,q4,q5⟩:=z3 Ht.out.b;obtain⟨s0,s1,s2,s3,s4,s5,s6,s7,s8,s9,Xf,Xg⟩:=z6 PR;go_wp2_with (refine(PO.out w7 Ht.out).mono ?_;rintro e w8 ⟨u0,u1,u2,rfl,gD,hb⟩;refine Stop.out ?_)
    refine⟨?_⟩;obtain⟨E0,f0,E1,f1,E2,f2,rfl,rfl,rfl,-,hA⟩:=gD.args;have dW:=hb.trans (((Below.refl w8.heap.size w8).alloc (Nat.le_refl _) (.cells #[.slice E0 O.2.1.length f0,.slice E1 O.2.2.2.1 f1,.slice E2 O.2.2.2.2.length f2] 26)).mono hb.size);have Ek:=qh (j6.out.trans (dW.mono hB7));have PV:=qh (Ht.out.step dW);have Xi:=qa (eA PR.out dW);have KJ:=qh (Xh.out.step dW);have PW:=qh (PU.out.step dW);have LL:=qh (LB.new (w:=w) (b:=0) (c1:=f1) hA);clear dW hb gD hA j6 Ht PR s0 s1 s2 s3 s4 s5 s6 s7 s8 s9 Xf Xg Xh PU PO q0 q1 q2 q3 q4 q5 hB7;go_upto_region 6 with fail
    generalize (w8.alloc (.cells #[.slice E0 O.2.1.length f0,.slice E1 O.2.2.2.1 f1,.slice E2 O.2.2.2.2.length f2] 26))=w9 at Ek PV Xi KJ PW LL ⊢;generalize w8.heap.size=q at LL ⊢;have hB9:g≤w9.heap.size:=Nat.le_of_lt (fJ PV.out.b.out);obtain⟨q0,q1,q2,q3,q4,q5⟩:=z3 PW.out.b;obtain⟨p0,p1,p2,p3,p4,p5⟩:=z3 LL.out.b;have sj:=qh (aaH D0 D1 D2 E0 E1 E2 e0 O.2.2.2.1 e1 e2 f0 f1 f2 O.2.1 O.2.2.1 O.2.2.2.2 w9 PW.out.a LL.out.a PB.out 4000 (by decide));go_wp2_with (refine sj.out.mono ?_;rintro e g_ ⟨rfl,hb⟩;refine Stop.out ?_)
    refine⟨?_⟩;have Ba:=qh (Ek.out.trans (hb.mono hB9));have OU:=qh (PV.out.step hb);have aqu:=qa (eA Xi.out hb);have Vi:=qh (KJ.out.step hb);clear hb Ek PV Xi KJ PW LL sj PB q0 q1 q2 q3 q4 q5 p0 p1 p2 p3 p4 p5 hB9;have Vj:g≤g_.heap.size:=Nat.le_of_lt (fJ OU.out.b.out);obtain⟨q0,q1,q2,q3,q4,q5⟩:=z3 Vi.out.b;obtain⟨p0,p1,p2,p3,p4,p5⟩:=z3 OU.out.b;have sj:=qh (aaH B0 B1 B2 A0 A1 A2 d0 n1 d1 d2 c0 c1 c2 ps zs ss g_ Vi.out.a OU.out.a HL.out 4000 (by decide));rw[H0.out,H2.out]at sj
    rw[H0.out]at q0
    rw[H2.out]at q2
    go_wp2_with (refine sj.out.mono ?_;rintro e kD ⟨rfl,hb⟩;refine Stop.out ?_)
    refine⟨?_⟩;have vA:=qh (Ba.out.trans (hb.mono Vj));have aqv:=Nat.le_trans Vj hb.size;have HC:=qh (PM.out kD);clear hb Ba OU aqu Vi sj q0 q1 q2 q3 q4 q5 p0 p1 p2 p3 p4 p5 Vj;go_wp2_with (refine HC.out.mono ?_;rintro e jd ⟨rfl,hb⟩;refine Stop.out ?_)
    refine⟨?_⟩;have aqw:=qh (vA.out.trans (hb.mono aqv));clear hb;go_wp2_with (first|(go_ret;exact⟨rfl,by rw[HG.out];exact aqw.out⟩)|fail)
   ·have hne:(r != 0)=true:=bne_iff_ne.mpr h0
    have HC:=qh (PM.out w3);clear h0;go_wp2_with (refine HC.out.mono ?_;rintro e w4 ⟨rfl,hb⟩;refine Stop.out ?_)
    refine⟨?_⟩;have mJ:=qh (dy.out.trans (hb.mono cQ));clear hb;go_wp2_with (first|(go_ret;exact⟨rfl,by rw[HG.out];exact mJ.out⟩)|fail)
 end Go.Proofs.YtfcjnhkkfmgmpaaGreat
