import Derived.Test.YtfcjnhkkfmgmpaaGreatZrG46
set_option linter.all false
set_option maxRecDepth 100000
set_option maxHeartbeats 8000000
namespace Go.Proofs.YtfcjnhkkfmgmpaaGreat
open Go.RowKit Num Go.Proofs.YtfcjnhkkfmgmpaaGreatH.R Go.Proofs.YtfcjnhkkfmgmpaaGreatH.Z Go.Proofs.YtfcjnhkkfmgmpaaGreatW.PrintWords
theorem add_add (ad:Addr) (m n:Nat):(ad.add m).add n=ad.add (m+n):=by
 unfold Addr.add;by_cases h1:m=0
 ·subst h1;simp
 ·by_cases h2:n=0
  ·subst h2;simp[h1]
  ·have h3:¬ m+n=0:=by omega
   simp only[if_neg h1,if_neg h2,if_neg h3];congr 1
   omega
theorem fT_some (o:Option Nat):o.isSome=decide (0≤fT o):=by
 cases o with
 | none=>rfl
 | some j=>exact(decide_eq_true (show(0:Int)≤((j / 3:Nat):Int) by omega)).symm
theorem px_int (k:Nat) (h:k≤2):((k:Int)+2).tmod 3=(px k:Int):=by
 have:k=0∨k=1∨k=2:=by omega
 rcases this with rfl|rfl|rfl <;> decide
theorem px_lt {k:Nat} (h:k≤2):px k<3:=by unfold px;split <;> omega
abbrev P6 (ad:Addr) (ps:PS) (i:Nat) (w:World):Prop:=w.cell? (ad.add (i*6))=some (.bool (ptAt ps i).f0.f0.f0)∧w.cell? ⟨(ad.add (i*6)).block,(ad.add (i*6)).off+1,none⟩=some (.string (ptAt ps i).f0.f0.f1)∧w.cell? ⟨(ad.add (i*6)).block,(ad.add (i*6)).off+2,none⟩=some (.string (ptAt ps i).f0.f1)∧w.cell? ⟨(ad.add (i*6)).block,(ad.add (i*6)).off+3,none⟩=some (.bool (ptAt ps i).f1.f0.f0)∧w.cell? ⟨(ad.add (i*6)).block,(ad.add (i*6)).off+4,none⟩=some (.string (ptAt ps i).f1.f0.f1)∧w.cell? ⟨(ad.add (i*6)).block,(ad.add (i*6)).off+5,none⟩=some (.string (ptAt ps i).f1.f1)
abbrev SP (w0:World) (ad:Addr) (ps:PS) (i j k l:Nat) (w:World):Prop:=P6 ad ps i w∧P6 ad ps j w∧P6 ad ps k w∧P6 ad ps l w∧Below w0.heap.size w0 w
structure RF (g:Nat) (w:World) (A0 A1 A2:Option Addr) (n0 c0 n1 c1 n2 c2:Nat) (W:World):Prop where
 box:MB g w A0 A1 A2 n0 c0 n1 c1 n2 c2 W
 br:Aside0 (W.heap[g+1]?=some (.cells nil3 26 (0,0)))
theorem RF.step {g:Nat} {w:World} {A0 A1 A2:Option Addr} {n0 c0 n1 c1 n2 c2:Nat} {W W':World} (h:RF g w A0 A1 A2 n0 c0 n1 c1 n2 c2 W) (hb:Below W.heap.size W W'):RF g w A0 A1 A2 n0 c0 n1 c1 n2 c2 W' :=
 ⟨h.box.step hb,⟨blk_below h.br.out hb⟩⟩
theorem flip_r (A0 A1 A2:Option Addr) (c0 n1 c1 c2:Nat) (ps:PS) (zs:List Int) (ss:SS) (w:World) (hA:ArgM w A0 A1 A2 c0 c2 ps zs n1 ss) (hz:zs.length=3*n1) (K:Nat) (ori:Nat→Nat→Nat→Int) (hO:OrO K ps ori) (hG:SgO K ss (sgP ss)) (hM:POK ps.length zs n1 ss ori) (hD:∀ i j k,0<ori i j k→i≠j∧j≠k∧k≠i) (t k:Int) :
  Calls Tryz.prog 11 #[.agg #[.slice A0 ps.length c0,.slice A1 n1 c1,.slice A2 ss.length c2],.int .i64 t,.int .i64 k] w fun e w'=>TellsM w (flipO ps zs n1 ss ori t k) e w':=by
 obtain⟨n0,hn0⟩:∃ n,ps.length=n:=⟨_,rfl⟩
 obtain⟨n2,hn2⟩:∃ n,ss.length=n:=⟨_,rfl⟩
 have HL:=qh (show n0≤400∧n1≤900∧n2≤1300 from ⟨hn0 ▸ hM.l0,hM.l1,hn2 ▸ hM.l2⟩)
 have HF1:=qh (show RF w.heap.size w A0 A1 A2 n0 c0 n1 c1 n2 c2 ((w.alloc (.cells #[.slice A0 n0 c0,.slice A1 n1 c1,.slice A2 n2 c2] 26)).alloc (.cells nil3 26)) from
  ⟨(MB.new w A0 A1 A2 n0 c0 n1 c1 n2 c2).step ((Below.refl _ _).alloc (Nat.le_refl _) _),⟨by have:=blk_new (w.alloc (.cells #[.slice A0 n0 c0,.slice A1 n1 c1,.slice A2 n2 c2] 26)) (.cells nil3 26);simpa using this⟩⟩)
 have H0:=qh hn0;have H2:=qh hn2;have HZ:=qh hz;have HA:=qh hA;have HO:=qh hO;have HG2:=qh hG;have HM:=qh hM;have HD:=qh hD;rw[hn0,hn2];clear hA hz hO hM hG hD hn0 hn2;obtain⟨g,hg⟩:∃ g,w.heap.size=g:=⟨_,rfl⟩
 have HG:=qh hg;rw[hg]at HF1
 go_enter Tryz.func11,Tryz.ntmps11;go_upto_region 1 with fail
 rw[show(#[.slice none 0 0,.slice none 0 0,.slice none 0 0]:Array Value)=nil3 from rfl];generalize ((w.alloc (.cells #[.slice A0 n0 c0,.slice A1 n1 c1,.slice A2 n2 c2] 26)).alloc (.cells nil3 26))=w1 at HF1 ⊢;have q0:=HF1.out.box.b0;have q1:=HF1.out.box.b1;have q2:=HF1.out.box.b2;have HIS:=qh (is_r A0 A1 A2 n0 c0 n1 c1 n2 c2 w1 t k);cases hB:isB n1 t k with
 | false =>
  rw[hB]at HIS
  have HR2:=qh (show flipO ps zs n1 ss ori t k=badM 1 from if_neg (by rw[hB];decide));clear hB;go_wp2_with (refine HIS.out.mono ?_;rintro e w2 ⟨rfl,hb⟩;refine Stop.out ?_)
  refine⟨?_⟩;have HF2:=qh (HF1.out.step hb);clear hb;obtain⟨b0,b1,b2,b3,b4,b5⟩:=z3 HF2.out.br;go_wp2_with (refine ret_ct (p:=6) (u:=7) (g:=g+1) (cs:=nil3) (v := .int .i64 1) ?_ ?_ ?_ (ret3 HF2.out.box.below HF2.out.br (Nat.lt_succ_self g) _ _ _).1 Tryz.underlying26 ?_ ?_ ?_ ?_;exact(by kernel_rfl);exact(by kernel_rfl);exact(by kernel_rfl);rfl;exact(by kernel_rfl);rfl;rw[HR2.out];exact TellsM.bad _ _ _ (by rw[HG.out];exact(ret3 HF2.out.box.below HF2.out.br (Nat.lt_succ_self g) _ _ _).2))
 | true =>
  rw[hB]at HIS
  have hR:=hB;unfold isB at hR;simp only[Bool.and_eq_true,decide_eq_true_eq]at hR;obtain⟨⟨⟨a1,a2⟩,a3⟩,a4⟩:=hR;obtain⟨T,rfl⟩:=Int.eq_ofNat_of_zero_le a1;obtain⟨k,rfl⟩:=Int.eq_ofNat_of_zero_le a3;have hT:T<n1:=by omega
  have hk:k≤2:=by omega
  have HR:=qh (show flipO ps zs n1 ss ori (T:Int) (k:Int)=_ from if_pos hB);simp only[Int.toNat_natCast]at HR;have HT:=qh hT;have HK:=qh hk;have HM1:=HM.out.inr (j:=3*T+k) (by omega);have HM2:=HM.out.inr (j:=3*T+nx k) (by unfold nx;split <;> omega);have HM3:=HM.out.inr (j:=3*T+px k) (by unfold px;split <;> omega);rw[H0.out]at HM1 HM2 HM3
  obtain⟨na,hxa⟩:∃ x:Nat,zs.getD (3*T+k) 0=x:=⟨_,(Int.toNat_of_nonneg HM1.1).symm⟩
  obtain⟨nb,hxb⟩:∃ x:Nat,zs.getD (3*T+nx k) 0=x:=⟨_,(Int.toNat_of_nonneg HM2.1).symm⟩
  obtain⟨nc,hxc⟩:∃ x:Nat,zs.getD (3*T+px k) 0=x:=⟨_,(Int.toNat_of_nonneg HM3.1).symm⟩
  rw[hxa,hxb,hxc]at HR
  rw[hxa]at HM1
  rw[hxb]at HM2
  rw[hxc]at HM3
  have HXA:=qh hxa;have HXB:=qh hxb;have HXC:=qh hxc;have HIN:=qh (show na<n0∧nb<n0∧nc<n0 by omega);clear hxa hxb hxc HM1 HM2 HM3 hT hk a1 a2 a3 a4 hB;go_wp2_with (refine HIS.out.mono ?_;rintro e w2 ⟨rfl,hb⟩;refine Stop.out ?_)
  refine⟨?_⟩;have HF2:=qh (HF1.out.step hb);clear hb HIS HF1 q0 q1 q2;have q0:=HF2.out.box.b0;have q1:=HF2.out.box.b1;have q2:=HF2.out.box.b2;have HAw:=qh (HA.out.below HF2.out.box.below HG.out.symm);have HEN:=qh (ends_r A0 A1 A2 n0 c0 n1 c1 n2 c2 zs w2 HAw.out.t T k HT.out HK.out (by have:=HL.out;omega));rw[HXA.out,HXB.out]at HEN
  go_wp2_with (refine HEN.out.mono ?_;rintro e w3 ⟨rfl,hb⟩;refine Stop.out ?_)
  refine⟨?_⟩;have HF3:=qh (HF2.out.step hb);clear hb HEN HF2 q0 q1 q2 HAw;have q0:=HF3.out.box.b0;have q1:=HF3.out.box.b1;have q2:=HF3.out.box.b2;have HAw:=qh (HA.out.below HF3.out.box.below HG.out.symm);obtain⟨ad,rfl,hc⟩:=HAw.out.t (by have:=HT.out;omega);have yc:=hc (T*3+px k) (by have:=px_lt HK.out;have:=HT.out;omega);rw[← add_add,show T*3+px k=3*T+px k by omega,HXC.out]at yc
  have HC:=qh hc;have v1:IntKind.i64.wrap ((k:Int)+2)=(k:Int)+2:=by have:=HK.out;rw[IntKind.wrap_i64];omega
  have v2:=px_int k HK.out;have v3:((T:Int)<(n1:Int))=True:=eq_true (by have:=HT.out;omega);have v4:(T<n1)=True:=eq_true HT.out;have v5:((0:Int)≤(T:Int))=True:=eq_true (by omega);have v6:((px k:Int)<3)=True:=eq_true (by have:=px_lt HK.out;omega);have v7:(px k<3)=True:=eq_true (px_lt HK.out);have v8:((0:Int)≤(px k:Int))=True:=eq_true (by omega);have HAC:=qh (across_r A0 (some ad) A2 n0 c0 n1 c1 n2 c2 zs w3 HAw.out.t T k HT.out HK.out (by have:=HL.out;omega));rw[HXA.out,HXB.out]at HAC
  clear hc HAw;go_wp2_with (refine HAC.out.mono ?_;rintro e w4 ⟨rfl,hb⟩;refine Stop.out ?_)
  refine⟨?_⟩;have HF4:=qh (HF3.out.step hb);clear hb HAC HF3 q0 q1 q2 yc v1 v2 v3 v4 v5 v6 v7 v8;have q0:=HF4.out.box.b0;have q1:=HF4.out.box.b1;have q2:=HF4.out.box.b2;generalize hfo:fnd zs (nb:Int) (na:Int) (3*n1)=fo;cases fo with
  | none =>
   have HR2:=qh (show flipO ps zs n1 ss ori (T:Int) (k:Int)=badM 7 by rw[HR.out,show flipJ zs n1 ss ori na nb nc=none by unfold flipJ;rw[hfo]]);rw[show fT none = -1 from rfl,show fK none=0 from rfl];clear hfo;obtain⟨b0,b1,b2,b3,b4,b5⟩:=z3 HF4.out.br;go_wp2_with (refine ret_ct (p:=6) (u:=7) (g:=g+1) (cs:=nil3) (v := .int .i64 7) ?_ ?_ ?_ (ret3 HF4.out.box.below HF4.out.br (Nat.lt_succ_self g) _ _ _).1 Tryz.underlying26 ?_ ?_ ?_ ?_;exact(by kernel_rfl);exact(by kernel_rfl);exact(by kernel_rfl);rfl;exact(by kernel_rfl);rfl;rw[HR2.out];exact TellsM.bad _ _ _ (by rw[HG.out];exact(ret3 HF4.out.box.below HF4.out.br (Nat.lt_succ_self g) _ _ _).2))
  | some j =>
   obtain⟨jt,hjt⟩:∃ x,j / 3=x:=⟨_,rfl⟩
   obtain⟨jk,hjk⟩:∃ x,j%3=x:=⟨_,rfl⟩
   rw[show fT (some j)=(jt:Int) by rw[← hjt];rfl,show fK (some j)=(jk:Int) by rw[← hjk];rfl];have HJT:=qh hjt;have HJK:=qh hjk;have HFO:=qh hfo;have HJ:=qh (show j<3*n1∧jt<n1∧jk≤2 by have:=(fnd_some hfo).1;omega);clear hjt hjk hfo;have HSG:=qh (gussetref11_SegOf.calls K A2 c2 ss na nb (sgP ss na nb) w4 (HA.out.below HF4.out.box.below HG.out.symm).s HA.out.sc (HG2.out na nb));rw[H2.out]at HSG
   obtain⟨sg,hsg⟩:∃ x,sgP ss na nb=x:=⟨_,rfl⟩
   rw[hsg]at HSG
   have HS:=qh hsg;have v9:decide ((jt:Int)<0)=false:=decide_eq_false (by omega);clear hsg;go_wp2_with (refine HSG.out.mono ?_;rintro e w5 ⟨rfl,hb⟩;refine Stop.out ?_)
   refine⟨?_⟩;have HF5:=qh (HF4.out.step hb.below);clear hb HSG HF4 q0 q1 q2 v9;by_cases hq:0≤sg
   ·have e1:decide (0≤sg)=true:=decide_eq_true hq
    have HR2:=qh (show flipO ps zs n1 ss ori (T:Int) (k:Int)=badM 7 by rw[HR.out,show flipJ zs n1 ss ori na nb nc=none by unfold flipJ;rw[HFO.out];exact if_pos (.inl (HS.out ▸ hq))]);clear hq;obtain⟨b0,b1,b2,b3,b4,b5⟩:=z3 HF5.out.br;go_wp2_with (refine ret_ct (p:=6) (u:=7) (g:=g+1) (cs:=nil3) (v := .int .i64 7) ?_ ?_ ?_ (ret3 HF5.out.box.below HF5.out.br (Nat.lt_succ_self g) _ _ _).1 Tryz.underlying26 ?_ ?_ ?_ ?_;exact(by kernel_rfl);exact(by kernel_rfl);exact(by kernel_rfl);rfl;exact(by kernel_rfl);rfl;rw[HR2.out];exact TellsM.bad _ _ _ (by rw[HG.out];exact(ret3 HF5.out.box.below HF5.out.br (Nat.lt_succ_self g) _ _ _).2))
   ·have e1:decide (0≤sg)=false:=decide_eq_false hq
    have HQ:=qh hq;clear hq;have q0:=HF5.out.box.b0;have q1:=HF5.out.box.b1;have q2:=HF5.out.box.b2;have HM4:=HM.out.inr (j:=3*jt+px jk) (by have:=HJ.out;unfold px;split <;> omega);rw[H0.out]at HM4
    obtain⟨nd,hxd⟩:∃ x:Nat,zs.getD (3*jt+px jk) 0=x:=⟨_,(Int.toNat_of_nonneg HM4.1).symm⟩
    rw[hxd]at HM4
    have HXD:=qh hxd;have HIN2:=qh (show nd<n0 by omega);obtain⟨ad',he,hc⟩:=(HA.out.below HF5.out.box.below HG.out.symm).t (by have:=HT.out;omega);obtain rfl:=Option.some.inj he;have yc:=hc (jt*3+px jk) (by have:=px_lt HJ.out.2.2;have:=HJ.out;omega);rw[← add_add,show jt*3+px jk=3*jt+px jk by omega,HXD.out]at yc
    have v1:IntKind.i64.wrap ((jk:Int)+2)=(jk:Int)+2:=by have:=HJ.out;rw[IntKind.wrap_i64];omega
    have v2:=px_int jk HJ.out.2.2;have v3:((jt:Int)<(n1:Int))=True:=eq_true (by have:=HJ.out;omega);have v4:(jt<n1)=True:=eq_true HJ.out.2.1;have v5:((0:Int)≤(jt:Int))=True:=eq_true (by omega);have v6:((px jk:Int)<3)=True:=eq_true (by have:=px_lt HJ.out.2.2;omega);have v7:(px jk<3)=True:=eq_true (px_lt HJ.out.2.2);have v8:((0:Int)≤(px jk:Int))=True:=eq_true (by omega);have HAw:=qh (HA.out.below HF5.out.box.below HG.out.symm);have HX:=qh (find_r A0 (some ad) A2 n0 c0 n1 c1 n2 c2 zs w5 HAw.out.t nc nd (by have:=HL.out;omega));clear hc he hxd HM4 HC HAw;go_wp2_with (refine HX.out.mono ?_;rintro e w6 ⟨rfl,hb⟩;refine Stop.out ?_)
    refine⟨?_⟩;have HF6:=qh (HF5.out.step hb);clear hb HX HF5 q0 q1 q2 yc v1 v2 v3 v4 v5 v6 v7 v8 e1;have q0:=HF6.out.box.b0;have q1:=HF6.out.box.b1;have q2:=HF6.out.box.b2;have HY:=qh (find_r A0 (some ad) A2 n0 c0 n1 c1 n2 c2 zs w6 (HA.out.below HF6.out.box.below HG.out.symm).t nd nc (by have:=HL.out;omega));go_wp2_with (refine HY.out.mono ?_;rintro e w7 ⟨rfl,hb⟩;refine Stop.out ?_)
    refine⟨?_⟩;have HF7:=qh (HF6.out.step hb);clear hb HY HF6 q0 q1 q2;obtain⟨r1,h1⟩:∃ x,fT (fnd zs (nc:Int) (nd:Int) (3*n1))=x:=⟨_,rfl⟩
    obtain⟨r2,h2⟩:∃ x,fK (fnd zs (nc:Int) (nd:Int) (3*n1))=x:=⟨_,rfl⟩
    obtain⟨r3,h3⟩:∃ x,fT (fnd zs (nd:Int) (nc:Int) (3*n1))=x:=⟨_,rfl⟩
    obtain⟨r4,h4⟩:∃ x,fK (fnd zs (nd:Int) (nc:Int) (3*n1))=x:=⟨_,rfl⟩
    rw[h1,h2,h3,h4];have O1:=qh h1;have O2:=qh h3;clear h1 h2 h3 h4;go_upto_region 12 with fail
    obtain⟨o1,ho1⟩:∃ x,ori nd nb nc=x:=⟨_,rfl⟩
    obtain⟨o2,ho2⟩:∃ x,ori nd nc na=x:=⟨_,rfl⟩
    obtain⟨bb,hbb⟩:∃ x:Bool,(decide (0≤r1)||(decide (0≤r3)||(!decide (0<ori nd nb nc)||!decide (0<ori nd nc na))))=x:=⟨_,rfl⟩
    have HFJ:=qh (flip_eq (na:=na) (nb:=nb) (nc:=nc) HR.out HFO.out HJT.out HJK.out HXD.out HS.out (by have:=HQ.out;omega) (by rw[fT_some,O1.out]) (by rw[fT_some,O2.out]) hbb);rw[ho1,ho2]at hbb
    have HP:=qh (fun W (hW:Below w7.heap.size w7 W)=>(HA.out.below (HF7.out.step hW).box.below HG.out.symm).p);rw[H0.out]at HP
    obtain⟨adp,rfl,-⟩:=at_T42 (HP.out w7 (Below.refl _ _)) (nd:Int) (by omega) (by have:=HIN2.out;omega);have HQ1:=qh (HO.out nd nb nc (by rw[H0.out];exact HIN2.out) (by rw[H0.out];exact HIN.out.2.1) (by rw[H0.out];exact HIN.out.2.2));have HQ2:=qh (HO.out nd nc na (by rw[H0.out];exact HIN2.out) (by rw[H0.out];exact HIN.out.2.2) (by rw[H0.out];exact HIN.out.1));rw[ho1]at HQ1
    rw[ho2]at HQ2
    go_cut [122] (fun a wx=>a = .bool bb∧Hid (Below w7.heap.size w7 wx))
    case first =>
     have HBB:=qh hbb;clear hbb O1 O2 ho1 ho2;have HC1:=qh (fun W (hW:Below w7.heap.size w7 W)=>gussetref05_Orient.calls K _ _ _ _ _ _ _ _ _ _ _ _ _ _ _ _ _ _ _ W HQ1.out);have HC2:=qh (fun W (hW:Below w7.heap.size w7 W)=>gussetref05_Orient.calls K _ _ _ _ _ _ _ _ _ _ _ _ _ _ _ _ _ _ _ W HQ2.out);obtain⟨D0,D1,D2,D3,D4,D5⟩:=pt_at (HP.out w7 (Below.refl _ _)) nd HIN2.out;obtain⟨P0,P1,P2,P3,P4,P5⟩:=pt_at (HP.out w7 (Below.refl _ _)) nb HIN.out.2.1;obtain⟨C0,C1,C2,C3,C4,C5⟩:=pt_at (HP.out w7 (Below.refl _ _)) nc HIN.out.2.2;obtain⟨E0,E1,E2,E3,E4,E5⟩:=pt_at (HP.out w7 (Below.refl _ _)) na HIN.out.1;have d0':=bw_cell D0;have d1':=bw_cell D1;have d2':=bw_cell D2;have d3':=bw_cell D3;have d4':=bw_cell D4;have d5':=bw_cell D5;have p0':=bw_cell P0;have p1':=bw_cell P1;have p2':=bw_cell P2;have p3':=bw_cell P3;have p4':=bw_cell P4;have p5':=bw_cell P5;have c0':=bw_cell C0;have c1':=bw_cell C1;have c2':=bw_cell C2;have c3':=bw_cell C3;have c4':=bw_cell C4;have c5':=bw_cell C5;have e0':=bw_cell E0;have e1':=bw_cell E1;have e2':=bw_cell E2;have e3':=bw_cell E3;have e4':=bw_cell E4;have e5':=bw_cell E5;have x1:((nd:Int)<(n0:Int))=True:=eq_true (by have:=HIN2.out;omega);have x2:((nb:Int)<(n0:Int))=True:=eq_true (by have:=HIN.out;omega);have x3:((nc:Int)<(n0:Int))=True:=eq_true (by have:=HIN.out;omega);have x4:((na:Int)<(n0:Int))=True:=eq_true (by have:=HIN.out;omega);have y1:(nd<n0)=True:=eq_true HIN2.out;have y2:(nb<n0)=True:=eq_true HIN.out.2.1;have y3:(nc<n0)=True:=eq_true HIN.out.2.2;have y4:(na<n0)=True:=eq_true HIN.out.1;clear D0 D1 D2 D3 D4 D5 P0 P1 P2 P3 P4 P5 C0 C1 C2 C3 C4 C5 E0 E1 E2 E3 E4 E5;by_cases k1:0≤r1
     ·have e1:decide (0≤r1)=true:=decide_eq_true k1
      rw[e1]at HBB
      clear k1;refine region_bw w7 (by kernel_rfl) (by kernel_rfl) ?_;repeat(go_big_quiet_step (fail))
      refine wpQuiet_nil ?_;intro _ hw';obtain⟨p,rfl⟩:=hw';go_wp2
      go_meet
      exact⟨by rw[← HBB.out];rfl,qh p.h⟩
     ·have e1:decide (0≤r1)=false:=decide_eq_false k1
      rw[e1]at HBB
      clear k1;by_cases k2:0≤r3
      ·have e2:decide (0≤r3)=true:=decide_eq_true k2
       rw[e2]at HBB
       clear k2;refine region_bw w7 (by kernel_rfl) (by kernel_rfl) ?_;repeat(go_big_quiet_step (fail))
       refine wpQuiet_nil ?_;intro _ hw';obtain⟨p,rfl⟩:=hw';go_wp2
       go_meet
       exact⟨by rw[← HBB.out];rfl,qh p.h⟩
      ·have e2:decide (0≤r3)=false:=decide_eq_false k2
       rw[e2]at HBB
       clear k2;by_cases k3:0<o1
       ·have e3:decide (o1≤0)=false:=decide_eq_false (by omega)
        rw[decide_eq_true k3]at HBB
        clear k3;refine region_bw w7 (by kernel_rfl) (by kernel_rfl) ?_;repeat(go_big_quiet_step ((first|(go_at_call 34;with_reducible exact bw_call HC1.out _)|(go_at_call 34;with_reducible exact bw_call HC2.out _))))
        refine wpQuiet_nil ?_;intro _ hw';obtain⟨p,rfl⟩:=hw';go_wp2
        go_meet
        exact⟨by rw[← HBB.out];by_cases k4:0<o2 <;> simp[k4] <;> omega,qh p.h⟩
       ·have e3:decide (o1≤0)=true:=decide_eq_true (by omega)
        rw[decide_eq_false k3]at HBB
        clear k3;refine region_bw w7 (by kernel_rfl) (by kernel_rfl) ?_;repeat(go_big_quiet_step ((go_at_call 34;with_reducible exact bw_call HC1.out _)))
        refine wpQuiet_nil ?_;intro _ hw';obtain⟨p,rfl⟩:=hw';go_wp2
        go_meet
        exact⟨by rw[← HBB.out];rfl,qh p.h⟩
    case rest =>
     obtain⟨rfl,HB8⟩:=hcut;have HF8:=qh (HF7.out.step HB8.out);clear HF7 HB8 HP HQ1 HQ2 hbb O1 O2;generalize wc=w8 at HF8 ⊢;cases bb with
     | true =>
      have HR2:=qh (show flipO ps zs n1 ss ori (T:Int) (k:Int)=badM 7 from HFJ.out);obtain⟨b0,b1,b2,b3,b4,b5⟩:=z3 HF8.out.br;go_wp2_with (refine ret_ct (p:=6) (u:=7) (g:=g+1) (cs:=nil3) (v := .int .i64 7) ?_ ?_ ?_ (ret3 HF8.out.box.below HF8.out.br (Nat.lt_succ_self g) _ _ _).1 Tryz.underlying26 ?_ ?_ ?_ ?_;exact(by kernel_rfl);exact(by kernel_rfl);exact(by kernel_rfl);rfl;exact(by kernel_rfl);rfl;rw[HR2.out];exact TellsM.bad _ _ _ (by rw[HG.out];exact(ret3 HF8.out.box.below HF8.out.br (Nat.lt_succ_self g) _ _ _).2))
     | false =>
      have HR2:=qh (show flipO ps zs n1 ss ori (T:Int) (k:Int)=(0,ps,flipZ zs T j na nb nc nd,n1,ss) from HFJ.out);have q0:=HF8.out.box.b0;have q1:=HF8.out.box.b1;have q2:=HF8.out.box.b2;have HOW:=qh (copy_m (some adp) (some ad) A2 c0 n1 c1 c2 ps zs ss w8 (HA.out.below HF8.out.box.below HG.out.symm) HZ.out (by rw[H0.out,H2.out];have:=HL.out;omega));rw[H0.out,H2.out]at HOW
      have hne:=flip_ne HM.out HD.out HT.out HK.out (j:=j) (by rw[HXA.out,HXB.out];exact HFO.out);rw[HJT.out]at hne
      have HNE:=qh hne;clear hne;go_wp2_with (refine HOW.out.mono ?_;rintro e w12 ⟨v0,v1,v2,rfl,hOM,hb⟩;refine Stop.out ?_)
      refine⟨?_⟩;obtain⟨g1,k1,rfl⟩:=hOM.blk (by have:=HT.out;omega);obtain⟨B0,d0,B1,d1,B2,d2,rfl,-,rfl,-,-⟩:=hOM.args;rw[H0.out,H2.out]at hOM ⊢
      have hal:=(Below.refl w12.heap.size w12).alloc (Nat.le_refl _) (.cells #[.slice B0 n0 d0,.slice (some ⟨g1,0,none⟩) n1 k1,.slice B2 n2 d2] 26);have HF12:=qh (HF8.out.step hb)
      have HTI:=qh (show TI g w12.heap.size w8.heap.size w (.slice B0 n0 d0) (.slice B2 n2 d2) g1 k1 ps zs n1 ss (w12.alloc (.cells #[.slice B0 n0 d0,.slice (some ⟨g1,0,none⟩) n1 k1,.slice B2 n2 d2] 26)) from
       ⟨hOM.below hal,⟨blk_below HF12.out.br.out hal⟩,⟨blk_new _ _⟩,(HF12.out.step hal).box.below,Nat.le_of_lt (ql q0)⟩)
      have HGB:=qh (show g+1<w8.heap.size from blk_lt HF8.out.br.out);clear hal hOM hb HOW q0 q1 q2 HF8 HF12;go_upto_region 15 with fail
      generalize (w12.alloc (.cells #[.slice B0 n0 d0,.slice (some ⟨g1,0,none⟩) n1 k1,.slice B2 n2 d2] 26))=w13 at HTI ⊢;generalize w12.heap.size=o at HTI ⊢;generalize w8.heap.size=b at HTI HGB;have n1_:¬ g1=o:=by obtain⟨-,c,hc,-⟩:=HTI.out.g1;exact blk_ne hc HTI.out.bo.out (by decide)
      have n2_:¬ o=g1:=fun e=>n1_ e.symm;obtain⟨z0,z1,z2,z3,z4,z5⟩:=z3 HTI.out.bo;obtain⟨c0,c1,c2,c3,c4,c5,c6,c7,c8⟩:=HTI.out.cells HT.out;obtain⟨e0,e1,e2,e3,e4,e5,e6,e7,e8⟩:=HTI.out.cells HJ.out.2.1;have hT1:((T:Int)<(n1:Int))=True:=eq_true (by have:=HT.out;omega);have hT2:(T<n1)=True:=eq_true HT.out;have hT3:((0:Int)≤(T:Int))=True:=eq_true (by omega);have hJ1:((jt:Int)<(n1:Int))=True:=eq_true (by have:=HJ.out;omega);have hJ2:(jt<n1)=True:=eq_true HJ.out.2.1;have hJ3:((0:Int)≤(jt:Int))=True:=eq_true (by omega);have hne1:¬ T=jt:=HNE.out;have hne2:¬ jt=T:=fun e=>HNE.out e.symm;have u00:(T*3=jt*3)=False:=eq_false (by omega);have y00:(jt*3=T*3)=False:=eq_false (by omega);have u01:(T*3=jt*3+1)=False:=eq_false (by omega);have y01:(jt*3+1=T*3)=False:=eq_false (by omega);have u02:(T*3=jt*3+2)=False:=eq_false (by omega);have y02:(jt*3+2=T*3)=False:=eq_false (by omega);have u10:(T*3+1=jt*3)=False:=eq_false (by omega);have y10:(jt*3=T*3+1)=False:=eq_false (by omega);have u11:(T*3+1=jt*3+1)=False:=eq_false (by omega);have y11:(jt*3+1=T*3+1)=False:=eq_false (by omega);have u12:(T*3+1=jt*3+2)=False:=eq_false (by omega);have y12:(jt*3+2=T*3+1)=False:=eq_false (by omega);have u20:(T*3+2=jt*3)=False:=eq_false (by omega);have y20:(jt*3=T*3+2)=False:=eq_false (by omega);have u21:(T*3+2=jt*3+1)=False:=eq_false (by omega);have y21:(jt*3+1=T*3+2)=False:=eq_false (by omega);have u22:(T*3+2=jt*3+2)=False:=eq_false (by omega);have y22:(jt*3+2=T*3+2)=False:=eq_false (by omega);go_upto_region 17 with fail
      have HTJ:=qh (show TI g o b w (.slice B0 n0 d0) (.slice B2 n2 d2) g1 k1 ps (flipZ zs T j na nb nc nd) n1 ss ((((((w13.setCell ⟨g1,T*3,none⟩ (.int .i64 nd)).setCell ⟨g1,T*3+1,none⟩ (.int .i64 nb)).setCell ⟨g1,T*3+2,none⟩ (.int .i64 nc)).setCell ⟨g1,jt*3,none⟩ (.int .i64 nd)).setCell ⟨g1,jt*3+1,none⟩ (.int .i64 nc)).setCell ⟨g1,jt*3+2,none⟩ (.int .i64 na)) from by unfold flipZ;rw[HJT.out];exact(HTI.out.set3 HT.out _ _ _).set3 HJ.out.2.1 _ _ _);generalize ((((((w13.setCell ⟨g1,T*3,none⟩ (.int .i64 nd)).setCell ⟨g1,T*3+1,none⟩ (.int .i64 nb)).setCell ⟨g1,T*3+2,none⟩ (.int .i64 nc)).setCell ⟨g1,jt*3,none⟩ (.int .i64 nd)).setCell ⟨g1,jt*3+1,none⟩ (.int .i64 nc)).setCell ⟨g1,jt*3+2,none⟩ (.int .i64 na))=w14 at HTJ ⊢;clear HTI z0 z1 z2 z3 z4 z5 c0 c1 c2 c3 c4 c5 c6 c7 c8 e0 e1 e2 e3 e4 e5 e6 e7 e8 hT1 hT2 hT3 hJ1 hJ2 hJ3 hne1 hne2 n1_ n2_;obtain⟨z0,z1,z2,z3,z4,z5⟩:=Go.Proofs.YtfcjnhkkfmgmpaaGreatH.Z.z3 HTJ.out.bo;obtain⟨b0,b1,b2,b3,b4,b5⟩:=Go.Proofs.YtfcjnhkkfmgmpaaGreatH.Z.z3 HTJ.out.br;go_wp2_with (refine ret_ct (p:=6) (u:=7) (g:=g+1) (cs:=#[.slice B0 n0 d0,.slice (some ⟨g1,0,none⟩) n1 k1,.slice B2 n2 d2]) (v := .int .i64 0) ?_ ?_ ?_ (ret3 HTJ.out.below HTJ.out.br (Nat.lt_succ_self g) _ _ _).1 Tryz.underlying26 ?_ ?_ ?_ ?_;exact(by kernel_rfl);exact(by kernel_rfl);exact(by kernel_rfl);rfl;exact(by kernel_rfl);rfl;rw[HR2.out];exact⟨_,_,_,rfl,HTJ.out.om.st3 HGB.out (by rw[HG.out];have:=HGB.out;omega) _ _ _,by rw[HG.out];exact(ret3 HTJ.out.below HTJ.out.br (Nat.lt_succ_self g) _ _ _).2⟩)
end Go.Proofs.YtfcjnhkkfmgmpaaGreat
