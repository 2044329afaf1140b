import Derived.Test.YtfcjnhkkfmgmpaaGreatZsG47
set_option linter.all false
set_option maxRecDepth 100000
set_option maxHeartbeats 8000000
namespace Go.Proofs.YtfcjnhkkfmgmpaaGreat
open Go.RowKit aR Go.Proofs.aC.R Go.Proofs.aC.Z Go.Proofs.aD.bf
abbrev S4 (w0:World) (p0 p1 p2 p3:Addr) (v0 v1 v2 v3:Value) (W:World):Prop:=W.cell? p0=some v0∧W.cell? p1=some v1∧W.cell? p2=some v2∧W.cell? p3=some v3∧Below w0.heap.size w0 W
theorem ZM {w0 W W':World} {p0 p1 p2 p3:Addr} {v0 v1 v2 v3:Value} (hb:Below W.heap.size W W') (h:S4 w0 p0 p1 p2 p3 v0 v1 v2 v3 W):S4 w0 p0 p1 p2 p3 v0 v1 v2 v3 W' :=
 ⟨(hb.cell (ql h.1)).trans h.1,(hb.cell (ql h.2.1)).trans h.2.1,(hb.cell (ql h.2.2.1)).trans h.2.2.1,(hb.cell (ql h.2.2.2.1)).trans h.2.2.2.1,h.2.2.2.2.trans (hb.mono h.2.2.2.2.size)⟩
theorem ZN {w0 W:World} {p0 p1 p2 p3:Addr} {v0 v1 v2 v3:Value} (h:S4 w0 p0 p1 p2 p3 v0 v1 v2 v3 W):S4 w0 p0 p1 p2 p3 v0 v1 v2 v3 W.drew:=⟨h.1,h.2.1,h.2.2.1,h.2.2.2.1,h.2.2.2.2.drew⟩
abbrev S3 (w0:World) (p0 p1 p2:Addr) (v0 v1 v2:Value) (W:World):Prop:=W.cell? p0=some v0∧W.cell? p1=some v1∧W.cell? p2=some v2∧Below w0.heap.size w0 W
theorem Sp {w0 W W':World} {p0 p1 p2:Addr} {v0 v1 v2:Value} (hb:Below W.heap.size W W') (h:S3 w0 p0 p1 p2 v0 v1 v2 W):S3 w0 p0 p1 p2 v0 v1 v2 W' :=
 ⟨(hb.cell (ql h.1)).trans h.1,(hb.cell (ql h.2.1)).trans h.2.1,(hb.cell (ql h.2.2.1)).trans h.2.2.1,h.2.2.2.trans (hb.mono h.2.2.2.size)⟩
theorem MT {w0 W:World} {p0 p1 p2:Addr} {v0 v1 v2:Value} (h:S3 w0 p0 p1 p2 v0 v1 v2 W):S3 w0 p0 p1 p2 v0 v1 v2 W.drew:=⟨h.1,h.2.1,h.2.2.1,h.2.2.2.drew⟩
theorem Yi {w0 W:World} {p0 p1 p2:Addr} {v0 v1 v2:Value} (o:Obj) (h:S3 w0 p0 p1 p2 v0 v1 v2 W):S3 w0 p0 p1 p2 v0 v1 v2 (W.alloc o):=Sp ((Below.refl _ _).alloc (Nat.le_refl _) _) h
theorem ZO {w0 W:World} {p0 p1 p2:Addr} {v0 v1 v2:Value} (h0:S3 w0 p0 p1 p2 v0 v1 v2 w0) (h:S3 w0 p0 p1 p2 v0 v1 v2 W) {q:Nat} (hq:w0.heap.size≤q) (u v:Value):S3 w0 p0 p1 p2 v0 v1 v2 ((W.setCell ⟨q,0,none⟩ u).setCell ⟨q,1,none⟩ v):=by
 have hb:=(h.2.2.2.setCell (p:=⟨q,0,none⟩) hq u).setCell (p:=⟨q,1,none⟩) hq v;exact⟨(hb.cell (ql h0.1)).trans h0.1,(hb.cell (ql h0.2.1)).trans h0.2.1,(hb.cell (ql h0.2.2.1)).trans h0.2.2.1,hb⟩
theorem aaB (A0 A1 A2:Option Addr) (c0 n1 c1 c2:Nat) (ps:PS) (zs:List Int) (ss:SS) (w:World) (hA:mZ w A0 A1 A2 c0 c2 ps zs n1 ss) (hz:zs.length=3*n1) (K:Nat) (hK:oz.f K ps=some 0) (bC:Nat→Nat→Nat→Int) (hO:Hj K ps bC) (hM:r_ ps.length zs n1 ss bC) (hD:∀ i j k,0<bC i j k→i≠j∧j≠k∧k≠i) (t k:Int) :
  Calls Tryz.prog 10 #[.agg #[.slice A0 ps.length c0,.slice A1 n1 c1,.slice A2 ss.length c2],.int .i64 t,.int .i64 k] w fun e w'=>tP w (sP ps zs n1 ss bC t k) e w':=by
 obtain⟨n0,hn0⟩:∃ n,ps.length=n:=⟨_,rfl⟩
 obtain⟨n2,hn2⟩:∃ n,ss.length=n:=⟨_,rfl⟩
 have HL:=qh (show n0≤400∧n1≤900∧n2≤1300 from ⟨hn0 ▸ hM.l0,hM.l1,hn2 ▸ hM.l2⟩);have hb1:Below w.heap.size w ((w.alloc (.cells #[.slice A0 n0 c0,.slice A1 n1 c1,.slice A2 n2 c2] 26)).alloc (.cells fM 26)):=((Below.refl _ _).alloc (Nat.le_refl _) _).alloc (by simp) _
 have bD:=qh (show MB w.heap.size w A0 A1 A2 n0 c0 n1 c1 n2 c2 ((w.alloc (.cells #[.slice A0 n0 c0,.slice A1 n1 c1,.slice A2 n2 c2] 26)).alloc (.cells fM 26)) from
  (MB.new w A0 A1 A2 n0 c0 n1 c1 n2 c2).step ((Below.refl _ _).alloc (Nat.le_refl _) _))
 have Wt:=qh (show((w.alloc (.cells #[.slice A0 n0 c0,.slice A1 n1 c1,.slice A2 n2 c2] 26)).alloc (.cells fM 26)).heap[w.heap.size+1]?=some (.cells fM 26 (0,0)) from by have:=jq (w.alloc (.cells #[.slice A0 n0 c0,.slice A1 n1 c1,.slice A2 n2 c2] 26)) (.cells fM 26);simpa using this);have wh:=qh (Rc A0 A1 A2 c0 n1 c1 c2 ps zs ss _ (hA.below hb1 rfl) K hK bC hO hM);rw[hn0,hn2]at wh
 have H0:=qh hn0;have H2:=qh hn2;have HZ:=qh hz;have HA:=qh hA;have HO:=qh hO;have HM:=qh hM;rw[hn0,hn2];clear hA hz hK hO hM hn0 hn2 hb1;obtain⟨g,hg⟩:∃ g,w.heap.size=g:=⟨_,rfl⟩
 have HG:=qh hg;rw[hg]at bD Wt
 have q0:=bD.out.b0;have q1:=bD.out.b1;have q2:=bD.out.b2;go_enter Tryz.func10,Tryz.ntmps10;go_wp2_with (refine wh.out.mono ?_;rintro e w2 ⟨kb,B,rfl,hkb,hB,hmp,e0,e1,e2,e3,hb⟩;refine Stop.out ?_)
 refine⟨?_⟩;have gI:=qh (show FI g kb B w A0 A1 A2 n0 c0 n1 c1 n2 c2 zs w2 from ⟨bD.out.step hb,⟨eA Wt.out hb⟩,hmp,e1,e3⟩);clear hb hmp hB wh bD Wt q0 q1 q2 e0 e2 e3 e1 hkb;cases hB:o8 n1 t k with
 | false =>
  have ou:=qh (Q_ kb A1 n1 c1 w2 gI.out.k1 t k hB);go_wp2_with (refine ou.out.mono ?_;rintro e w3 ⟨rfl,hb⟩;refine Stop.out ?_)
  refine⟨?_⟩;have eI:=qh (gI.out.step hb);have gC:=qh (eI.out.step ((Below.refl w3.heap.size w3).alloc (Nat.le_refl _) (.cells #[.int .i64 0,.int .i64 0] 66)));have eN:=qh (show sP ps zs n1 ss bC t k=mH 1 from if_neg (by rw[hB];decide));clear hb ou gI hB eI;go_upto_region 6 with fail
  generalize (w3.alloc (.cells #[.int .i64 0,.int .i64 0] 66))=w4 at gC ⊢;obtain⟨b0,b1,b2,b3,b4,b5⟩:=z3 gC.out.br;go_wp2_with (refine sB (p:=6) (u:=7) (g:=g+1) (cs:=fM) (v := .int .i64 1) ?_ ?_ ?_ (ret3 gC.out.box.below gC.out.br (Nat.lt_succ_self g) _ _ _).1 Tryz.underlying26 ?_ ?_ ?_ ?_;exact(by kernel_rfl);exact(by kernel_rfl);exact(by kernel_rfl);rfl;exact(by kernel_rfl);rfl;rw[eN.out];exact tP.bad _ _ _ (by rw[HG.out];exact(ret3 gC.out.box.below gC.out.br (Nat.lt_succ_self g) _ _ _).2))
 | true =>
  have hR:=hB;unfold o8 at hR;simp only[Bool.and_eq_true,decide_eq_true_eq]at hR;obtain⟨⟨⟨a1,a2⟩,a3⟩,a4⟩:=hR;obtain⟨T,rfl⟩:=Int.eq_ofNat_of_zero_le a1;obtain⟨k,rfl⟩:=Int.eq_ofNat_of_zero_le a3;have hT:T<n1:=by omega
  have hk:k≤2:=by omega
  have fQ:=qh (HA.out.below gI.out.box.below HG.out.symm);have ou:=qh (RS kb A1 n1 c1 zs w2 gI.out.k1 fQ.out.t T k hT hk (by have:=HL.out;omega));have HR:=qh (show sP ps zs n1 ss bC (T:Int) (k:Int)=_ from if_pos hB);simp only[Int.toNat_natCast]at HR;have HT:=qh hT;have HK:=qh hk;have gX:=HM.out.inr (j:=3*T+k) (by omega);have fA:=HM.out.inr (j:=3*T+nx k) (by unfold nx;split <;> omega);have l7:=HM.out.inr (j:=3*T+px k) (by unfold px;split <;> omega);obtain⟨xa,iT⟩:∃ x,zs.getD (3*T+k) 0=x:=⟨_,rfl⟩
  obtain⟨xb,iU⟩:∃ x,zs.getD (3*T+nx k) 0=x:=⟨_,rfl⟩
  obtain⟨xc,lJ⟩:∃ x,zs.getD (3*T+px k) 0=x:=⟨_,rfl⟩
  rw[iT,iU]at ou
  rw[iT,iU,lJ]at HR
  rw[iT]at gX
  rw[iU]at fA
  rw[lJ]at l7
  have Lz:=qh lJ;have ej:=qh (show((0≤xa∧xa<n0)∧0≤xb∧xb<n0)∧0≤xc∧xc<n0 from H0.out ▸ ⟨⟨gX,fA⟩,l7⟩);have ED:=qh iT;have EE:=qh iU;clear iT iU lJ gX fA l7 hT hk a1 a2 a3 a4 hB fQ;go_wp2_with (refine ou.out.mono ?_;rintro e w3 ⟨rfl,hb⟩;refine Stop.out ?_)
  refine⟨?_⟩;have eI:=qh (gI.out.step hb);clear hb ou gI;have gC:=qh (eI.out.step ((Below.refl w3.heap.size w3).alloc (Nat.le_refl _) (.cells #[.int .i64 xa,.int .i64 xb] 66)));have d0:(w3.alloc (.cells #[.int .i64 xa,.int .i64 xb] 66)).cell? ⟨w3.heap.size,0,none⟩=some (.int .i64 xa):=by simp[go_sem]
  have d1:(w3.alloc (.cells #[.int .i64 xa,.int .i64 xb] 66)).cell? ⟨w3.heap.size,1,none⟩=some (.int .i64 xb):=by simp[go_sem]
  clear eI;go_upto_region 7 with fail
  generalize (w3.alloc (.cells #[.int .i64 xa,.int .i64 xb] 66))=w4 at gC d0 d1 ⊢;generalize w3.heap.size=eb at d0 d1 ⊢;have wa:W6 xa:=u_ ej.out.1.1.1 (by have:=HL.out;have:=ej.out;omega);have wb:W6 xb:=u_ ej.out.1.2.1 (by have:=HL.out;have:=ej.out;omega);have xm:=qh (fun W=>SF xa xb W);have hlk:∀ W,Below w4.heap.size w4 W→_:=fun W hW=>(gC.out.step hW).m.look wb wa;have k3:=gC.out.k3;have dR:w4.cell? ⟨kb,3,none⟩=some (.map (some B))∧w4.cell? ⟨eb,0,none⟩=some (.int .i64 xa)∧w4.cell? ⟨eb,1,none⟩=some (.int .i64 xb)∧Below w4.heap.size w4 w4:=⟨k3,d0,d1,Below.refl _ _⟩
  obtain⟨s1,hs1⟩:∃ x,sT (b_ zs xb xa (3*n1))=x:=⟨_,rfl⟩
  obtain⟨s2,hs2⟩:∃ x,sK (b_ zs xb xa (3*n1))=x:=⟨_,rfl⟩
  obtain⟨s3,hs3⟩:∃ x,(b_ zs xb xa (3*n1)).isSome=x:=⟨_,rfl⟩
  rw[hs1,hs2,hs3]at hlk
  have X1:=qh hs1;have X2:=qh hs2;have X3:=qh hs3;clear hs1 hs2 hs3 wa wb k3 d0 d1;go_cut [11,12] (fun a b wx=>∃ h:Nat,a = .pointer (some ⟨h,0,none⟩)∧b = .bool s3∧Hid ((w4.heap.size≤h∧Below w4.heap.size w4 wx)∧wx.cell? ⟨h,0,none⟩=some (.int .i64 s1)∧wx.cell? ⟨h,1,none⟩=some (.int .i64 s2)))
  case first =>
   go_region_held3 (S3 w4 ⟨kb,3,none⟩ ⟨eb,0,none⟩ ⟨eb,1,none⟩ (.map (some B)) (.int .i64 xa) (.int .i64 xb)) (first|assumption|exact MT (by assumption)|exact Yi _ (by assumption)|exact ZO dR hS1 (Nat.le_refl _) _ _) (first|(go_at_call 27;refine(xm.out _).mono ?_;rintro e wn ⟨rfl,hbr⟩;have hS1:=Sp hbr (by assumption);first|(have p0:=(hbr.cell (p:=⟨w4.heap.size,0,none⟩) (by simp)).trans (show(World.alloc w4 (.cells #[.int .i64 0,.int .i64 0] 70)).cell? ⟨w4.heap.size,0,none⟩=some (.int .i64 0) by simp[go_sem]);have p1:=(hbr.cell (p:=⟨w4.heap.size,1,none⟩) (by simp)).trans (show(World.alloc w4 (.cells #[.int .i64 0,.int .i64 0] 70)).cell? ⟨w4.heap.size,1,none⟩=some (.int .i64 0) by simp[go_sem]);have p2:=(hbr.frozen (p:=⟨w4.heap.size,0,none⟩) (by simp)).trans (show(World.alloc w4 (.cells #[.int .i64 0,.int .i64 0] 70)).frozen? ⟨w4.heap.size,0,none⟩=false by simp[go_sem]);have p3:=(hbr.frozen (p:=⟨w4.heap.size,1,none⟩) (by simp)).trans (show(World.alloc w4 (.cells #[.int .i64 0,.int .i64 0] 70)).frozen? ⟨w4.heap.size,1,none⟩=false by simp[go_sem]))|skip;clear hbr)|fail)
   all_goals go_wp2
   all_goals go_meet
   all_goals refine⟨_,rfl,rfl,qh ⟨⟨?_,(show S3 w4 ⟨kb,3,none⟩ ⟨eb,0,none⟩ ⟨eb,1,none⟩ (.map (some B)) (.int .i64 xa) (.int .i64 xb) _ from by first|assumption|exact MT (by assumption)).2.2.2⟩,?_,?_⟩⟩
   all_goals first|exact Nat.le_refl _|exact hS1.2.2.2.size|(simp[go_sem];done)|(simp[go_sem,p0,p1,p2,p3];done)
  case rest =>
   obtain⟨h,rfl,rfl,HU⟩:=hcut;have ji:=qh (gC.out.step HU.out.1.2)
   have HD:=qh (show wc.cell? ⟨eb,0,none⟩=some (.int .i64 xa)∧wc.cell? ⟨eb,1,none⟩=some (.int .i64 xb)∧wc.cell? ⟨h,0,none⟩=some (.int .i64 s1)∧wc.cell? ⟨h,1,none⟩=some (.int .i64 s2) from
    ⟨(HU.out.1.2.cell (ql dR.2.1)).trans dR.2.1,(HU.out.1.2.cell (ql dR.2.2.1)).trans dR.2.2.1,HU.out.2.1,HU.out.2.2⟩)
   clear hlk dR gC HU xm;generalize hfo:b_ zs xb xa (3*n1)=fo at X1 X2 X3;cases fo with
   | none =>
    have eN:=qh (show sP ps zs n1 ss bC (T:Int) (k:Int)=mH 7 by rw[HR.out,show tT zs n1 ss bC xa xb xc=none by unfold tT;rw[hfo]]);have hs3:s3=false:=X3.out.symm;subst hs3;clear hfo;obtain⟨b0,b1,b2,b3,b4,b5⟩:=z3 ji.out.br;go_wp2_with (refine sB (p:=6) (u:=7) (g:=g+1) (cs:=fM) (v := .int .i64 7) ?_ ?_ ?_ (ret3 ji.out.box.below ji.out.br (Nat.lt_succ_self g) _ _ _).1 Tryz.underlying26 ?_ ?_ ?_ ?_;exact(by kernel_rfl);exact(by kernel_rfl);exact(by kernel_rfl);rfl;exact(by kernel_rfl);rfl;rw[eN.out];exact tP.bad _ _ _ (by rw[HG.out];exact(ret3 ji.out.box.below ji.out.br (Nat.lt_succ_self g) _ _ _).2))
   | some j =>
    have hs1:((j / 3:Nat):Int)=s1:=X1.out;have hs2:((j%3:Nat):Int)=s2:=X2.out;have hs3:s3=true:=X3.out.symm;obtain⟨jt,hjt⟩:∃ x,j / 3=x:=⟨_,rfl⟩
    obtain⟨jk,hjk⟩:∃ x,j%3=x:=⟨_,rfl⟩
    rw[hjt]at hs1
    rw[hjk]at hs2
    have zi:=qh hjt;have Hq:=qh hjk;clear hjt hjk;subst hs1 hs2 hs3;have Hp:=qh hfo;clear hfo X1 X2 X3;have Lg:=qh (ajX A0 A1 A2 n0 c0 n1 c1 n2 c2 ss xa xb wc (by have:=(HA.out.below ji.out.box.below HG.out.symm).s;rw[H2.out]at this;exact this) H2.out (by have:=HL.out;omega));rw[show nQ (nu ss xa xb) n2=nQ (nu ss xa xb) ss.length by rw[H2.out],show oI (nQ (nu ss xa xb) ss.length)=xy ss xa xb from rfl]at Lg
    have x0:=ji.out.box.b0;have x1:=ji.out.box.b1;have x2:=ji.out.box.b2;have y0:=HD.out.1;have y1:=HD.out.2.1;go_wp2_with (refine Lg.out.mono ?_;rintro e w6 ⟨rfl,hb⟩;refine Stop.out ?_)
    refine⟨?_⟩;have kK:=qh (ji.out.step hb)
    have LA:=qh (show w6.cell? ⟨eb,0,none⟩=some (.int .i64 xa)∧w6.cell? ⟨eb,1,none⟩=some (.int .i64 xb)∧w6.cell? ⟨h,0,none⟩=some (.int .i64 jt)∧w6.cell? ⟨h,1,none⟩=some (.int .i64 jk) from
     ⟨(hb.cell (ql HD.out.1)).trans HD.out.1,(hb.cell (ql HD.out.2.1)).trans HD.out.2.1,(hb.cell (ql HD.out.2.2.1)).trans HD.out.2.2.1,(hb.cell (ql HD.out.2.2.2)).trans HD.out.2.2.2⟩)
    clear hb Lg ji HD x0 x1 x2 y0 y1;obtain⟨sg,Wu⟩:∃ x,xy ss xa xb=x:=⟨_,rfl⟩
    rw[Wu];have HS:=qh Wu;clear Wu;by_cases hq:0≤sg
    ·have e1:decide (0≤sg)=true:=decide_eq_true hq
     have eN:=qh (show sP ps zs n1 ss bC (T:Int) (k:Int)=mH 7 by rw[HR.out,show tT zs n1 ss bC xa xb xc=none by unfold tT;rw[Hp.out];exact if_pos (.inl (HS.out ▸ hq))]);clear hq;obtain⟨b0,b1,b2,b3,b4,b5⟩:=z3 kK.out.br;go_wp2_with (refine sB (p:=6) (u:=7) (g:=g+1) (cs:=fM) (v := .int .i64 7) ?_ ?_ ?_ (ret3 kK.out.box.below kK.out.br (Nat.lt_succ_self g) _ _ _).1 Tryz.underlying26 ?_ ?_ ?_ ?_;exact(by kernel_rfl);exact(by kernel_rfl);exact(by kernel_rfl);rfl;exact(by kernel_rfl);rfl;rw[eN.out];exact tP.bad _ _ _ (by rw[HG.out];exact(ret3 kK.out.box.below kK.out.br (Nat.lt_succ_self g) _ _ _).2))
    ·have e1:decide (0≤sg)=false:=decide_eq_false hq
     have HQ:=qh hq;clear hq;have hj:=Iu Hp.out;have HJ:=qh hj.1;have fQ:=fun W (hW:Below w6.heap.size w6 W)=>HA.out.below (kK.out.step hW).box.below HG.out.symm;obtain⟨xd,Wv⟩:∃ x,zs.getD (3*jt+px jk) 0=x:=⟨_,rfl⟩
     have vR:=qh (fun W (hW:S4 w6 ⟨eb,0,none⟩ ⟨eb,1,none⟩ ⟨h,0,none⟩ ⟨h,1,none⟩ (.int .i64 xa) (.int .i64 xb) (.int .i64 jt) (.int .i64 jk) W)=>YX kb A1 n1 c1 zs W (kK.out.step hW.2.2.2.2).k1 (fQ W hW.2.2.2.2).t T k HT.out HK.out (by have:=HL.out;omega));have qN:=qh (fun W (hW:S4 w6 ⟨eb,0,none⟩ ⟨eb,1,none⟩ ⟨h,0,none⟩ ⟨h,1,none⟩ (.int .i64 xa) (.int .i64 xb) (.int .i64 jt) (.int .i64 jk) W)=>YX kb A1 n1 c1 zs W (kK.out.step hW.2.2.2.2).k1 (fQ W hW.2.2.2.2).t jt jk (by have:=zi.out;omega) (by have:=Hq.out;omega) (by have:=HL.out;omega));rw[Lz.out]at vR
     rw[Wv]at qN
     have Lt:=qh Wv;clear hj fQ Wv;have dR:S4 w6 ⟨eb,0,none⟩ ⟨eb,1,none⟩ ⟨h,0,none⟩ ⟨h,1,none⟩ (.int .i64 xa) (.int .i64 xb) (.int .i64 jt) (.int .i64 jk) w6:=⟨LA.out.1,LA.out.2.1,LA.out.2.2.1,LA.out.2.2.2,Below.refl _ _⟩
     go_upto_region 10 with fail
     go_cut [13,14,15,16] (fun a b c d wx=>a = .int .i64 xa∧b = .int .i64 xb∧c = .int .i64 xc∧d = .int .i64 xd∧Hid (Below w6.heap.size w6 wx))
     case first =>
      go_region_held3 (S4 w6 ⟨eb,0,none⟩ ⟨eb,1,none⟩ ⟨h,0,none⟩ ⟨h,1,none⟩ (.int .i64 xa) (.int .i64 xb) (.int .i64 jt) (.int .i64 jk)) (first|assumption|exact ZN (by assumption)) (first|(go_at_call 29;with_reducible refine(vR.out _ (by assumption)).mono ?_;rintro e wn ⟨rfl,hbr⟩;have hS1:=ZM hbr (by assumption);clear hbr)|(go_at_call 29;with_reducible refine(qN.out _ (by assumption)).mono ?_;rintro e wn ⟨rfl,hbr⟩;have Ws:=ZM hbr (by assumption);clear hbr)|fail)
      all_goals go_wp2
      all_goals go_meet
      all_goals exact⟨rfl,rfl,rfl,rfl,qh (show S4 w6 ⟨eb,0,none⟩ ⟨eb,1,none⟩ ⟨h,0,none⟩ ⟨h,1,none⟩ (.int .i64 xa) (.int .i64 xb) (.int .i64 jt) (.int .i64 jk) _ from by first|assumption|exact ZN (by assumption)).2.2.2.2⟩
     case rest =>
      obtain⟨rfl,rfl,rfl,rfl,j6⟩:=hcut;have PE:=qh (kK.out.step j6.out);have HH:=qh (show wc.cell? ⟨h,0,none⟩=some (.int .i64 jt) from(j6.out.cell (ql dR.2.2.1)).trans dR.2.2.1);clear dR vR qN kK LA j6;have hnd:=HM.out.inr (j:=3*jt+px jk) (by have:=HJ.out;have:=zi.out;have:=Hq.out;unfold px;split <;> omega);rw[Lt.out,H0.out]at hnd
      obtain⟨na,rfl⟩:=Int.eq_ofNat_of_zero_le ej.out.1.1.1;obtain⟨nb,rfl⟩:=Int.eq_ofNat_of_zero_le ej.out.1.2.1;obtain⟨nc,rfl⟩:=Int.eq_ofNat_of_zero_le ej.out.2.1;obtain⟨nd,rfl⟩:=Int.eq_ofNat_of_zero_le hnd.1;have HN:=qh (show na<n0∧nb<n0∧nc<n0∧nd<n0 by have:=ej.out;omega);clear hnd ej;have Ww:W6 (nc:Int):=u_ (by omega) (by have:=HL.out;have:=HN.out;omega);have Wx:W6 (nd:Int):=u_ (by omega) (by have:=HL.out;have:=HN.out;omega);have U':=PE.out.m.look Ww Wx;obtain⟨r1,h1⟩:∃ x,sT (b_ zs (nc:Int) (nd:Int) (3*n1))=x:=⟨_,rfl⟩
      obtain⟨r2,h2⟩:∃ x,sK (b_ zs (nc:Int) (nd:Int) (3*n1))=x:=⟨_,rfl⟩
      obtain⟨o1,h3⟩:∃ x,(b_ zs (nc:Int) (nd:Int) (3*n1)).isSome=x:=⟨_,rfl⟩
      rw[h1,h2,h3]at U'
      have O1:=qh h3;clear h1 h2 h3;have EF:=qh (PE.out.step ((Below.refl wc.heap.size wc).alloc (Nat.le_refl _) (.cells #[.int .i64 r1,.int .i64 r2] 70)));have Va:=EF.out.m.look Wx Ww;obtain⟨r3,h1⟩:∃ x,sT (b_ zs (nd:Int) (nc:Int) (3*n1))=x:=⟨_,rfl⟩
      obtain⟨r4,h2⟩:∃ x,sK (b_ zs (nd:Int) (nc:Int) (3*n1))=x:=⟨_,rfl⟩
      obtain⟨o2,h3⟩:∃ x,(b_ zs (nd:Int) (nc:Int) (3*n1)).isSome=x:=⟨_,rfl⟩
      rw[h1,h2,h3]at Va
      have O2:=qh h3;have zj:=qh (EF.out.step ((Below.refl (wc.alloc (.cells #[.int .i64 r1,.int .i64 r2] 70)).heap.size (wc.alloc (.cells #[.int .i64 r1,.int .i64 r2] 70))).alloc (Nat.le_refl _) (.cells #[.int .i64 r3,.int .i64 r4] 70)))
      have PF:=qh (show((wc.alloc (.cells #[.int .i64 r1,.int .i64 r2] 70)).alloc (.cells #[.int .i64 r3,.int .i64 r4] 70)).cell? ⟨h,0,none⟩=some (.int .i64 jt) from
       ((((Below.refl wc.heap.size wc).alloc (Nat.le_refl _) (.cells #[.int .i64 r1,.int .i64 r2] 70)).alloc (by simp) (.cells #[.int .i64 r3,.int .i64 r4] 70)).cell (ql HH.out)).trans HH.out)
      have k3:=PE.out.k3;have k4:=EF.out.k3;have ng:=qh U';have kR:=qh Va;clear h1 h2 h3 Ww Wx U' Va HH EF PE;go_upto_region 13 with (first|(at_lookup;refine Cu _ rfl _ _ _ _ rfl _ _ _ rfl rfl ng.out ?_)|(at_lookup;refine Cu _ rfl _ _ _ _ rfl _ _ _ rfl rfl kR.out ?_)|fail)
      clear k3 k4 ng kR;generalize ((wc.alloc (.cells #[.int .i64 r1,.int .i64 r2] 70)).alloc (.cells #[.int .i64 r3,.int .i64 r4] 70))=w9 at zj PF ⊢;obtain⟨bb,BQ⟩:∃ x:Bool,(o1||(o2||(!decide (0<bC nd nb nc)||!decide (0<bC nd nc na))))=x:=⟨_,rfl⟩
      have HFJ:=qh (akm HR.out Hp.out zi.out Hq.out Lt.out HS.out (by have:=HQ.out;omega) O1.out O2.out BQ);clear O1 O2;have x0:=zj.out.box.b0;have x1:=zj.out.box.b1;have x2:=zj.out.box.b2;have EC:=qh (SH A0 A1 A2 n0 c0 n1 c1 n2 c2 ps w9 (by have:=(HA.out.below zj.out.box.below HG.out.symm).p;rw[H0.out]at this;exact this) H0.out K bC HO.out nd nb nc HN.out.2.2.2 HN.out.2.1 HN.out.2.2.1);have Wy:=qh (fun W (hW:Below w9.heap.size w9 W)=>SH A0 A1 A2 n0 c0 n1 c1 n2 c2 ps W (by have:=(HA.out.below (zj.out.step hW).box.below HG.out.symm).p;rw[H0.out]at this;exact this) H0.out K bC HO.out nd nc na HN.out.2.2.2 HN.out.2.2.1 HN.out.1);generalize decide (0<bC nd nb nc)=p1 at BQ EC;generalize decide (0<bC nd nc na)=p2 at BQ Wy;go_cut [114] (fun a wx=>a = .bool bb∧Hid (Below w9.heap.size w9 wx))
      case first =>
       have Ho:=qh BQ;clear BQ;cases o1 with
       | true =>
        go_wp2
        go_meet
        exact⟨by rw[← Ho.out];rfl,qh (Below.refl _ _)⟩
       | false =>
        cases o2 with
        | true =>
         go_wp2
         go_meet
         exact⟨by rw[← Ho.out];rfl,qh (Below.refl _ _)⟩
        | false =>
         cases p1 with
         | false =>
          go_wp2_with (refine EC.out.mono ?_;rintro e g_ ⟨rfl,hb⟩;refine Stop.out ?_)
          refine⟨?_⟩;have Ba:=qh hb;clear hb;go_wp2
          go_meet
          exact⟨by rw[← Ho.out];rfl,Ba⟩
         | true =>
          go_wp2_with (refine EC.out.mono ?_;rintro e g_ ⟨rfl,hb⟩;refine Stop.out ?_)
          refine⟨?_⟩;have Ba:=qh hb;have Vb:=qh (zj.out.step hb);clear hb x0 x1 x2;have x0:=Vb.out.box.b0;have x1:=Vb.out.box.b1;have x2:=Vb.out.box.b2;go_wp2_with (refine(Wy.out g_ Ba.out).mono ?_;rintro e kD ⟨rfl,hb⟩;refine Stop.out ?_)
          refine⟨?_⟩;have vA:=qh (Ba.out.trans (hb.mono Ba.out.size));clear hb;go_wp2
          go_meet
          exact⟨by rw[← Ho.out];cases p2 <;> rfl,vA⟩
      case rest =>
       obtain⟨rfl,vA⟩:=hcut;have sV:=qh (zj.out.step vA.out);have D6:=qh ((vA.out.cell (ql PF.out)).trans PF.out);clear EC Wy x0 x1 x2 zj PF BQ vA;cases bb with
       | true =>
        have eN:=qh (show sP ps zs n1 ss bC (T:Int) (k:Int)=mH 7 from HFJ.out);obtain⟨b0,b1,b2,b3,b4,b5⟩:=z3 sV.out.br;go_wp2_with (refine sB (p:=6) (u:=7) (g:=g+1) (cs:=fM) (v := .int .i64 7) ?_ ?_ ?_ (ret3 sV.out.box.below sV.out.br (Nat.lt_succ_self g) _ _ _).1 Tryz.underlying26 ?_ ?_ ?_ ?_;exact(by kernel_rfl);exact(by kernel_rfl);exact(by kernel_rfl);rfl;exact(by kernel_rfl);rfl;rw[eN.out];exact tP.bad _ _ _ (by rw[HG.out];exact(ret3 sV.out.box.below sV.out.br (Nat.lt_succ_self g) _ _ _).2))
       | false =>
        have eN:=qh (show sP ps zs n1 ss bC (T:Int) (k:Int)=(0,ps,vk zs T j na nb nc nd,n1,ss) from HFJ.out);have x0:=sV.out.box.b0;have x1:=sV.out.box.b1;have x2:=sV.out.box.b2;generalize wc=kD at sV D6 x0 x1 x2 ⊢;have wj:=qh (abq A0 A1 A2 c0 n1 c1 c2 ps zs ss kD (HA.out.below sV.out.box.below HG.out.symm) HZ.out (by rw[H0.out,H2.out];have:=HL.out;omega));rw[H0.out,H2.out]at wj
        have hne:=akn HM.out hD HT.out HK.out (j:=j) (by rw[ED.out,EE.out];exact Hp.out);rw[zi.out]at hne
        have qN:=qh (show jt<n1 by have:=HJ.out;have:=zi.out;omega);have yI:=qh hne;clear hne;go_wp2_with (refine wj.out.mono ?_;rintro e jd ⟨v0,v1,v2,rfl,gD,hb⟩;refine Stop.out ?_)
        refine⟨?_⟩;obtain⟨g1,k1,rfl⟩:=gD.blk (by have:=HT.out;omega);obtain⟨B0,d0,B1,d1,B2,d2,rfl,-,rfl,-,-⟩:=gD.args;rw[H0.out,H2.out]at gD ⊢
        have dW:=(Below.refl jd.heap.size jd).alloc (Nat.le_refl _) (.cells #[.slice B0 n0 d0,.slice (some ⟨g1,0,none⟩) n1 k1,.slice B2 n2 d2] 26);have Vc:=qh (sV.out.step hb)
        have wk:=qh (show TI g jd.heap.size kD.heap.size w (.slice B0 n0 d0) (.slice B2 n2 d2) g1 k1 ps zs n1 ss (jd.alloc (.cells #[.slice B0 n0 d0,.slice (some ⟨g1,0,none⟩) n1 k1,.slice B2 n2 d2] 26)) from
         ⟨gD.below dW,⟨eA Vc.out.br.out dW⟩,⟨jq _ _⟩,(Vc.out.step dW).box.below,Nat.le_of_lt (ql x0)⟩)
        have Vd:=qh ((dW.cell (ql ((hb.cell (ql D6.out)).trans D6.out))).trans ((hb.cell (ql D6.out)).trans D6.out));have Wz:=qh (show g+1<kD.heap.size from fJ sV.out.br.out);have dV:=qh (show h<kD.heap.size from ql D6.out);clear dW gD hb wj x0 x1 x2 sV D6 Vc;go_upto_region 16 with fail
        generalize (jd.alloc (.cells #[.slice B0 n0 d0,.slice (some ⟨g1,0,none⟩) n1 k1,.slice B2 n2 d2] 26))=rY at wk Vd ⊢;generalize jd.heap.size=o at wk ⊢;generalize kD.heap.size=b at wk dV Wz;have jy:¬ g1=o:=by obtain⟨-,c,hc,-⟩:=wk.out.g1;exact FR hc wk.out.bo.out (by decide)
        have j8:¬ o=g1:=fun e=>jy e.symm;have pT:¬ g1=h:=by have:=wk.out.g1.1;have:=dV.out;omega
        have td:¬ h=g1:=fun e=>pT e.symm;obtain⟨z0,z1,z2,z3,z4,z5⟩:=z3 wk.out.bo;obtain⟨c0,c1,c2,c3,c4,c5,c6,c7,c8⟩:=wk.out.cells HT.out;obtain⟨e0,e1,e2,e3,e4,e5,e6,e7,e8⟩:=wk.out.cells qN.out;have x0:=Vd.out;have WA:((T:Int)<(n1:Int))=True:=eq_true (by have:=HT.out;omega);have WB:(T<n1)=True:=eq_true HT.out;have WC:((0:Int)≤(T:Int))=True:=eq_true (by omega);have tq:((jt:Int)<(n1:Int))=True:=eq_true (by have:=qN.out;omega);have hJ2:(jt<n1)=True:=eq_true qN.out;have hJ3:((0:Int)≤(jt:Int))=True:=eq_true (by omega);have aqb:¬ T=jt:=yI.out;have gT:¬ jt=T:=fun e=>yI.out e.symm;have u00:(T*3=jt*3)=False:=eq_false (by omega);have y00:(jt*3=T*3)=False:=eq_false (by omega);have u01:(T*3=jt*3+1)=False:=eq_false (by omega);have y01:(jt*3+1=T*3)=False:=eq_false (by omega);have u02:(T*3=jt*3+2)=False:=eq_false (by omega);have y02:(jt*3+2=T*3)=False:=eq_false (by omega);have u10:(T*3+1=jt*3)=False:=eq_false (by omega);have y10:(jt*3=T*3+1)=False:=eq_false (by omega);have u11:(T*3+1=jt*3+1)=False:=eq_false (by omega);have y11:(jt*3+1=T*3+1)=False:=eq_false (by omega);have u12:(T*3+1=jt*3+2)=False:=eq_false (by omega);have y12:(jt*3+2=T*3+1)=False:=eq_false (by omega);have u20:(T*3+2=jt*3)=False:=eq_false (by omega);have y20:(jt*3=T*3+2)=False:=eq_false (by omega);have u21:(T*3+2=jt*3+1)=False:=eq_false (by omega);have y21:(jt*3+1=T*3+2)=False:=eq_false (by omega);have u22:(T*3+2=jt*3+2)=False:=eq_false (by omega);have y22:(jt*3+2=T*3+2)=False:=eq_false (by omega);go_cut [21] (fun a wx=>a = .pointer (some ⟨o,0,none⟩)∧Hid (TI g o b w (.slice B0 n0 d0) (.slice B2 n2 d2) g1 k1 ps (vk zs T j na nb nc nd) n1 ss wx))
        case first =>
         go_region
         all_goals go_wp2
         all_goals go_meet
         all_goals exact⟨rfl,qh (TI.dr (by unfold vk;rw[zi.out];exact(wk.out.OO HT.out _ _ _).OO qN.out _ _ _))⟩
        case rest =>
         obtain⟨rfl,EG⟩:=hcut;obtain⟨z0,z1,z2,z3,z4,z5⟩:=Go.Proofs.aC.Z.z3 EG.out.bo;obtain⟨b0,b1,b2,b3,b4,b5⟩:=Go.Proofs.aC.Z.z3 EG.out.br;clear wk Vd c0 c1 c2 c3 c4 c5 c6 c7 c8 e0 e1 e2 e3 e4 e5 e6 e7 e8 x0 WA WB WC tq hJ2 hJ3 aqb gT jy j8 pT td;go_wp2_with (refine sB (p:=6) (u:=7) (g:=g+1) (cs:=#[.slice B0 n0 d0,.slice (some ⟨g1,0,none⟩) n1 k1,.slice B2 n2 d2]) (v := .int .i64 0) ?_ ?_ ?_ (ret3 EG.out.below EG.out.br (Nat.lt_succ_self g) _ _ _).1 Tryz.underlying26 ?_ ?_ ?_ ?_;exact(by kernel_rfl);exact(by kernel_rfl);exact(by kernel_rfl);rfl;exact(by kernel_rfl);rfl;rw[eN.out];exact⟨_,_,_,rfl,EG.out.om.st3 Wz.out (by rw[HG.out];have:=Wz.out;omega) _ _ _,by rw[HG.out];exact(ret3 EG.out.below EG.out.br (Nat.lt_succ_self g) _ _ _).2⟩)
end Go.Proofs.YtfcjnhkkfmgmpaaGreat
