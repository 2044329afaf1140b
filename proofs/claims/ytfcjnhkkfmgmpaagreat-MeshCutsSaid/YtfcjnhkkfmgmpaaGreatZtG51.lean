import Derived.Test.YtfcjnhkkfmgmpaaGreatZtG50
set_option linter.all false
set_option maxRecDepth 100000
set_option maxHeartbeats 8000000
namespace Go.Proofs.YtfcjnhkkfmgmpaaGreat
open Go.RowKit aS Go.Proofs.aA.R Go.Proofs.aA.Z Go.Proofs.aB.aZ
def Hl (p q:lA):Bool:=((p.f0.f0.f0==q.f0.f0.f0&&(p.f0.f0.f1.toList==q.f0.f0.f1.toList))&&(p.f0.f1.toList==q.f0.f1.toList))&&((p.f1.f0.f0==q.f1.f0.f0&&(p.f1.f0.f1.toList==q.f1.f0.f1.toList))&&(p.f1.f1.toList==q.f1.f1.toList))
theorem aiP (d:Nat) (w:World) (p q:lA):(Op.equalIn (d+4) 42 (.agg #[.bool p.f0.f0.f0,.string p.f0.f0.f1,.string p.f0.f1,.bool p.f1.f0.f0,.string p.f1.f0.f1,.string p.f1.f1]) (.agg #[.bool q.f0.f0.f0,.string q.f0.f0.f1,.string q.f0.f1,.bool q.f1.f0.f0,.string q.f1.f0.f1,.string q.f1.f1])).run Tryz.prog w = .ok (Hl p q) w:=afN d w _ _ _ _ _ _ _ _ _ _ _ _
def wT (on:Nat->Nat->Bool) (ps:PS) (p:lA) (i j:Nat):Bool:=!on i j||(Hl p (ay ps i)||Hl p (ay ps j))
def OnO (K:Nat) (ps:PS) (p:lA) (on:Nat->Nat->Bool):Prop:=∀ i j,i<ps.length->j<ps.length ->
 Er.f K (ay ps i).f0.f0.f0 (ay ps i).f0.f0.f1 (ay ps i).f0.f1 (ay ps i).f1.f0.f0 (ay ps i).f1.f0.f1 (ay ps i).f1.f1 (ay ps j).f0.f0.f0 (ay ps j).f0.f0.f1 (ay ps j).f0.f1 (ay ps j).f1.f0.f0 (ay ps j).f1.f0.f1 (ay ps j).f1.f1 p.f0.f0.f0 p.f0.f0.f1 p.f0.f1 p.f1.f0.f0 p.f1.f0.f1 p.f1.f1=some (on i j)
attribute [local go_sem high] aiP
theorem atu (A0 A1 A2:Option Addr) (c0 n1 c1 c2:Nat) (ps:PS) (zs:List Int) (ss:SS) (w:World) (hA:mJ w A0 A1 A2 c0 c2 ps zs n1 ss) (hz:zs.length=3*n1) (K:Nat) (bJ:Nat->Nat->Nat->Int) (hG:ZB K ss (pM ss)) (hM:uG ps.length zs n1 ss bJ) (hl:ps.length<400/\n1<=898) (p:lA) (br:Int) (hK:j9.f K [p]=some br) (on:Nat->Nat->Bool) (hW:br=0->OnO K ps p on) (t k:Int) :
  Calls Tryz.prog 17 #[.agg #[.slice A0 ps.length c0,.slice A1 n1 c1,.slice A2 ss.length c2],.int .i64 t,.int .i64 k,.agg (oQ p)] w fun e w'=>uS w (xO ps zs n1 ss (wT on ps p) br p t k) e w':=by
 obtain⟨n0,hn0⟩:∃ n,ps.length=n:=⟨_,rfl⟩
 obtain⟨n2,hn2⟩:∃ n,ss.length=n:=⟨_,rfl⟩
 have HL:=qh (show n0<400/\n1<=898/\n2<=1300 from ⟨hn0 ▸ hl.1,hl.2,hn2 ▸ hM.l2⟩);have jF:=qh (RP.new w A0 A1 A2 n0 c0 n1 c1 n2 c2 p);have H0:=qh hn0;have H2:=qh hn2;have HZ:=qh hz;have HA:=qh hA;have HM:=qh hM;have HK:=qh hK;have HW:=qh hW;have HGS:=qh hG;rw[hn0,hn2];clear hA hz hM hW hK hl hn0 hn2 hG;obtain⟨g,hg⟩:∃ g,w.heap.size=g:=⟨_,rfl⟩
 have HG:=qh hg;rw[hg]at jF
 go_enter Tryz.func17,Tryz.ntmps17;go_upto_region 1 with fail
 rw[show(#[.slice none 0 0,.slice none 0 0,.slice none 0 0]:Array Value)=fI from rfl];generalize (((w.alloc (.cells #[.slice A0 n0 c0,.slice A1 n1 c1,.slice A2 n2 c2] 26)).alloc (.cells (oQ p) 42)).alloc (.cells fI 26))=w1 at jF ⊢;have q0:=jF.out.box.b0;have q1:=jF.out.box.b1;have q2:=jF.out.box.b2;have Oc:=qh (aua A0 A1 A2 n0 c0 n1 c1 n2 c2 w1 t k);cases hB:qm n1 t k with
 | false =>
  rw[hB]at Oc
  have eU:=qh (show xO ps zs n1 ss (wT on ps p) br p t k=lT 1 from if_neg (by rw[hB];decide));clear hB;go_wp2_with (refine Oc.out.mono ?_;rintro e w2 ⟨rfl,hb⟩;refine Stop.out ?_)
  refine⟨?_⟩;have gY:=qh (jF.out.step hb);clear hb;obtain⟨b0,b1,b2,b3,b4,b5⟩:=z3 gY.out.br;go_wp2_with (refine sx (p:=8) (u:=9) (g:=g+2) (cs:=fI) (v := .int .i64 1) ?_ ?_ ?_ (gY.out.bad HG.out 1).1 Tryz.underlying26 ?_ ?_ ?_ ?_;exact(by kernel_rfl);exact(by kernel_rfl);exact(by kernel_rfl);rfl;exact(by kernel_rfl);rfl;rw[eU.out];exact(gY.out.bad HG.out 1).2)
 | true =>
  rw[hB]at Oc
  have hR:=hB;unfold qm at hR;simp only[Bool.and_eq_true,decide_eq_true_eq]at hR;obtain⟨⟨⟨a1,a2⟩,a3⟩,a4⟩:=hR;obtain⟨T,rfl⟩:=Int.eq_ofNat_of_zero_le a1;obtain⟨k,rfl⟩:=Int.eq_ofNat_of_zero_le a3;have hT:T<n1:=by omega
  have hk:k<=2:=by omega
  have HR:=qh (show xO ps zs n1 ss (wT on ps p) br p (T:Int) (k:Int)=_ from if_pos hB);simp only[Int.toNat_natCast]at HR;have HT:=qh hT;have mB:=qh hk;have fc:=HM.out.inr (j:=3*T+k) qo;have fM:=HM.out.inr (j:=3*T+nx k) (by unfold nx;split <;> omega);have mW:=HM.out.inr (j:=3*T+px k) (by unfold px;split <;> omega);rw[H0.out]at fc fM mW
  obtain⟨na,jx⟩:∃ x:Nat,zs.getD (3*T+k) 0=x:=⟨_,(Int.toNat_of_nonneg fc.1).symm⟩
  obtain⟨nb,jy⟩:∃ x:Nat,zs.getD (3*T+nx k) 0=x:=⟨_,(Int.toNat_of_nonneg fM.1).symm⟩
  obtain⟨nc,mS⟩:∃ x:Nat,zs.getD (3*T+px k) 0=x:=⟨_,(Int.toNat_of_nonneg mW.1).symm⟩
  simp only[jx,jy,mS,H0.out,Int.toNat_natCast]at HR;rw[jx]at fc
  rw[jy]at fM
  rw[mS]at mW
  have SK:=qh jx;have SL:=qh jy;have N7:=qh mS;have eR:=qh (show na<n0/\nb<n0/\nc<n0 by omega);clear jx jy mS fc fM mW hT hk a1 a2 a3 a4 hB;go_wp2_with (refine Oc.out.mono ?_;rintro e w2 ⟨rfl,hb⟩;refine Stop.out ?_)
  refine⟨?_⟩;have gY:=qh (jF.out.step hb);clear hb Oc jF q0 q1 q2;obtain⟨p0,p1,p2,p3,p4,p5,p6,p7,p8,p9,Ho,Hp⟩:=z6 gY.out.bp;have x_:=qh (j9.calls K (some ⟨w2.heap.size,0,none⟩) 1 [p] br (w2.alloc (.cells (oQ p) 42)) (atq (iw _ _)) (Nat.le_refl _) HK.out);go_wp2_with (refine x_.out.mono ?_;rintro e w3 ⟨rfl,hb⟩;refine Stop.out ?_)
  refine⟨?_⟩;have dA:=((Below.refl w2.heap.size w2).alloc (Nat.le_refl _) (.cells (oQ p) 42)).trans (hb.mono (by simp));have eG:=qh (gY.out.step dA);clear dA hb x_ gY p0 p1 p2 p3 p4 p5 p6 p7 p8 p9 Ho Hp;by_cases hbr:br=0
  ·subst hbr
   have oO:=qh (HR.out.trans (if_pos rfl));have n_:=qh (HW.out rfl);clear HR HW;have q0:=eG.out.box.b0;have q1:=eG.out.box.b1;have q2:=eG.out.box.b2;have gJ:=qh (HA.out.below eG.out.box.below HG.out.symm);have HEN:=qh (PW A0 A1 A2 n0 c0 n1 c1 n2 c2 zs w3 gJ.out.t T k HT.out mB.out (by have:=HL.out;omega));rw[SK.out,SL.out]at HEN
   go_wp2_with (refine HEN.out.mono ?_;rintro e w4 ⟨rfl,hb⟩;refine Stop.out ?_)
   refine⟨?_⟩;have ir:=qh (eG.out.step hb);clear hb HEN eG q0 q1 q2 gJ;go_upto_region 7 with fail
   have HP:=qh (HA.out.below ir.out.box.below HG.out.symm).p;rw[H0.out]at HP
   obtain⟨Ag,rfl,-⟩:=oB HP.out (na:Int) qo (by have:=eR.out;omega);have Cb:=n_.out na nb (by rw[H0.out];exact eR.out.1) (by rw[H0.out];exact eR.out.2.1);obtain⟨bb,mD⟩:∃ x,wT on ps p na nb=x:=⟨_,rfl⟩
   simp only[mD]at oO;unfold wT at mD;generalize on na nb=ov at Cb mD;generalize h1:Hl p (ay ps na)=e1 at mD;generalize h2:Hl p (ay ps nb)=e2 at mD;have rI:=qh mD;clear mD;go_cut [71] (fun a wx=>a = .bool bb/\Hid (Below w4.heap.size w4 wx))
   case first =>
    obtain⟨D0,D1,D2,D3,D4,D5⟩:=uV HP.out na eR.out.1;obtain⟨P0,P1,P2,P3,P4,P5⟩:=uV HP.out nb eR.out.2.1;obtain⟨E0,E1,E2,E3,E4,E5,_,_,_,_,_,_⟩:=z6 ir.out.bp;have Q0:=ir.out.box.b0;have q0:=cL Q0;have jQ:=cL D0;have tM:=cL D1;have d2':=cL D2;have d3':=cL D3;have d4':=cL D4;have d5':=cL D5;have p0':=cL P0;have p1':=cL P1;have p2':=cL P2;have p3':=cL P3;have p4':=cL P4;have p5':=cL P5;have B9:=cL E0;have B_:=cL E1;have Oa:=cL E2;have e3':=cL E3;have e4':=cL E4;have e5':=cL E5;have x2:((nb:Int)<(n0:Int))=True:=eq_true (by have:=eR.out;omega);have x4:((na:Int)<(n0:Int))=True:=eq_true (by have:=eR.out;omega);have y2:(nb<n0)=True:=eq_true eR.out.2.1;have y4:(na<n0)=True:=eq_true eR.out.1;clear D0 D1 D2 D3 D4 D5 P0 P1 P2 P3 P4 P5 E0 E1 E2 E3 E4 E5 Q0;have yh:=qh (fun W (hW:Below w4.heap.size w4 W)=>Er.calls K _ _ _ _ _ _ _ _ _ _ _ _ _ _ _ _ _ _ _ W Cb);clear Cb;cases ov with
    | false =>
     refine yJ w4 qk qk ?_;repeat(go_big_quiet_step ((go_at_call 42;with_reducible exact PV yh.out _)))
     refine wpQuiet_nil ?_;intro _ hw';obtain⟨p,rfl⟩:=hw';go_wp2
     go_meet
     exact⟨by rw[<- rI.out];rfl,qh p.h⟩
    | true =>
     cases e1 with
     | true =>
      refine yJ w4 qk qk ?_;repeat(go_big_quiet_step ((go_at_call 42;with_reducible exact PV yh.out _)))
      refine wpQuiet_nil ?_;intro _ hw';obtain⟨p,rfl⟩:=hw';go_wp2
      go_meet
      exact⟨by rw[<- rI.out];rfl,qh p.h⟩
     | false =>
      refine yJ w4 qk qk ?_;repeat(go_big_quiet_step ((go_at_call 42;with_reducible exact PV yh.out _)))
      refine wpQuiet_nil ?_;intro _ hw';obtain⟨p,rfl⟩:=hw';go_wp2
      go_meet
      exact⟨by rw[<- rI.out];rfl,qh p.h⟩
   case rest =>
    obtain⟨rfl,jw⟩:=hcut;have j8:=qh (ir.out.step jw.out);clear ir jw HP Cb h1 h2 rI;generalize wc=w5 at j8 ⊢;cases bb with
    | true =>
     have eU:=qh (oO.out.trans (if_pos rfl));obtain⟨b0,b1,b2,b3,b4,b5⟩:=z3 j8.out.br;go_wp2_with (refine sx (p:=8) (u:=9) (g:=g+2) (cs:=fI) (v := .int .i64 7) ?_ ?_ ?_ (j8.out.bad HG.out 7).1 Tryz.underlying26 ?_ ?_ ?_ ?_;exact(by kernel_rfl);exact(by kernel_rfl);exact(by kernel_rfl);rfl;exact(by kernel_rfl);rfl;rw[eU.out];exact(j8.out.bad HG.out 7).2)
    | false =>
     have Cc:=qh (oO.out.trans (if_neg qd));clear oO;have q0:=j8.out.box.b0;have q1:=j8.out.box.b1;have q2:=j8.out.box.b2;have Od:=qh (apM (some Ag) A1 A2 n0 c0 n1 c1 n2 c2 w5 HL.out.1 HL.out.2.1);go_wp2_with (refine Od.out.mono ?_;rintro e w6 ⟨rfl,hb⟩;refine Stop.out ?_)
     refine⟨?_⟩;have lu:=qh (j8.out.step hb);clear j8 hb Od q0 q1 q2;have q1:=lu.out.box.b1;have gJ:=qh (HA.out.below lu.out.box.below HG.out.symm);obtain⟨ad,rfl,hc⟩:=gJ.out.t (by have:=HT.out;omega);have yc:=hc (T*3+px k) (by have:=Ju mB.out;have:=HT.out;omega);rw[<- add_add,show T*3+px k=3*T+px k by omega,N7.out]at yc
     have v1:IntKind.i64.wrap ((k:Int)+2)=(k:Int)+2:=by have:=mB.out;rw[IntKind.wrap_i64];omega
     have v2:=adP k mB.out;have v3:((T:Int)<(n1:Int))=True:=eq_true (by have:=HT.out;omega);have v4:(T<n1)=True:=eq_true HT.out;have v5:((0:Int)<=(T:Int))=True:=eq_true qo;have v6:((px k:Int)<3)=True:=eq_true (by have:=Ju mB.out;omega);have v7:(px k<3)=True:=eq_true (Ju mB.out);have v8:((0:Int)<=(px k:Int))=True:=eq_true qo;have HAC:=qh (ak5 (some Ag) (some ad) A2 n0 c0 n1 c1 n2 c2 zs w6 gJ.out.t T k HT.out mB.out (by have:=HL.out;omega));rw[SK.out,SL.out]at HAC
     have q0:=lu.out.box.b0;have q2:=lu.out.box.b2;clear hc gJ;go_wp2_with (refine HAC.out.mono ?_;rintro e w7 ⟨rfl,hb⟩;refine Stop.out ?_)
     refine⟨?_⟩;have iN:=qh (lu.out.step hb);clear hb HAC lu q0 q1 q2 yc v1 v2 v6 v7 v8;have q0:=iN.out.box.b0;have q1:=iN.out.box.b1;have q2:=iN.out.box.b2;have HJ:=qh (fun j (hj:bV zs (nb:Int) (na:Int) (3*n1)=some j)=>(Ex hj).1);generalize bV zs (nb:Int) (na:Int) (3*n1)=fo at Cc HJ ⊢;have Hq:=qh (adu (some Ag) (some ad) A2 c0 n1 c1 c2 ps zs ss w7 (HA.out.below iN.out.box.below HG.out.symm) HZ.out (by rw[H0.out,H2.out];have:=HL.out;omega));rw[H0.out,H2.out]at Hq
     go_wp2_with (refine Hq.out.mono ?_;rintro e w8 ⟨v0,v1,v2,rfl,gQ,hb⟩;refine Stop.out ?_)
     refine⟨?_⟩;obtain⟨g1,k1,rfl⟩:=gQ.blk (by have:=HT.out;omega);obtain⟨B0,d0,B1,d1,B2,d2,rfl,-,rfl,-,-⟩:=gQ.args;rw[H0.out,H2.out]at gQ ⊢
     have HS:=qh (TJ.aiN hb gQ);clear gQ hb Hq q0 q1 q2;have q0:=(iN.out.step HS.out.bl).box.b0;go_upto_region 15 with fail
     clear q0;generalize (w8.alloc (.cells #[.slice B0 n0 d0,.slice (some ⟨g1,0,none⟩) n1 k1,.slice B2 n2 d2] 26))=w9 at HS ⊢;generalize w8.heap.size=o at HS ⊢;have Ce:=qh (HS.out.al (.cells (oQ p) 42));have HN:=qa (iw w9 (.cells (oQ p) 42));obtain⟨cs0,dm,kH⟩:=Ce.out.om.p;have Hr:=kH;rw[H0.out]at Hr
     have eN:=qh dm;have Oe:=qh kH;have qj:=qh Hr;clear dm kH Hr;obtain⟨z0,z1,z2,z3,z4,z5⟩:=Go.Proofs.aA.Z.z3 HS.out.bo;obtain⟨p0,p1,p2,p3,p4,p5,p6,p7,p8,p9,Ho,Hp⟩:=z6 (iN.out.step HS.out.bl).bp;go_upto_region 16 with (first|(at_builtin;refine CW rfl (.tmp 98) (.tmp 100) 22 42 rfl (.agg #[.bool false,.string ⟨#[]⟩,.string ⟨#[]⟩,.bool false,.string ⟨#[]⟩,.string ⟨#[]⟩]) 6 80 Tryz.underlying22 qk rfl qd (.slice B0 n0 d0) n0 cs0 rfl ⟨w9.heap.size,0,none⟩ 1 1 rfl (oQ p).toList qj.out Ce.out.hz rfl (CP HN.out) (fun u hu=>dX.sy (yT w9 p) u hu) (by have:=HL.out;omega) (by have:=HL.out;simp only[maxLen];omega) ?_;intro lB jQ gI O0 G0;have jA:=qh (Ce.out.YR (v' := .slice lB (n0+1) jQ) Oe.out eN.out (yT _ p) rfl (by rw[H0.out];exact O0.out) G0.out);clear z0 z1 z2 z3 z4 z5 p0 p1 p2 p3 p4 p5 p6 p7 p8 p9 Ho Hp;obtain⟨z0,z1,z2,z3,z4,z5⟩:=Go.Proofs.aA.Z.z3 jA.out.bo)|fail)
     have wU:=qh (show TJ o w7.heap.size w7 #[.slice lB (n0+1) jQ,.slice (some ⟨g1,0,none⟩) n1 k1,.slice B2 n2 d2] (.slice lB (n0+1) jQ) (.slice (some ⟨g1,0,none⟩) n1 k1) (.slice B2 n2 d2) (ps++[p]) zs n1 ss _ from jA.out.st 0 (.slice lB (n0+1) jQ));clear HS Ce HN eN Oe qj jA O0 G0 z0 z1 z2 z3 z4 z5;generalize (gI.setCell ⟨o,0,none⟩ (.slice lB (n0+1) jQ))=lV at wU ⊢;have gy:¬ g1=o:=by obtain⟨-,c,hc,-⟩:=AH wU.out.om.t;exact y9 hc wU.out.bo.out qd
     have iV:¬ o=g1:=fun e=>gy e.symm;obtain⟨z0,z1,z2,z3,z4,z5⟩:=Go.Proofs.aA.Z.z3 wU.out.bo;obtain⟨yt,yu,yw,yx,yy,yz,yA,yB,yC⟩:=Iw wU.out.om.t HT.out;go_upto_region 17 with fail
     have qL:=qh (wU.out.Gs HT.out na n0 nc);clear wU z0 z1 z2 z3 z4 z5 yt yu yw yx yy yz yA yB yC gy iV v3 v4 v5;generalize (((lV.setCell ⟨g1,T*3,none⟩ (.int .i64 (na:Int))).setCell ⟨g1,T*3+1,none⟩ (.int .i64 (n0:Int))).setCell ⟨g1,T*3+2,none⟩ (.int .i64 (nc:Int)))=gh at qL ⊢;have qM:=qh (qL.out.al (.cells #[.int .i64 (n0:Int),.int .i64 (nb:Int),.int .i64 (nc:Int)] 61));have HN:=qa (iw gh (.cells #[.int .i64 (n0:Int),.int .i64 (nb:Int),.int .i64 (nc:Int)] 61));obtain⟨z0,z1,z2,z3,z4,z5⟩:=Go.Proofs.aA.Z.z3 qL.out.bo;go_upto_region 18 with (first|(at_builtin;refine CW rfl (.tmp 112) (.tmp 117) 23 61 rfl (.agg #[.int .i64 0,.int .i64 0,.int .i64 0]) 3 24 Tryz.underlying23 qk rfl qd (.slice (some ⟨g1,0,none⟩) n1 k1) n1 (ko (uR zs T na n0 nc)) rfl ⟨gh.heap.size,0,none⟩ 1 1 rfl (ko [(n0:Int),nb,nc]) qM.out.om.t qM.out.hz rfl (CP HN.out) (Hx _) (by have:=HL.out;omega) (by have:=HL.out;simp only[maxLen];omega) ?_;intro B1' tM oP O0 G0;have jA:=qh (qM.out.M9 O0.out G0.out);clear z0 z1 z2 z3 z4 z5;obtain⟨z0,z1,z2,z3,z4,z5⟩:=Go.Proofs.aA.Z.z3 jA.out.bo)|fail)
     obtain⟨g3,k3,he⟩:=jA.out.om.blk (Nat.succ_pos _);injection he with yD Cf yE
     subst yD yE;have rJ:=qh (show TJ o w7.heap.size w7 #[.slice lB (n0+1) jQ,.slice (some ⟨g3,0,none⟩) (n1+1) tM,.slice B2 n2 d2] (.slice lB (n0+1) jQ) (.slice (some ⟨g3,0,none⟩) (n1+1) tM) (.slice B2 n2 d2) (ps++[p]) (vD zs T na nb nc n0) (n1+1) ss _ from jA.out.st 1 (.slice (some ⟨g3,0,none⟩) (n1+1) tM));clear qL qM HN jA O0 G0 z0 z1 z2 z3 z4 z5 Cf;generalize (oP.setCell ⟨o,1,none⟩ (.slice (some ⟨g3,0,none⟩) (n1+1) tM))=iq at rJ ⊢;obtain⟨ft,hft⟩:∃ x,fT fo=x:=⟨_,rfl⟩
     obtain⟨fk,GI⟩:∃ x,fK fo=x:=⟨_,rfl⟩
     rw[hft,GI];have HFT:=qh hft;have HFK:=qh GI;clear hft GI;go_upto_if 121 with fail
     go_cut [18] (fun _ wx=>∃ (g4 k4:Nat),Hid (TJ o w7.heap.size w7 #[.slice lB (n0+1) jQ,.slice (some ⟨g4,0,none⟩) (o_ fo n1) k4,.slice B2 n2 d2] (.slice lB (n0+1) jQ) (.slice (some ⟨g4,0,none⟩) (o_ fo n1) k4) (.slice B2 n2 d2) (ps++[p]) (Bw zs fo (vD zs T na nb nc n0) na nb n0) (o_ fo n1) ss wx))
     case first =>
      cases fo with
      | none =>
       obtain rfl:(-1:Int)=ft:=HFT.out;go_wp2
       go_meet
       exact⟨_,_,rJ⟩
      | some j =>
       obtain⟨jt,hjt⟩:∃ x,j / 3=x:=⟨_,rfl⟩
       obtain⟨jk,hjk⟩:∃ x,j%3=x:=⟨_,rfl⟩
       obtain rfl:(jt:Int)=ft:=by rw[<- hjt];exact HFT.out
       obtain rfl:(jk:Int)=fk:=by rw[<- hjk];exact HFK.out
       have vO:=qh (show j<3*n1/\jt<n1/\jk<=2 by have:=HJ.out j rfl;omega);have vN:=qh hjt;have Af:=qh hjk;clear hjt hjk HJ;obtain⟨xd,ym⟩:∃ x,zs.getD (3*jt+px jk) 0=x:=⟨_,rfl⟩
       have BZ:=qh ym;have qp:=qh (iN.out.step rJ.out.bl);obtain⟨zZ,he,hc⟩:=(HA.out.below qp.out.box.below HG.out.symm).t (by have:=HT.out;omega);obtain rfl:=Option.some.inj he;have yc:=hc (jt*3+px jk) (by have:=Ju vO.out.2.2;have:=vO.out;omega);rw[<- add_add,show jt*3+px jk=3*jt+px jk by omega,ym]at yc
       clear ym;have v1:IntKind.i64.wrap ((jk:Int)+2)=(jk:Int)+2:=by have:=vO.out;rw[IntKind.wrap_i64];omega
       have v2:=adP jk vO.out.2.2;have v3:((jt:Int)<(n1:Int))=True:=eq_true (by have:=vO.out;omega);have v4:(jt<n1)=True:=eq_true vO.out.2.1;have v5:((0:Int)<=(jt:Int))=True:=eq_true qo;have v6:((px jk:Int)<3)=True:=eq_true (by have:=Ju vO.out.2.2;omega);have v7:(px jk<3)=True:=eq_true (Ju vO.out.2.2);have v8:((0:Int)<=(px jk:Int))=True:=eq_true qo;have q1:=qp.out.box.b1;go_upto_region 20 with fail
       clear hc he yc v1 v2 v3 v4 v6 v7 v8 q1;generalize hm:n1+1=m1 at rJ ⊢;have Cg:=qh (show jt<m1 by have:=vO.out;omega);have fc:=qh hm;clear hm;have v3:((jt:Int)<(m1:Int))=True:=eq_true (by have:=Cg.out;omega);have v4:(jt<m1)=True:=eq_true Cg.out;have gy:¬ g3=o:=by obtain⟨-,c,hc,-⟩:=AH rJ.out.om.t;exact y9 hc rJ.out.bo.out qd
       have iV:¬ o=g3:=fun e=>gy e.symm;obtain⟨z0,z1,z2,z3,z4,z5⟩:=Go.Proofs.aA.Z.z3 rJ.out.bo;obtain⟨yt,yu,yw,yx,yy,yz,yA,yB,yC⟩:=Iw rJ.out.om.t (t:=jt) Cg.out;go_upto_region 21 with fail
       have qL:=qh (rJ.out.Gs (t:=jt) Cg.out nb n0 xd);clear rJ z0 z1 z2 z3 z4 z5 yt yu yw yx yy yz yA yB yC gy iV v3 v4 v5;generalize (((iq.setCell ⟨g3,jt*3,none⟩ (.int .i64 (nb:Int))).setCell ⟨g3,jt*3+1,none⟩ (.int .i64 (n0:Int))).setCell ⟨g3,jt*3+2,none⟩ (.int .i64 xd))=tH at qL ⊢;have qM:=qh (qL.out.al (.cells #[.int .i64 (n0:Int),.int .i64 (na:Int),.int .i64 (xd:Int)] 61));have HN:=qa (iw tH (.cells #[.int .i64 (n0:Int),.int .i64 (na:Int),.int .i64 (xd:Int)] 61));obtain⟨z0,z1,z2,z3,z4,z5⟩:=Go.Proofs.aA.Z.z3 qL.out.bo;go_wp2_with (first|(at_builtin;refine CW rfl (.tmp 140) (.tmp 145) 23 61 rfl (.agg #[.int .i64 0,.int .i64 0,.int .i64 0]) 3 24 Tryz.underlying23 qk rfl qd (.slice (some ⟨g3,0,none⟩) m1 tM) m1 (ko (uR (vD zs T na nb nc n0) jt nb n0 xd)) rfl ⟨tH.heap.size,0,none⟩ 1 1 rfl (ko [(n0:Int),na,xd]) qM.out.om.t qM.out.hz rfl (CP HN.out) (Hx _) (by have:=HL.out;have:=fc.out;omega) (by have:=HL.out;have:=fc.out;simp only[maxLen];omega) ?_;intro B4 d4 wQ O0 G0;have jA:=qh (qM.out.M9 O0.out G0.out);clear z0 z1 z2 z3 z4 z5;obtain⟨z0,z1,z2,z3,z4,z5⟩:=Go.Proofs.aA.Z.z3 jA.out.bo)|fail)
       go_meet
       obtain⟨g4,k4,he⟩:=jA.out.om.blk (Nat.succ_pos _);injection he with yD Cf yE
       subst yD yE;obtain rfl:=fc.out;refine⟨g4,d4,qh ?_⟩;have hU:Bw zs (some j) (vD zs T na nb nc n0) na nb n0=uR (vD zs T na nb nc n0) jt nb n0 xd++[(n0:Int),na,xd]:=by
        unfold Bw;rw[<- BZ.out,<- vN.out,<- Af.out]
       rw[hU];exact jA.out.st 1 (.slice (some ⟨g4,0,none⟩) (n1+2) d4)
     case rest =>
      obtain⟨g4,k4,HU⟩:=hcut;clear rJ HJ;generalize wc=Ee at HU ⊢;have tK:=qh (jB.calls K A2 c2 ss na nb (pM ss na nb) Ee (HA.out.below (iN.out.step HU.out.bl).box.below HG.out.symm).s HA.out.sc (HGS.out na nb));rw[H2.out]at tK
      have hlt:=adR (ss:=ss) (a:=na) (b:=nb);rw[H2.out]at hlt
      generalize pM ss na nb=sg at Cc tK hlt;have dx:=qh hlt;have q2:=(iN.out.step HU.out.bl).box.b2;clear hlt;go_wp2_with (refine tK.out.mono ?_;rintro e vL ⟨rfl,hb⟩;refine Stop.out ?_)
      refine⟨?_⟩;have HV:=qh (HU.out.step hb.below);clear hb tK HU q2;by_cases hq:0<=sg
      ·obtain⟨i,rfl⟩:=Int.eq_ofNat_of_zero_le hq
       have e1:decide ((0:Int)<=(i:Int))=true:=decide_eq_true hq;have HI:=qh (show i<n2 by have:=dx.out hq;omega);have pG:=qh (show GC ss (i:Int) n0=ss.set i ⟨(bH ss i).f0,n0,(bH ss i).f2⟩++[⟨n0,(bH ss i).f1,(bH ss i).f2⟩] from if_pos hq);clear hq dx;obtain⟨s0,s1,s2,hs⟩:∃ a b c,bH ss i=⟨a,b,c⟩:=⟨_,_,_,rfl⟩
       have qp:=qh (iN.out.step HV.out.bl);have hs2:=(HA.out.below qp.out.box.below HG.out.symm).s;rw[H2.out]at hs2
       obtain⟨GQ,rfl,y0,y1,y2⟩:=mF hs2 (i:Int) qo (by have:=HI.out;omega);rw[show eC ss (i:Int)=⟨s0,s1,s2⟩ from hs]at y0 y1 y2
       rw[hs]at pG
       simp only[Int.toNat_natCast]at y0 y1 y2;clear hs2 hs;have yl:=HV.out.seg;rw[H2.out]at yl
       rcases yl.2 with ⟨-,h0⟩|⟨g2,k2,cur,he,-,Kl,-⟩
       ·exfalso
        have:=HI.out;omega
       injection he with yD Cf yE
       subst yD yE;have Ca:=qh (gm Kl);clear yl Kl Cf;have q2:=qp.out.box.b2;have v3:((i:Int)<(n2:Int))=True:=eq_true (by have:=HI.out;omega);have v4:(i<n2)=True:=eq_true HI.out;have v5:((0:Int)<=(i:Int))=True:=eq_true qo;go_upto_region 25 with fail
       have vP:=qh (HV.out.al (.cells #[.int .i64 s0,.int .i64 s1,.bool s2] 55));have HQ:=qa (iw vL (.cells #[.int .i64 s0,.int .i64 s1,.bool s2] 55));clear HV q2 y0 y1 y2 qp;generalize (vL.alloc (.cells #[.int .i64 s0,.int .i64 s1,.bool s2] 55))=Ed at vP HQ ⊢;generalize vL.heap.size=q at HQ Ca ⊢;have hr:=vP.out.seg;rw[H2.out]at hr
       have gy:¬ g2=o:=by obtain⟨-,c,hc,-⟩:=AH hr;exact y9 hc vP.out.bo.out qd
       have iV:¬ o=g2:=fun e=>gy e.symm;have rH:¬ g2=q:=Nat.ne_of_lt Ca.out;have qK:¬ q=g2:=fun e=>rH e.symm;obtain⟨yt,yu,yw,yx,yy,yz,yA,yB,yC⟩:=Iw hr HI.out;clear hr;obtain⟨z0,z1,z2,z3,z4,z5⟩:=Go.Proofs.aA.Z.z3 vP.out.bo;obtain⟨y0,y1,y2,_,_,_⟩:=Go.Proofs.aA.Z.z3 HQ;go_upto_region 26 with fail
       have Ch:=qh (vP.out.atr H2.out HI.out s0 n0 s2);have Hs:=qa (Go.Proofs.aB.aZ.dQ (Go.Proofs.aB.aZ.dQ (Go.Proofs.aB.aZ.dQ HQ.out (p:=⟨g2,i*3,none⟩) qK (.int .i64 s0)) (p:=⟨g2,i*3+1,none⟩) qK (.int .i64 (n0:Int))) (p:=⟨g2,i*3+2,none⟩) qK (.bool s2));clear vP HQ y0 y1 y2 yt yu yw yx yy yz yA yB yC gy iV rH qK v3 v4 v5 z0 z1 z2 z3 z4 z5;generalize (((Ed.setCell ⟨g2,i*3,none⟩ (.int .i64 s0)).setCell ⟨g2,i*3+1,none⟩ (.int .i64 (n0:Int))).setCell ⟨g2,i*3+2,none⟩ (.bool s2))=wR at Ch Hs ⊢;have Ci:=qh (Ch.out.al (.cells #[.int .i64 (n0:Int),.int .i64 s1,.bool s2] 55));have HN:=qa (iw wR (.cells #[.int .i64 (n0:Int),.int .i64 s1,.bool s2] 55));have ho:=Ci.out.seg;rw[List.length_set,H2.out]at ho
       have Of:=qh ho;clear ho;obtain⟨z0,z1,z2,z3,z4,z5⟩:=Go.Proofs.aA.Z.z3 Ch.out.bo;obtain⟨y0,y1,y2,_,_,_⟩:=Go.Proofs.aA.Z.z3 Hs;go_upto_region 27 with (first|(at_builtin;refine CW rfl (.tmp 171) (.tmp 178) 24 55 rfl (.agg #[.int .i64 0,.int .i64 0,.bool false]) 3 24 Tryz.underlying24 qk rfl qd (.slice (some ⟨g2,0,none⟩) n2 d2) n2 (jZ (ss.set i ⟨s0,(n0:Int),s2⟩)) rfl ⟨wR.heap.size,0,none⟩ 1 1 rfl (jZ [⟨(n0:Int),s1,s2⟩]) Of.out Ci.out.hz rfl (CP HN.out) (Tj _) (by have:=HL.out;omega) (by have:=HL.out;simp only[maxLen];omega) ?_;intro B5 d5 tI O0 G0;have jA:=qh (Ci.out.aiO (s:=⟨(n0:Int),s1,s2⟩) (v' := .slice B5 (n2+1) d5) (by rw[List.length_set,H2.out];exact O0.out) G0.out);clear z0 z1 z2 z3 z4 z5 y0 y1 y2;obtain⟨z0,z1,z2,z3,z4,z5⟩:=Go.Proofs.aA.Z.z3 jA.out.bo)|fail)
       have HX:=qh (show TJ o w7.heap.size w7 #[.slice lB (n0+1) jQ,.slice (some ⟨g4,0,none⟩) (o_ fo n1) k4,.slice B5 (n2+1) d5] (.slice lB (n0+1) jQ) (.slice (some ⟨g4,0,none⟩) (o_ fo n1) k4) (.slice B5 (n2+1) d5) (ps++[p]) (Bw zs fo (vD zs T na nb nc n0) na nb n0) (o_ fo n1) _ _ from jA.out.st 2 (.slice B5 (n2+1) d5));clear Ch Hs Ci HN Of jA O0 G0 z0 z1 z2 z3 z4 z5;generalize (tI.setCell ⟨o,2,none⟩ (.slice B5 (n2+1) d5))=Ki at HX ⊢;obtain⟨z0,z1,z2,z3,z4,z5⟩:=Go.Proofs.aA.Z.z3 HX.out.bo;obtain⟨b0,b1,b2,b3,b4,b5⟩:=Go.Proofs.aA.Z.z3 (iN.out.step HX.out.bl).br;go_wp2_with (refine sx (p:=8) (u:=9) (g:=g+2) (cs:=#[.slice lB (n0+1) jQ,.slice (some ⟨g4,0,none⟩) (o_ fo n1) k4,.slice B5 (n2+1) d5]) (v := .int .i64 0) ?_ ?_ ?_ (HX.out.ret iN.out HG.out 0).1 Tryz.underlying26 ?_ ?_ ?_ ?_;exact(by kernel_rfl);exact(by kernel_rfl);exact(by kernel_rfl);rfl;exact(by kernel_rfl);rfl;rw[Cc.out,pG.out];exact(HX.out.ret iN.out HG.out 0).2)
      ·have e1:decide ((0:Int)<=sg)=false:=decide_eq_false hq
       have pG:=qh (show GC ss sg n0=ss from if_neg hq);clear hq dx;have qp:=qh (iN.out.step HV.out.bl);obtain⟨z0,z1,z2,z3,z4,z5⟩:=Go.Proofs.aA.Z.z3 HV.out.bo;obtain⟨b0,b1,b2,b3,b4,b5⟩:=Go.Proofs.aA.Z.z3 qp.out.br;go_wp2_with (refine sx (p:=8) (u:=9) (g:=g+2) (cs:=#[.slice lB (n0+1) jQ,.slice (some ⟨g4,0,none⟩) (o_ fo n1) k4,.slice B2 n2 d2]) (v := .int .i64 0) ?_ ?_ ?_ (HV.out.ret iN.out HG.out 0).1 Tryz.underlying26 ?_ ?_ ?_ ?_;exact(by kernel_rfl);exact(by kernel_rfl);exact(by kernel_rfl);rfl;exact(by kernel_rfl);rfl;rw[Cc.out,pG.out];exact(HV.out.ret iN.out HG.out 0).2)
  ·have e1:(br != 0)=true:=bne_iff_ne.mpr hbr
   have eU:=qh (HR.out.trans (if_neg hbr));clear hbr;obtain⟨b0,b1,b2,b3,b4,b5⟩:=z3 eG.out.br;go_wp2_with (refine sx (p:=8) (u:=9) (g:=g+2) (cs:=fI) (v := .int .i64 br) ?_ ?_ ?_ (eG.out.bad HG.out br).1 Tryz.underlying26 ?_ ?_ ?_ ?_;exact(by kernel_rfl);exact(by kernel_rfl);exact(by kernel_rfl);rfl;exact(by kernel_rfl);rfl;rw[eU.out];exact(eG.out.bad HG.out br).2)
end Go.Proofs.YtfcjnhkkfmgmpaaGreat
