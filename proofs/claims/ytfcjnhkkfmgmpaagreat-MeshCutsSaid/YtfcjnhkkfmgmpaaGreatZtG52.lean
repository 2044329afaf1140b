import Derived.Test.YtfcjnhkkfmgmpaaGreatZtG51
set_option linter.all false
set_option maxRecDepth 100000
set_option maxHeartbeats 8000000
namespace Go.Proofs.YtfcjnhkkfmgmpaaGreat
open Go.RowKit aS Go.Proofs.aA.R Go.Proofs.aA.Z Go.Proofs.aB.aZ
theorem TJ.new1 {b:Nat} {W6 W wn:World} {v0 v1 v2:Value} {ps:PS} {zs:List Int} {n1:Nat} {ss:SS} (h6:Below W6.heap.size W6 W) (hb:Below W.heap.size W wn) (hO:OM wn W.heap.size v0 v1 v2 ps zs n1 ss):TJ wn.heap.size W.heap.size W6 #[v0,v1,v2] v0 v1 v2 ps zs n1 ss (wn.alloc (.cells #[v0,v1,v2] 26)):=by
 have dA:=(Below.refl wn.heap.size wn).alloc (Nat.le_refl _) (.cells #[v0,v1,v2] 26);exact⟨hO.below dA,⟨iw _ _⟩,(h6.trans (hb.mono h6.size)).trans (dA.mono (Nat.le_trans h6.size hb.size)),Nat.le_trans h6.size hb.size,h6.size,Nat.le_trans hb.size dA.size⟩
theorem TJ.new2 {o:Nat} {W6 W wn:World} {v0 v1 v2:Value} {ps:PS} {zs:List Int} {n1:Nat} {ss:SS} (hb:Below W.heap.size W wn) (hO:OM wn W.heap.size v0 v1 v2 ps zs n1 ss) (h6:Below W6.heap.size W6 W) (ho:W.heap[o]?=some (.cells fI 26 (0,0))) (h1:W6.heap.size<=o) :
  TJ o W.heap.size W6 #[v0,v1,v2] v0 v1 v2 ps zs n1 ss (((wn.setCell ⟨o,0,none⟩ v0).setCell ⟨o,1,none⟩ v1).setCell ⟨o,2,none⟩ v2):=by
 have h:TJ o W.heap.size W6 fI v0 v1 v2 ps zs n1 ss wn:=⟨hO,⟨eW ho hb⟩,h6.trans (hb.mono h6.size),h1,h6.size,hb.size⟩
 exact((h.st 0 v0).st 1 v1).st 2 v2
structure FC (g kb B eb:Nat) (w:World) (A0 A1 A2:Option Addr) (n0 c0 n1 c1 n2 c2:Nat) (p:lA) (zs:List Int) (xa xb:Int) (W:World):Prop where
 f:RP g w A0 A1 A2 n0 c0 n1 c1 n2 c2 p W
 m:SMap W B zs (3*n1)
 k1:W.cell? ⟨kb,1,none⟩=some (.slice A1 n1 c1)
 k3:W.cell? ⟨kb,3,none⟩=some (.map (some B))
 e:aO (W.heap[eb]?=some (.cells #[.int .i64 xa,.int .i64 xb] 66 (0,0)))
theorem FC.step {g kb B eb:Nat} {w:World} {A0 A1 A2:Option Addr} {n0 c0 n1 c1 n2 c2:Nat} {p:lA} {zs:List Int} {xa xb:Int} {W W':World} (h:FC g kb B eb w A0 A1 A2 n0 c0 n1 c1 n2 c2 p zs xa xb W) (hb:Below W.heap.size W W'):FC g kb B eb w A0 A1 A2 n0 c0 n1 c1 n2 c2 p zs xa xb W' :=
 ⟨h.f.step hb,h.m.below hb h.m.lt,(hb.cell (ql h.k1)).trans h.k1,(hb.cell (ql h.k3)).trans h.k3,⟨eW h.e.out hb⟩⟩
def OnP (K:Nat) (ps:PS) (p:lA) (on:Nat->Nat->Bool) (br:Int):Prop:=∀ i j,i<ps.length->j<ps.length ->
 Fq.f K (ay ps i).f0.f0.f0 (ay ps i).f0.f0.f1 (ay ps i).f0.f1 (ay ps i).f1.f0.f0 (ay ps i).f1.f0.f1 (ay ps i).f1.f1 (ay ps j).f0.f0.f0 (ay ps j).f0.f0.f1 (ay ps j).f0.f1 (ay ps j).f1.f0.f0 (ay ps j).f1.f0.f1 (ay ps j).f1.f1 p.f0.f0.f0 p.f0.f0.f1 p.f0.f1 p.f1.f0.f0 p.f1.f0.f1 p.f1.f1=some (if br=0 then (on i j,0) else (false,br))
attribute [local go_sem high] aiP
theorem atw (A0 A1 A2:Option Addr) (c0 n1 c1 c2:Nat) (ps:PS) (zs:List Int) (ss:SS) (w:World) (hA:mJ w A0 A1 A2 c0 c2 ps zs n1 ss) (hz:zs.length=3*n1) (K:Nat) (hK:pQ.f K ps=some 0) (bJ:Nat->Nat->Nat->Int) (hO:Kn K ps bJ) (hM:uG ps.length zs n1 ss bJ) (hl:ps.length<400/\n1<=898) (p:lA) (br:Int) (on:Nat->Nat->Bool) (hW:OnP K ps p on br) (t k:Int) :
  Calls Tryz.prog 16 #[.agg #[.slice A0 ps.length c0,.slice A1 n1 c1,.slice A2 ss.length c2],.int .i64 t,.int .i64 k,.agg (oQ p)] w fun e w'=>uS w (xO ps zs n1 ss (wT on ps p) br p t k) e w':=by
 obtain⟨n0,hn0⟩:∃ n,ps.length=n:=⟨_,rfl⟩
 obtain⟨n2,hn2⟩:∃ n,ss.length=n:=⟨_,rfl⟩
 have HL:=qh (show n0<400/\n1<=898/\n2<=1300 from ⟨hn0 ▸ hl.1,hl.2,hn2 ▸ hM.l2⟩);have jF:=qh (RP.new w A0 A1 A2 n0 c0 n1 c1 n2 c2 p);have H0:=qh hn0;have H2:=qh hn2;have HZ:=qh hz;have HA:=qh hA;have HM:=qh hM;have HK:=qh hK;have HO:=qh hO;have HW:=qh hW;rw[hn0,hn2];clear hA hz hM hW hK hl hn0 hn2 hO;obtain⟨g,hg⟩:∃ g,w.heap.size=g:=⟨_,rfl⟩
 have HG:=qh hg;rw[hg]at jF
 go_enter Tryz.func16,Tryz.ntmps16;go_upto_region 1 with fail
 rw[show(#[.slice none 0 0,.slice none 0 0,.slice none 0 0]:Array Value)=fI from rfl];generalize (((w.alloc (.cells #[.slice A0 n0 c0,.slice A1 n1 c1,.slice A2 n2 c2] 26)).alloc (.cells (oQ p) 42)).alloc (.cells fI 26))=w1 at jF ⊢;have q0:=jF.out.box.b0;have q1:=jF.out.box.b1;have q2:=jF.out.box.b2;have yj:=qh (U3 A0 A1 A2 c0 n1 c1 c2 ps zs ss w1 (HA.out.below jF.out.box.below HG.out.symm) K HK.out bJ HO.out HM.out);rw[H0.out,H2.out]at yj
 go_wp2_with (refine yj.out.mono ?_;rintro e w2 ⟨kb,B,rfl,hkb,hB,hmp,e0,e1,e2,e3,hb⟩;refine Stop.out ?_)
 refine⟨?_⟩;have gY:=qh (jF.out.step hb);have fL:=qh e1;have Ad:=qh e3;have Ei:=qh hmp;clear hb hmp hB yj jF q0 q1 q2 e0 e1 e2 e3 hkb HK HO;cases hB:qm n1 t k with
 | false =>
  have pN:=qh (UY kb A1 n1 c1 w2 fL.out t k hB);have eU:=qh (show xO ps zs n1 ss (wT on ps p) br p t k=lT 1 from if_neg (by rw[hB];decide));go_wp2_with (refine pN.out.mono ?_;rintro e w3 ⟨rfl,hb⟩;refine Stop.out ?_)
  refine⟨?_⟩;have eG:=qh (gY.out.step hb);have ir:=qh (eG.out.step ((Below.refl w3.heap.size w3).alloc (Nat.le_refl _) (.cells #[.int .i64 0,.int .i64 0] 66)));clear hb pN gY hB eG Ei fL Ad;go_upto_region 6 with fail
  generalize (w3.alloc (.cells #[.int .i64 0,.int .i64 0] 66))=w4 at ir ⊢;obtain⟨b0,b1,b2,b3,b4,b5⟩:=z3 ir.out.br;go_wp2_with (refine sx (p:=8) (u:=9) (g:=g+2) (cs:=fI) (v := .int .i64 1) ?_ ?_ ?_ (ir.out.bad HG.out 1).1 Tryz.underlying26 ?_ ?_ ?_ ?_;exact(by kernel_rfl);exact(by kernel_rfl);exact(by kernel_rfl);rfl;exact(by kernel_rfl);rfl;rw[eU.out];exact(ir.out.bad HG.out 1).2)
 | true =>
  have hR:=hB;unfold qm at hR;simp only[Bool.and_eq_true,decide_eq_true_eq]at hR;obtain⟨⟨⟨a1,a2⟩,a3⟩,a4⟩:=hR;obtain⟨T,rfl⟩:=Int.eq_ofNat_of_zero_le a1;obtain⟨k,rfl⟩:=Int.eq_ofNat_of_zero_le a3;have hT:T<n1:=by omega
  have hk:k<=2:=by omega
  have HR:=qh (show xO ps zs n1 ss (wT on ps p) br p (T:Int) (k:Int)=_ from if_pos hB);simp only[Int.toNat_natCast]at HR;have gJ:=qh (HA.out.below gY.out.box.below HG.out.symm);have hpk:=VG kb A1 n1 c1 zs w2 fL.out gJ.out.t T k hT hk (by have:=HL.out;omega);have HT:=qh hT;have mB:=qh hk;have fc:=HM.out.inr (j:=3*T+k) qo;have fM:=HM.out.inr (j:=3*T+nx k) (by unfold nx;split <;> omega);have mW:=HM.out.inr (j:=3*T+px k) (by unfold px;split <;> omega);rw[H0.out]at fc fM mW
  obtain⟨na,jx⟩:∃ x:Nat,zs.getD (3*T+k) 0=x:=⟨_,(Int.toNat_of_nonneg fc.1).symm⟩
  obtain⟨nb,jy⟩:∃ x:Nat,zs.getD (3*T+nx k) 0=x:=⟨_,(Int.toNat_of_nonneg fM.1).symm⟩
  obtain⟨nc,mS⟩:∃ x:Nat,zs.getD (3*T+px k) 0=x:=⟨_,(Int.toNat_of_nonneg mW.1).symm⟩
  simp only[jx,jy,mS,H0.out,Int.toNat_natCast]at HR;rw[jx]at fc
  rw[jy]at fM
  rw[mS]at mW
  rw[jx,jy]at hpk
  have pN:=qh hpk;have N7:=qh mS;have eR:=qh (show na<n0/\nb<n0/\nc<n0 by omega);clear jx jy mS fc fM mW hT hk a1 a2 a3 a4 hB hpk gJ;go_wp2_with (refine pN.out.mono ?_;rintro e Kq ⟨rfl,hb⟩;refine Stop.out ?_)
  refine⟨?_⟩;have dA:=hb.trans (((Below.refl Kq.heap.size Kq).alloc (Nat.le_refl _) (.cells #[.int .i64 (na:Int),.int .i64 (nb:Int)] 66)).mono hb.size)
  have eG:=qh (show FC g kb B Kq.heap.size w A0 A1 A2 n0 c0 n1 c1 n2 c2 p zs na nb (Kq.alloc (.cells #[.int .i64 (na:Int),.int .i64 (nb:Int)] 66)) from
   ⟨gY.out.step dA,Ei.out.below dA Ei.out.lt,(dA.cell (ql fL.out)).trans fL.out,(dA.cell (ql Ad.out)).trans Ad.out,⟨iw _ _⟩⟩)
  clear hb dA pN gY fL Ad Ei;go_upto_region 7 with fail
  generalize (Kq.alloc (.cells #[.int .i64 (na:Int),.int .i64 (nb:Int)] 66))=w3 at eG ⊢;generalize Kq.heap.size=eb at eG ⊢;obtain⟨E0,E1,_,_⟩:=z2 eG.out.e;have B9:=cL E0;have B_:=cL E1;clear E0 E1;refine yJ w3 qk qk ?_;repeat(go_big_quiet_step (fail))
  refine wpQuiet_nil ?_;intro w4 hw';have hw4:Below w3.heap.size w3 w4:=by obtain⟨q,rfl⟩:=hw';exact q.h
  clear hw' B9 B_;have ir:=qh (eG.out.step hw4);clear eG hw4;go_upto_region 8 with fail
  have HP:=qh (HA.out.below ir.out.f.box.below HG.out.symm).p;rw[H0.out]at HP
  obtain⟨Ag,rfl,-⟩:=oB HP.out (na:Int) qo (by have:=eR.out;omega);have Cb:=HW.out na nb (by rw[H0.out];exact eR.out.1) (by rw[H0.out];exact eR.out.2.1);obtain⟨bb,mD⟩:∃ x,wT on ps p na nb=x:=⟨_,rfl⟩
  simp only[mD]at HR;unfold wT at mD;generalize on na nb=ov at Cb mD;generalize h1:Hl p (ay ps na)=e1 at mD;generalize h2:Hl p (ay ps nb)=e2 at mD;have rI:=qh mD;have HE1:=qh h1;have HE2:=qh h2;clear mD h1 h2;obtain⟨r1,r2,uD⟩:∃ (r1:Bool) (r2:Int),(if br=0 then (ov,(0:Int)) else (false,br))=(r1,r2):=⟨_,_,rfl⟩
  rw[uD]at Cb
  have SX:=qh uD;clear uD;have yh:=qh (fun W (hW:Below w4.heap.size w4 W)=>Fq.calls K _ _ _ _ _ _ _ _ _ _ _ _ _ _ _ _ _ _ _ _ W Cb);clear Cb;obtain⟨D0,D1,D2,D3,D4,D5⟩:=uV HP.out na eR.out.1;obtain⟨P0,P1,P2,P3,P4,P5⟩:=uV HP.out nb eR.out.2.1;obtain⟨E0,E1,E2,E3,E4,E5,_,_,_,_,_,_⟩:=z6 ir.out.f.bp;have Q0:=ir.out.f.box.b0;have q0:=cL Q0;have jQ:=cL D0;have tM:=cL D1;have d2':=cL D2;have d3':=cL D3;have d4':=cL D4;have d5':=cL D5;have p0':=cL P0;have p1':=cL P1;have p2':=cL P2;have p3':=cL P3;have p4':=cL P4;have p5':=cL P5;have B9:=cL E0;have B_:=cL E1;have Oa:=cL E2;have e3':=cL E3;have e4':=cL E4;have e5':=cL E5;have x2:((nb:Int)<(n0:Int))=True:=eq_true (by have:=eR.out;omega);have x4:((na:Int)<(n0:Int))=True:=eq_true (by have:=eR.out;omega);have y2:(nb<n0)=True:=eq_true eR.out.2.1;have y4:(na<n0)=True:=eq_true eR.out.1;clear D0 D1 D2 D3 D4 D5 P0 P1 P2 P3 P4 P5 E0 E1 E2 E3 E4 E5 Q0;refine yJ w4 qk qk ?_;repeat(go_big_quiet_step ((go_at_call 41;with_reducible exact PV yh.out _)))
  refine wpQuiet_nil ?_;intro w5 hw';have ZO:Below w4.heap.size w4 w5:=by obtain⟨q,rfl⟩:=hw';exact q.h
  clear hw';have j8:=qh (ir.out.step ZO);clear ir ZO HP yh q0 jQ tM d2' d3' d4' d5' p0' p1' p2' p3' p4' p5' B9 B_ Oa e3' e4' e5';by_cases hbr:br=0
  ·subst hbr
   have uD:=SX.out;rw[if_pos rfl]at uD
   injection uD with h1 h2
   subst h1 h2;have oO:=qh (HR.out.trans (if_pos rfl));clear HR SX HW;go_upto_region 11 with fail
   go_cut [68] (fun a wx=>a = .bool bb/\Hid (Below w5.heap.size w5 wx))
   case first =>
    have HP:=qh (HA.out.below j8.out.f.box.below HG.out.symm).p;rw[H0.out]at HP
    obtain⟨D0,D1,D2,D3,D4,D5⟩:=uV HP.out na eR.out.1;obtain⟨P0,P1,P2,P3,P4,P5⟩:=uV HP.out nb eR.out.2.1;obtain⟨E0,E1,E2,E3,E4,E5,_,_,_,_,_,_⟩:=z6 j8.out.f.bp;have Q0:=j8.out.f.box.b0;have q0:=cL Q0;have jQ:=cL D0;have tM:=cL D1;have d2':=cL D2;have d3':=cL D3;have d4':=cL D4;have d5':=cL D5;have p0':=cL P0;have p1':=cL P1;have p2':=cL P2;have p3':=cL P3;have p4':=cL P4;have p5':=cL P5;have B9:=cL E0;have B_:=cL E1;have Oa:=cL E2;have e3':=cL E3;have e4':=cL E4;have e5':=cL E5;have h1:=HE1.out;have h2:=HE2.out;clear D0 D1 D2 D3 D4 D5 P0 P1 P2 P3 P4 P5 E0 E1 E2 E3 E4 E5 Q0 HP;cases ov with
    | false =>
     refine yJ w5 qk qk ?_;repeat(go_big_quiet_step (fail))
     refine wpQuiet_nil ?_;intro _ hw';obtain⟨p,rfl⟩:=hw';go_wp2
     go_meet
     exact⟨by rw[<- rI.out];rfl,qh p.h⟩
    | true =>
     cases e1 with
     | true =>
      refine yJ w5 qk qk ?_;repeat(go_big_quiet_step (fail))
      refine wpQuiet_nil ?_;intro _ hw';obtain⟨p,rfl⟩:=hw';go_wp2
      go_meet
      exact⟨by rw[<- rI.out];rfl,qh p.h⟩
     | false =>
      refine yJ w5 qk qk ?_;repeat(go_big_quiet_step (fail))
      refine wpQuiet_nil ?_;intro _ hw';obtain⟨p,rfl⟩:=hw';go_wp2
      go_meet
      exact⟨by rw[<- rI.out];rfl,qh p.h⟩
   case rest =>
    obtain⟨rfl,uE⟩:=hcut;have lu:=qh (j8.out.step uE.out);clear j8 uE rI HE1 HE2;generalize wc=w6 at lu ⊢;cases bb with
    | true =>
     have eU:=qh (oO.out.trans (if_pos rfl));obtain⟨b0,b1,b2,b3,b4,b5⟩:=z3 lu.out.f.br;go_wp2_with (refine sx (p:=8) (u:=9) (g:=g+2) (cs:=fI) (v := .int .i64 7) ?_ ?_ ?_ (lu.out.f.bad HG.out 7).1 Tryz.underlying26 ?_ ?_ ?_ ?_;exact(by kernel_rfl);exact(by kernel_rfl);exact(by kernel_rfl);rfl;exact(by kernel_rfl);rfl;rw[eU.out];exact(lu.out.f.bad HG.out 7).2)
    | false =>
     have Cc:=qh (oO.out.trans (if_neg qd));clear oO;have q0:=lu.out.f.box.b0;have q1:=lu.out.f.box.b1;have q2:=lu.out.f.box.b2;have Od:=qh (apN (some Ag) A1 A2 n0 c0 n1 c1 n2 c2 w6 HL.out.1 HL.out.2.1);go_wp2_with (refine Od.out.mono ?_;rintro e w7 ⟨rfl,hb⟩;refine Stop.out ?_)
     refine⟨?_⟩;have iN:=qh (lu.out.step hb);clear lu hb Od q0 q1 q2;go_upto_region 15 with fail
     have Hi:=qh (fun W (hW:T3 w7 ⟨g,0,none⟩ ⟨g,1,none⟩ ⟨g,2,none⟩ (.slice (some Ag) n0 c0) (.slice A1 n1 c1) (.slice A2 n2 c2) W)=>aeI (some Ag) A1 A2 c0 n1 c1 c2 ps zs ss W (HA.out.below (iN.out.step hW.2.2.2).f.box.below HG.out.symm) HZ.out (by rw[H0.out,H2.out];have:=HL.out;omega));rw[H0.out,H2.out]at Hi
     have dI:T3 w7 ⟨g,0,none⟩ ⟨g,1,none⟩ ⟨g,2,none⟩ (.slice (some Ag) n0 c0) (.slice A1 n1 c1) (.slice A2 n2 c2) w7:=⟨iN.out.f.box.b0,iN.out.f.box.b1,iN.out.f.box.b2,Below.refl _ _⟩
     have HJ:=qh (fun j (hj:bV zs (nb:Int) (na:Int) (3*n1)=some j)=>(Ex hj).1);generalize hfo:bV zs (nb:Int) (na:Int) (3*n1)=fo at Cc HJ;have Ej:=qh hfo;clear hfo;go_cut [16,17] (fun a b wx=>∃ (o bs:Nat) (B0:Option Addr) (d0 g1 k1:Nat) (B2:Option Addr) (d2:Nat),a = .pointer (some ⟨o,0,none⟩)/\b = .int .i64 (n0:Int)/\Hid (TJ o bs w7 #[.slice B0 n0 d0,.slice (some ⟨g1,0,none⟩) n1 k1,.slice B2 n2 d2] (.slice B0 n0 d0) (.slice (some ⟨g1,0,none⟩) n1 k1) (.slice B2 n2 d2) ps zs n1 ss wx))
     case first =>
      go_region_held3 (T3 w7 ⟨g,0,none⟩ ⟨g,1,none⟩ ⟨g,2,none⟩ (.slice (some Ag) n0 c0) (.slice A1 n1 c1) (.slice A2 n2 c2)) (first|assumption|exact ao2 (by assumption)|exact alf _ (by assumption)|exact apO dI (by assumption) (Nat.le_refl _) _ _ _) (first|(go_at_call 31;refine(Hi.out _ (by assumption)).mono ?_;rintro e wn ⟨v0,v1,v2,rfl,gQ,jv⟩;have hS1:=ac_ jv (by assumption);obtain⟨g1,k1,rfl⟩:=gQ.blk (by have:=HT.out;omega);obtain⟨B0,d0,B1,d1,B2,d2,rfl,-,rfl,-,-⟩:=gQ.args;rw[H0.out,H2.out]at gQ ⊢;first|(have p0:=(jv.cell (p:=⟨w7.heap.size,0,none⟩) (by simp)).trans (show(World.alloc w7 (.cells #[.slice none 0 0,.slice none 0 0,.slice none 0 0] 26)).cell? ⟨w7.heap.size,0,none⟩=some (.slice none 0 0) by simp[go_sem]);have p1:=(jv.cell (p:=⟨w7.heap.size,1,none⟩) (by simp)).trans (show(World.alloc w7 (.cells #[.slice none 0 0,.slice none 0 0,.slice none 0 0] 26)).cell? ⟨w7.heap.size,1,none⟩=some (.slice none 0 0) by simp[go_sem]);have p2:=(jv.cell (p:=⟨w7.heap.size,2,none⟩) (by simp)).trans (show(World.alloc w7 (.cells #[.slice none 0 0,.slice none 0 0,.slice none 0 0] 26)).cell? ⟨w7.heap.size,2,none⟩=some (.slice none 0 0) by simp[go_sem]);have p3:=(jv.frozen (p:=⟨w7.heap.size,0,none⟩) (by simp)).trans (show(World.alloc w7 (.cells #[.slice none 0 0,.slice none 0 0,.slice none 0 0] 26)).frozen? ⟨w7.heap.size,0,none⟩=false by simp[go_sem]);have p4:=(jv.frozen (p:=⟨w7.heap.size,1,none⟩) (by simp)).trans (show(World.alloc w7 (.cells #[.slice none 0 0,.slice none 0 0,.slice none 0 0] 26)).frozen? ⟨w7.heap.size,1,none⟩=false by simp[go_sem]);have p5:=(jv.frozen (p:=⟨w7.heap.size,2,none⟩) (by simp)).trans (show(World.alloc w7 (.cells #[.slice none 0 0,.slice none 0 0,.slice none 0 0] 26)).frozen? ⟨w7.heap.size,2,none⟩=false by simp[go_sem]))|skip)|fail)
      all_goals go_wp2
      all_goals go_meet
      all_goals first
       | exact⟨_,_,_,_,_,_,_,_,rfl,rfl,qh (TJ.new1 (b:=0) (Below.refl _ _).drew jv gQ)⟩
       | exact⟨_,_,_,_,_,_,_,_,rfl,rfl,qh (TJ.new2 jv gQ ((Below.refl w7.heap.size w7).alloc (Nat.le_refl _) _).drew (eB (iw _ _)) (Nat.le_refl _))⟩
     case rest =>
      obtain⟨o,b,B0,d0,g1,k1,B2,d2,rfl,rfl,HS⟩:=hcut;clear Hi dI;generalize wc=w9 at HS ⊢;have Ce:=qh (HS.out.al (.cells (oQ p) 42));have HN:=qa (iw w9 (.cells (oQ p) 42));obtain⟨cs0,dm,kH⟩:=Ce.out.om.p;have Hr:=kH;rw[H0.out]at Hr
      have eN:=qh dm;have Oe:=qh kH;have qj:=qh Hr;clear dm kH Hr;obtain⟨z0,z1,z2,z3,z4,z5⟩:=Go.Proofs.aA.Z.z3 HS.out.bo;obtain⟨p0,p1,p2,p3,p4,p5,p6,p7,p8,p9,Ho,Hp⟩:=z6 (iN.out.step HS.out.bl).f.bp;go_upto_region 17 with (first|(at_builtin;refine CW rfl (.tmp 101) (.tmp 103) 22 42 rfl (.agg #[.bool false,.string ⟨#[]⟩,.string ⟨#[]⟩,.bool false,.string ⟨#[]⟩,.string ⟨#[]⟩]) 6 80 Tryz.underlying22 qk rfl qd (.slice B0 n0 d0) n0 cs0 rfl ⟨w9.heap.size,0,none⟩ 1 1 rfl (oQ p).toList qj.out Ce.out.hz rfl (CP HN.out) (fun u hu=>dX.sy (yT w9 p) u hu) (by have:=HL.out;omega) (by have:=HL.out;simp only[maxLen];omega) ?_;intro lB jQ gI O0 G0;have jA:=qh (Ce.out.YR (v' := .slice lB (n0+1) jQ) Oe.out eN.out (yT _ p) rfl (by rw[H0.out];exact O0.out) G0.out);clear z0 z1 z2 z3 z4 z5 p0 p1 p2 p3 p4 p5 p6 p7 p8 p9 Ho Hp;obtain⟨z0,z1,z2,z3,z4,z5⟩:=Go.Proofs.aA.Z.z3 jA.out.bo)|fail)
      have wU:=qh (show TJ o b w7 #[.slice lB (n0+1) jQ,.slice (some ⟨g1,0,none⟩) n1 k1,.slice B2 n2 d2] (.slice lB (n0+1) jQ) (.slice (some ⟨g1,0,none⟩) n1 k1) (.slice B2 n2 d2) (ps++[p]) zs n1 ss _ from jA.out.st 0 (.slice lB (n0+1) jQ));clear HS Ce HN eN Oe qj jA O0 G0 z0 z1 z2 z3 z4 z5;generalize (gI.setCell ⟨o,0,none⟩ (.slice lB (n0+1) jQ))=lV at wU ⊢;have tN:=qh (iN.out.step wU.out.bl);have Ht:=O_ kb A1 n1 c1 zs lV tN.out.k1 (HA.out.below tN.out.f.box.below HG.out.symm).t T k HT.out mB.out (by have:=HL.out;omega);rw[N7.out]at Ht
      have Og:=qh Ht;clear Ht;go_wp2_with (refine Og.out.mono ?_;rintro e avd ⟨rfl,hb⟩;refine Stop.out ?_)
      refine⟨?_⟩;have JX:=qh (wU.out.step hb);clear hb Og tN wU;have v3:((T:Int)<(n1:Int))=True:=eq_true (by have:=HT.out;omega);have v4:(T<n1)=True:=eq_true HT.out;have v5:((0:Int)<=(T:Int))=True:=eq_true qo;have gy:¬ g1=o:=by obtain⟨-,c,hc,-⟩:=AH JX.out.om.t;exact y9 hc JX.out.bo.out qd
      have iV:¬ o=g1:=fun e=>gy e.symm;obtain⟨z0,z1,z2,z3,z4,z5⟩:=Go.Proofs.aA.Z.z3 JX.out.bo;obtain⟨yt,yu,yw,yx,yy,yz,yA,yB,yC⟩:=Iw JX.out.om.t HT.out;go_upto_region 19 with fail
      have qL:=qh (JX.out.Gs HT.out na n0 nc);clear JX z0 z1 z2 z3 z4 z5 yt yu yw yx yy yz yA yB yC gy iV v3 v4 v5;generalize (((avd.setCell ⟨g1,T*3,none⟩ (.int .i64 (na:Int))).setCell ⟨g1,T*3+1,none⟩ (.int .i64 (n0:Int))).setCell ⟨g1,T*3+2,none⟩ (.int .i64 (nc:Int)))=gh at qL ⊢;have qM:=qh (qL.out.al (.cells #[.int .i64 (n0:Int),.int .i64 (nb:Int),.int .i64 (nc:Int)] 61));have HN:=qa (iw gh (.cells #[.int .i64 (n0:Int),.int .i64 (nb:Int),.int .i64 (nc:Int)] 61));obtain⟨z0,z1,z2,z3,z4,z5⟩:=Go.Proofs.aA.Z.z3 qL.out.bo;go_upto_region 20 with (first|(at_builtin;refine CW rfl (.tmp 120) (.tmp 125) 23 61 rfl (.agg #[.int .i64 0,.int .i64 0,.int .i64 0]) 3 24 Tryz.underlying23 qk rfl qd (.slice (some ⟨g1,0,none⟩) n1 k1) n1 (ko (uR zs T na n0 nc)) rfl ⟨gh.heap.size,0,none⟩ 1 1 rfl (ko [(n0:Int),nb,nc]) qM.out.om.t qM.out.hz rfl (CP HN.out) (Hx _) (by have:=HL.out;omega) (by have:=HL.out;simp only[maxLen];omega) ?_;intro B1' tM oP O0 G0;have jA:=qh (qM.out.M9 O0.out G0.out);clear z0 z1 z2 z3 z4 z5;obtain⟨z0,z1,z2,z3,z4,z5⟩:=Go.Proofs.aA.Z.z3 jA.out.bo)|fail)
      obtain⟨g3,k3,he⟩:=jA.out.om.blk (Nat.succ_pos _);injection he with yD Cf yE
      subst yD yE;have rJ:=qh (show TJ o b w7 #[.slice lB (n0+1) jQ,.slice (some ⟨g3,0,none⟩) (n1+1) tM,.slice B2 n2 d2] (.slice lB (n0+1) jQ) (.slice (some ⟨g3,0,none⟩) (n1+1) tM) (.slice B2 n2 d2) (ps++[p]) (vD zs T na nb nc n0) (n1+1) ss _ from jA.out.st 1 (.slice (some ⟨g3,0,none⟩) (n1+1) tM));clear qL qM HN jA O0 G0 z0 z1 z2 z3 z4 z5 Cf;generalize (oP.setCell ⟨o,1,none⟩ (.slice (some ⟨g3,0,none⟩) (n1+1) tM))=iq at rJ ⊢;have tN:=qh (iN.out.step rJ.out.bl);have wa:W6 (na:Int):=vn qo (by have:=HL.out;have:=eR.out;omega);have wb:W6 (nb:Int):=vn qo (by have:=HL.out;have:=eR.out;omega);have vH:=qh (fun W=>Qh (na:Int) (nb:Int) W);have hlk:∀ W,Below iq.heap.size iq W->_:=fun W hW=>(tN.out.step hW).m.look wb wa;obtain⟨E0,E1,_,_⟩:=z2 tN.out.e;have dI:S3 iq ⟨kb,3,none⟩ ⟨eb,0,none⟩ ⟨eb,1,none⟩ (.map (some B)) (.int .i64 (na:Int)) (.int .i64 (nb:Int)) iq:=⟨tN.out.k3,E0,E1,Below.refl _ _⟩
      rw[Ej.out]at hlk
      obtain⟨s1,hs1⟩:∃ x,sT fo=x:=⟨_,rfl⟩
      obtain⟨s2,hs2⟩:∃ x,sK fo=x:=⟨_,rfl⟩
      obtain⟨s3,hs3⟩:∃ x,fo.isSome=x:=⟨_,rfl⟩
      rw[hs1,hs2,hs3]at hlk
      have X1:=qh hs1;have X2:=qh hs2;have X3:=qh hs3;clear hs1 hs2 hs3 wa wb E0 E1;go_cut [19,20] (fun a b wx=>∃ h:Nat,a = .pointer (some ⟨h,0,none⟩)/\b = .bool s3/\Hid ((iq.heap.size<=h/\Below iq.heap.size iq wx)/\wx.cell? ⟨h,0,none⟩=some (.int .i64 s1)/\wx.cell? ⟨h,1,none⟩=some (.int .i64 s2)))
      case first =>
       go_region_held3 (S3 iq ⟨kb,3,none⟩ ⟨eb,0,none⟩ ⟨eb,1,none⟩ (.map (some B)) (.int .i64 (na:Int)) (.int .i64 (nb:Int))) (first|assumption|exact IX (by assumption)|exact U5 _ (by assumption)|exact VU dI hS1 (Nat.le_refl _) _ _) (first|(go_at_call 27;refine(vH.out _).mono ?_;rintro e wn ⟨rfl,hbr⟩;have hS1:=PU hbr (by assumption);first|(have p0:=(hbr.cell (p:=⟨iq.heap.size,0,none⟩) (by simp)).trans (show(World.alloc iq (.cells #[.int .i64 0,.int .i64 0] 70)).cell? ⟨iq.heap.size,0,none⟩=some (.int .i64 0) by simp[go_sem]);have p1:=(hbr.cell (p:=⟨iq.heap.size,1,none⟩) (by simp)).trans (show(World.alloc iq (.cells #[.int .i64 0,.int .i64 0] 70)).cell? ⟨iq.heap.size,1,none⟩=some (.int .i64 0) by simp[go_sem]);have p2:=(hbr.frozen (p:=⟨iq.heap.size,0,none⟩) (by simp)).trans (show(World.alloc iq (.cells #[.int .i64 0,.int .i64 0] 70)).frozen? ⟨iq.heap.size,0,none⟩=false by simp[go_sem]);have p3:=(hbr.frozen (p:=⟨iq.heap.size,1,none⟩) (by simp)).trans (show(World.alloc iq (.cells #[.int .i64 0,.int .i64 0] 70)).frozen? ⟨iq.heap.size,1,none⟩=false by simp[go_sem]))|skip;clear hbr)|fail)
       all_goals go_wp2
       all_goals go_meet
       all_goals refine⟨_,rfl,rfl,qh ⟨⟨?_,(show S3 iq ⟨kb,3,none⟩ ⟨eb,0,none⟩ ⟨eb,1,none⟩ (.map (some B)) (.int .i64 (na:Int)) (.int .i64 (nb:Int)) _ from by first|assumption|exact IX (by assumption)).2.2.2⟩,?_,?_⟩⟩
       all_goals first|exact Nat.le_refl _|exact hS1.2.2.2.size|(simp[go_sem];done)|(simp[go_sem,p0,p1,p2,p3];done)
      case rest =>
       obtain⟨h,rfl,rfl,HU0⟩:=hcut;have Kr:=qh (rJ.out.step HU0.out.1.2);have HD:=qh HU0.out.2;clear HU0 rJ tN dI hlk vH;generalize wc=ave at Kr HD ⊢;go_upto_if 138 with fail
       go_cut [21] (fun _ wx=>∃ (g4 k4:Nat),Hid (TJ o b w7 #[.slice lB (n0+1) jQ,.slice (some ⟨g4,0,none⟩) (o_ fo n1) k4,.slice B2 n2 d2] (.slice lB (n0+1) jQ) (.slice (some ⟨g4,0,none⟩) (o_ fo n1) k4) (.slice B2 n2 d2) (ps++[p]) (Bw zs fo (vD zs T na nb nc n0) na nb n0) (o_ fo n1) ss wx))
       case first =>
        cases fo with
        | none =>
         obtain rfl:false=s3:=X3.out;go_wp2
         go_meet
         exact⟨_,_,Kr⟩
        | some j =>
         obtain rfl:true=s3:=X3.out;obtain⟨jt,hjt⟩:∃ x,j / 3=x:=⟨_,rfl⟩
         obtain⟨jk,hjk⟩:∃ x,j%3=x:=⟨_,rfl⟩
         obtain rfl:(jt:Int)=s1:=by rw[<- hjt];exact X1.out
         obtain rfl:(jk:Int)=s2:=by rw[<- hjk];exact X2.out
         have vO:=qh (show j<3*n1/\jt<n1/\jk<=2 by have:=HJ.out j rfl;omega);have vN:=qh hjt;have Af:=qh hjk;clear hjt hjk HJ X1 X2 X3;obtain⟨xd,ym⟩:∃ x,zs.getD (3*jt+px jk) 0=x:=⟨_,rfl⟩
         have BZ:=qh ym;have qp:=qh (iN.out.step Kr.out.bl);have Ht:=O_ kb A1 n1 c1 zs ave qp.out.k1 (HA.out.below qp.out.f.box.below HG.out.symm).t jt jk vO.out.2.1 vO.out.2.2 (by have:=HL.out;omega);rw[ym]at Ht
         have Og:=qh Ht;have h0:=HD.out.1;have h1:=HD.out.2;clear ym Ht qp;go_wp2_with (refine Og.out.mono ?_;rintro e avf ⟨rfl,hb⟩;refine Stop.out ?_)
         refine⟨?_⟩;have Hu:=qh (Kr.out.step hb);have HH:=qh ((hb.cell (ql HD.out.1)).trans HD.out.1);clear hb Og Kr HD h0 h1;go_upto_region 23 with fail
         have h0:=HH.out;have v5:((0:Int)<=(jt:Int))=True:=eq_true qo;generalize hm:n1+1=m1 at Hu ⊢;have Cg:=qh (show jt<m1 by have:=vO.out;omega);have fc:=qh hm;clear hm;have v3:((jt:Int)<(m1:Int))=True:=eq_true (by have:=Cg.out;omega);have v4:(jt<m1)=True:=eq_true Cg.out;have gy:¬ g3=o:=by obtain⟨-,c,hc,-⟩:=AH Hu.out.om.t;exact y9 hc Hu.out.bo.out qd
         have iV:¬ o=g3:=fun e=>gy e.symm;obtain⟨z0,z1,z2,z3,z4,z5⟩:=Go.Proofs.aA.Z.z3 Hu.out.bo;obtain⟨yt,yu,yw,yx,yy,yz,yA,yB,yC⟩:=Iw Hu.out.om.t (t:=jt) Cg.out;go_upto_region 24 with fail
         have qL:=qh (Hu.out.Gs (t:=jt) Cg.out nb n0 xd);clear Hu z0 z1 z2 z3 z4 z5 yt yu yw yx yy yz yA yB yC gy iV v3 v4 v5;generalize (((avf.setCell ⟨g3,jt*3,none⟩ (.int .i64 (nb:Int))).setCell ⟨g3,jt*3+1,none⟩ (.int .i64 (n0:Int))).setCell ⟨g3,jt*3+2,none⟩ (.int .i64 xd))=tH at qL ⊢;have qM:=qh (qL.out.al (.cells #[.int .i64 (n0:Int),.int .i64 (na:Int),.int .i64 (xd:Int)] 61));have HN:=qa (iw tH (.cells #[.int .i64 (n0:Int),.int .i64 (na:Int),.int .i64 (xd:Int)] 61));obtain⟨z0,z1,z2,z3,z4,z5⟩:=Go.Proofs.aA.Z.z3 qL.out.bo;go_wp2_with (first|(at_builtin;refine CW rfl (.tmp 152) (.tmp 157) 23 61 rfl (.agg #[.int .i64 0,.int .i64 0,.int .i64 0]) 3 24 Tryz.underlying23 qk rfl qd (.slice (some ⟨g3,0,none⟩) m1 tM) m1 (ko (uR (vD zs T na nb nc n0) jt nb n0 xd)) rfl ⟨tH.heap.size,0,none⟩ 1 1 rfl (ko [(n0:Int),na,xd]) qM.out.om.t qM.out.hz rfl (CP HN.out) (Hx _) (by have:=HL.out;have:=fc.out;omega) (by have:=HL.out;have:=fc.out;simp only[maxLen];omega) ?_;intro B4 d4 wQ O0 G0;have jA:=qh (qM.out.M9 O0.out G0.out);clear z0 z1 z2 z3 z4 z5;obtain⟨z0,z1,z2,z3,z4,z5⟩:=Go.Proofs.aA.Z.z3 jA.out.bo)|fail)
         go_meet
         obtain⟨g4,k4,he⟩:=jA.out.om.blk (Nat.succ_pos _);injection he with yD Cf yE
         subst yD yE;obtain rfl:=fc.out;refine⟨g4,d4,qh ?_⟩;have hU:Bw zs (some j) (vD zs T na nb nc n0) na nb n0=uR (vD zs T na nb nc n0) jt nb n0 xd++[(n0:Int),na,xd]:=by
          unfold Bw;rw[<- BZ.out,<- vN.out,<- Af.out]
         rw[hU];exact jA.out.st 1 (.slice (some ⟨g4,0,none⟩) (n1+2) d4)
       case rest =>
        obtain⟨g4,k4,HU⟩:=hcut;clear Kr HJ HD X1 X2 X3;generalize wc=Ee at HU ⊢;have tN:=qh (iN.out.step HU.out.bl);have tK:=qh (acY (some Ag) A1 A2 n0 c0 n1 c1 n2 c2 ss na nb Ee (by have:=(HA.out.below tN.out.f.box.below HG.out.symm).s;rw[H2.out]at this;exact this) H2.out (by have:=HL.out;omega));rw[show lG (lY ss na nb) n2=lG (lY ss na nb) ss.length by rw[H2.out],show oI (lG (lY ss na nb) ss.length)=pM ss na nb from rfl]at tK
        have hlt:=adR (ss:=ss) (a:=na) (b:=nb);rw[H2.out]at hlt
        generalize pM ss na nb=sg at Cc tK hlt;have dx:=qh hlt;have q0:=tN.out.f.box.b0;have q1:=tN.out.f.box.b1;have q2:=tN.out.f.box.b2;obtain⟨E0,E1,_,_⟩:=z2 tN.out.e;clear hlt;go_wp2_with (refine tK.out.mono ?_;rintro e vL ⟨rfl,hb⟩;refine Stop.out ?_)
        refine⟨?_⟩;have HV:=qh (HU.out.step hb);clear hb tK HU q0 q1 q2 E0 E1 tN;by_cases hq:0<=sg
        ·obtain⟨i,rfl⟩:=Int.eq_ofNat_of_zero_le hq
         have e1:decide ((0:Int)<=(i:Int))=true:=decide_eq_true hq;have HI:=qh (show i<n2 by have:=dx.out hq;omega);have pG:=qh (show GC ss (i:Int) n0=ss.set i ⟨(bH ss i).f0,n0,(bH ss i).f2⟩++[⟨n0,(bH ss i).f1,(bH ss i).f2⟩] from if_pos hq);clear hq dx;obtain⟨s0,s1,s2,hs⟩:∃ a b c,bH ss i=⟨a,b,c⟩:=⟨_,_,_,rfl⟩
         have qp:=qh (iN.out.step HV.out.bl).f;have hs2:=(HA.out.below qp.out.box.below HG.out.symm).s;rw[H2.out]at hs2
         obtain⟨GQ,rfl,y0,y1,y2⟩:=mF hs2 (i:Int) qo (by have:=HI.out;omega);rw[show eC ss (i:Int)=⟨s0,s1,s2⟩ from hs]at y0 y1 y2
         rw[hs]at pG
         simp only[Int.toNat_natCast]at y0 y1 y2;have HSI:=qh hs;clear hs2 hs;have yl:=HV.out.seg;rw[H2.out]at yl
         rcases yl.2 with ⟨-,h0⟩|⟨g2,k2,cur,he,-,Kl,-⟩
         ·exfalso
          have:=HI.out;omega
         injection he with yD Cf yE
         subst yD yE;have Ca:=qh (gm Kl);clear yl Kl Cf;have q2:=qp.out.box.b2;have v3:((i:Int)<(n2:Int))=True:=eq_true (by have:=HI.out;omega);have v4:(i<n2)=True:=eq_true HI.out;have v5:((0:Int)<=(i:Int))=True:=eq_true qo;go_upto_region 28 with fail
         have vP:=qh (HV.out.al (.cells #[.int .i64 s0,.int .i64 s1,.bool s2] 55));have HQ:=qa (iw vL (.cells #[.int .i64 s0,.int .i64 s1,.bool s2] 55));clear HV q2 y0 y1 y2 qp;generalize (vL.alloc (.cells #[.int .i64 s0,.int .i64 s1,.bool s2] 55))=Ed at vP HQ ⊢;generalize vL.heap.size=q at HQ Ca ⊢;have hr:=vP.out.seg;rw[H2.out]at hr
         have gy:¬ g2=o:=by obtain⟨-,c,hc,-⟩:=AH hr;exact y9 hc vP.out.bo.out qd
         have iV:¬ o=g2:=fun e=>gy e.symm;have rH:¬ g2=q:=Nat.ne_of_lt Ca.out;have qK:¬ q=g2:=fun e=>rH e.symm;obtain⟨yt,yu,yw,yx,yy,yz,yA,yB,yC⟩:=Iw hr HI.out;clear hr;obtain⟨z0,z1,z2,z3,z4,z5⟩:=Go.Proofs.aA.Z.z3 vP.out.bo;obtain⟨y0,y1,y2,_,_,_⟩:=Go.Proofs.aA.Z.z3 HQ;go_upto_region 29 with fail
         have qG:=vP.out.att H2.out HI.out n0;rw[HSI.out]at qG
         have Ch:=qh qG;clear qG;have Hs:=qa (Go.Proofs.aB.aZ.dQ HQ.out (p:=⟨g2,i*3+1,none⟩) qK (.int .i64 (n0:Int)));clear vP HQ y0 y1 y2 yt yu yw yx yy yz yA yB yC gy iV rH qK v3 v4 v5 z0 z1 z2 z3 z4 z5;generalize (Ed.setCell ⟨g2,i*3+1,none⟩ (.int .i64 (n0:Int)))=wR at Ch Hs ⊢;have Ci:=qh (Ch.out.al (.cells #[.int .i64 (n0:Int),.int .i64 s1,.bool s2] 55));have HN:=qa (iw wR (.cells #[.int .i64 (n0:Int),.int .i64 s1,.bool s2] 55));have ho:=Ci.out.seg;rw[List.length_set,H2.out]at ho
         have Of:=qh ho;clear ho;obtain⟨z0,z1,z2,z3,z4,z5⟩:=Go.Proofs.aA.Z.z3 Ch.out.bo;obtain⟨y0,y1,y2,_,_,_⟩:=Go.Proofs.aA.Z.z3 Hs;go_upto_region 30 with (first|(at_builtin;refine CW rfl (.tmp 177) (.tmp 184) 24 55 rfl (.agg #[.int .i64 0,.int .i64 0,.bool false]) 3 24 Tryz.underlying24 qk rfl qd (.slice (some ⟨g2,0,none⟩) n2 d2) n2 (jZ (ss.set i ⟨s0,(n0:Int),s2⟩)) rfl ⟨wR.heap.size,0,none⟩ 1 1 rfl (jZ [⟨(n0:Int),s1,s2⟩]) Of.out Ci.out.hz rfl (CP HN.out) (Tj _) (by have:=HL.out;omega) (by have:=HL.out;simp only[maxLen];omega) ?_;intro B5 d5 tI O0 G0;have jA:=qh (Ci.out.aiO (s:=⟨(n0:Int),s1,s2⟩) (v' := .slice B5 (n2+1) d5) (by rw[List.length_set,H2.out];exact O0.out) G0.out);clear z0 z1 z2 z3 z4 z5 y0 y1 y2;obtain⟨z0,z1,z2,z3,z4,z5⟩:=Go.Proofs.aA.Z.z3 jA.out.bo)|fail)
         have HX:=qh (show TJ o b w7 #[.slice lB (n0+1) jQ,.slice (some ⟨g4,0,none⟩) (o_ fo n1) k4,.slice B5 (n2+1) d5] (.slice lB (n0+1) jQ) (.slice (some ⟨g4,0,none⟩) (o_ fo n1) k4) (.slice B5 (n2+1) d5) (ps++[p]) (Bw zs fo (vD zs T na nb nc n0) na nb n0) (o_ fo n1) _ _ from jA.out.st 2 (.slice B5 (n2+1) d5));clear Ch Hs Ci HN Of jA O0 G0 z0 z1 z2 z3 z4 z5;generalize (tI.setCell ⟨o,2,none⟩ (.slice B5 (n2+1) d5))=Ki at HX ⊢;obtain⟨z0,z1,z2,z3,z4,z5⟩:=Go.Proofs.aA.Z.z3 HX.out.bo;obtain⟨b0,b1,b2,b3,b4,b5⟩:=Go.Proofs.aA.Z.z3 (iN.out.step HX.out.bl).f.br;go_wp2_with (refine sx (p:=8) (u:=9) (g:=g+2) (cs:=#[.slice lB (n0+1) jQ,.slice (some ⟨g4,0,none⟩) (o_ fo n1) k4,.slice B5 (n2+1) d5]) (v := .int .i64 0) ?_ ?_ ?_ (HX.out.ret iN.out.f HG.out 0).1 Tryz.underlying26 ?_ ?_ ?_ ?_;exact(by kernel_rfl);exact(by kernel_rfl);exact(by kernel_rfl);rfl;exact(by kernel_rfl);rfl;rw[Cc.out,pG.out];exact(HX.out.ret iN.out.f HG.out 0).2)
        ·have e1:decide ((0:Int)<=sg)=false:=decide_eq_false hq
         have pG:=qh (show GC ss sg n0=ss from if_neg hq);clear hq dx;have qp:=qh (iN.out.step HV.out.bl).f;obtain⟨z0,z1,z2,z3,z4,z5⟩:=Go.Proofs.aA.Z.z3 HV.out.bo;obtain⟨b0,b1,b2,b3,b4,b5⟩:=Go.Proofs.aA.Z.z3 qp.out.br;go_wp2_with (refine sx (p:=8) (u:=9) (g:=g+2) (cs:=#[.slice lB (n0+1) jQ,.slice (some ⟨g4,0,none⟩) (o_ fo n1) k4,.slice B2 n2 d2]) (v := .int .i64 0) ?_ ?_ ?_ (HV.out.ret iN.out.f HG.out 0).1 Tryz.underlying26 ?_ ?_ ?_ ?_;exact(by kernel_rfl);exact(by kernel_rfl);exact(by kernel_rfl);rfl;exact(by kernel_rfl);rfl;rw[Cc.out,pG.out];exact(HV.out.ret iN.out.f HG.out 0).2)
  ·have uD:=SX.out
   rw[if_neg hbr]at uD
   injection uD with h1 h2
   subst h1 h2;have e1:(br != 0)=true:=bne_iff_ne.mpr hbr;have eU:=qh (HR.out.trans (if_neg hbr));clear hbr HR SX;obtain⟨b0,b1,b2,b3,b4,b5⟩:=z3 j8.out.f.br;go_wp2_with (refine sx (p:=8) (u:=9) (g:=g+2) (cs:=fI) (v := .int .i64 br) ?_ ?_ ?_ (j8.out.f.bad HG.out br).1 Tryz.underlying26 ?_ ?_ ?_ ?_;exact(by kernel_rfl);exact(by kernel_rfl);exact(by kernel_rfl);rfl;exact(by kernel_rfl);rfl;rw[eU.out];exact(j8.out.f.bad HG.out br).2)
theorem apP (ps:PS) (zs:List Int) (n1:Nat) (ss:SS) (bd:Nat->Nat->Bool) (br:Int) (p:PT) (t k:Int) (h:ps.length<400/\n1<=898/\ss.length<=1000):(xO ps zs n1 ss bd br p t k).2.1.length<=1000/\(xO ps zs n1 ss bd br p t k).2.2.2.1<=1000/\(xO ps zs n1 ss bd br p t k).2.2.2.2.length<=2000:=by
 have hb:∀ r,(lT r).2.1.length<=1000/\(lT r).2.2.2.1<=1000/\(lT r).2.2.2.2.length<=2000:=fun r=>by simp[lT]
 have hn:∀ o,o_ o n1<=1000:=fun o=>by cases o <;> simp[o_] <;> omega
 have hs:∀ sg n,(GC ss sg n).length<=2000:=by
  intro sg n;unfold GC;split
  ·rw[List.length_append,List.length_set]
   simp;omega
  ·omega
 unfold xO;split
 ·split
  ·split
   ·exact hb 7
   ·exact⟨by rw[List.length_append];simp;omega,hn _,hs _ _⟩
  ·exact hb br
 ·exact hb 1
theorem apQ {p:PT} (h:Ek p.f0.f0.f1 p.f0.f1 p.f1.f0.f1 p.f1.f1=true):Bo p:=by
 unfold Ek at h;simp only[Bool.and_eq_true,decide_eq_true_eq]at h;exact⟨by show p.f0.f0.f1.size<=40;omega,by show p.f0.f1.size<=40;omega,by show p.f1.f0.f1.size<=40;omega,by show p.f1.f1.size<=40;omega⟩
def Ks (ps:PS) (p:PT) (i j:Nat):Bool:=Ob (ay ps i) (ay ps j) p
theorem onO {ps:PS} {p:PT} (h:Gu ps) (hp:Bo p) (K:Nat) (hK:1<=K) (hb:iE (pX p) (pY p)=0):OnO K ps p (Ks ps p):=by
 obtain⟨k,rfl⟩:∃ k,K=k+1:=⟨K-1,by omega⟩
 exact fun i j hi hj=>ava k (h i hi) (h j hj) (aaw hb hp)
theorem onP {ps:PS} {p:PT} (h:Gu ps) (hp:Bo p) (K:Nat) (hK:35<=K):OnP K ps p (Ks ps p) (iE (pX p) (pY p)):=by
 obtain⟨k,rfl⟩:∃ k,K=k+35:=⟨K-35,by omega⟩
 exact fun i j hi hj=>avc k (h i hi) (h j hj) hp
abbrev DF (x0 x1 x2:Value) (t k:Int) (p:lA):Array Value:=#[x0,x1,x2,.int .i64 t,.int .i64 k,.bool p.f0.f0.f0,.string p.f0.f0.f1,.string p.f0.f1,.bool p.f1.f0.f0,.string p.f1.f0.f1,.string p.f1.f1]
theorem Oh {w:World} {g ty:Nat} {x0 x1 x2:Value} {t k:Int} {p:lA} (h:aO (w.heap[g]?=some (.cells (DF x0 x1 x2 t k p) ty (0,0)))):w.cell? ⟨g,0,none⟩=some x0/\w.cell? ⟨g,1,none⟩=some x1/\w.cell? ⟨g,2,none⟩=some x2/\w.cell? ⟨g,3,none⟩=some (.int .i64 t)/\w.cell? ⟨g,4,none⟩=some (.int .i64 k)/\True :=
 ⟨(eA h.out 0),(eA h.out 1),(eA h.out 2),(eA h.out 3),(eA h.out 4),trivial⟩
theorem z6p {w:World} {g ty:Nat} {x0 x1 x2:Value} {t k:Int} {p:lA} (h:aO (w.heap[g]?=some (.cells (DF x0 x1 x2 t k p) ty (0,0)))):w.cell? ⟨g,5,none⟩=some (.bool p.f0.f0.f0)/\w.cell? ⟨g,6,none⟩=some (.string p.f0.f0.f1)/\w.cell? ⟨g,7,none⟩=some (.string p.f0.f1)/\w.cell? ⟨g,8,none⟩=some (.bool p.f1.f0.f0)/\w.cell? ⟨g,9,none⟩=some (.string p.f1.f0.f1)/\w.cell? ⟨g,10,none⟩=some (.string p.f1.f1)/\w.cell? ⟨g,3,none⟩=some (.int .i64 t)/\w.cell? ⟨g,4,none⟩=some (.int .i64 k)/\True/\True/\True/\True :=
 ⟨(eA h.out 5),(eA h.out 6),(eA h.out 7),(eA h.out 8),(eA h.out 9),(eA h.out 10),(eA h.out 3),(eA h.out 4),trivial,trivial,trivial,trivial⟩
structure LP (h:Nat) (ps:PS) (zs:List Int) (n1:Nat) (ss:SS) (A0 A1 A2:Option Addr) (c0 c1 c2 n0 n2:Nat) (t k:Int) (p:lA) (W:World):Prop where
 a:mJ W A0 A1 A2 c0 c2 ps zs n1 ss
 b:aO (W.heap[h]?=some (.cells (DF (.slice A0 n0 c0) (.slice A1 n1 c1) (.slice A2 n2 c2) t k p) 47 (0,0)))
theorem LP.step {h:Nat} {ps:PS} {zs:List Int} {n1:Nat} {ss:SS} {A0 A1 A2:Option Addr} {c0 c1 c2 n0 n2:Nat} {t k:Int} {p:lA} {W W':World} (hl:LP h ps zs n1 ss A0 A1 A2 c0 c1 c2 n0 n2 t k p W) (hb:Below W.heap.size W W'):LP h ps zs n1 ss A0 A1 A2 c0 c1 c2 n0 n2 t k p W':=⟨hl.a.below hb rfl,⟨eW hl.b.out hb⟩⟩
theorem apR (A0 A1 A2:Option Addr) (c0 n1 c1 c2:Nat) (ps:PS) (zs:List Int) (ss:SS) (w:World) (hA:mJ w A0 A1 A2 c0 c2 ps zs n1 ss) (hz:zs.length=3*n1) (t k:Int) (p:PT) :
  Calls Tryz.prog 5 #[.agg (DF (.slice A0 ps.length c0) (.slice A1 n1 c1) (.slice A2 ss.length c2) t k p)] w fun e w'=>e = .returned (.bool true)/\Below w.heap.size w w':=by
 obtain⟨n0,hn0⟩:∃ n,ps.length=n:=⟨_,rfl⟩
 obtain⟨n2,hn2⟩:∃ n,ss.length=n:=⟨_,rfl⟩
 have fc:=qh (show LP w.heap.size ps zs n1 ss A0 A1 A2 c0 c1 c2 n0 n2 t k p (w.alloc (.cells (DF (.slice A0 n0 c0) (.slice A1 n1 c1) (.slice A2 n2 c2) t k p) 47)) from ⟨hA.below ((Below.refl _ _).alloc (Nat.le_refl _) _) rfl,⟨iw _ _⟩⟩);have bI:=qh ((Below.refl w.heap.size w).alloc (Nat.le_refl _) (.cells (DF (.slice A0 n0 c0) (.slice A1 n1 c1) (.slice A2 n2 c2) t k p) 47));have xU:=fc.out.b;have H0:=qh hn0;have H2:=qh hn2;have HZ:=qh hz;have SY:=qh apK;rw[hn0,hn2];clear hA hn0 hn2 hz;obtain⟨g,hg⟩:∃ g,w.heap.size=g:=⟨_,rfl⟩
 have HG:=qh hg;rw[hg]at fc bI xU
 go_enter Tryz.func5,Tryz.ntmps5;go_upto_region 1 with fail
 generalize (w.alloc (.cells (DF (.slice A0 n0 c0) (.slice A1 n1 c1) (.slice A2 n2 c2) t k p) 47))=w1 at fc bI xU ⊢;have HSM:=qh (aoL A0 A1 A2 c0 n1 c1 c2 ps ss w1 fc.out.a.p);rw[H0.out,H2.out]at HSM
 obtain⟨q0,q1,q2,q3,q4,q5⟩:=Oh fc.out.b;go_wp2_with (refine HSM.out.mono ?_;rintro e w2 ⟨b,rfl,hsm,hb⟩;refine Stop.out ?_)
 refine⟨?_⟩;have cZ:=qh (bI.out.trans (hb.mono (Nat.le_of_lt (gm fc.out.b.out))));have fM:=qh (fc.out.step hb);have tC:=qa (eW xU.out hb);clear hb bI fc xU q0 q1 q2 q3 q4 q5;have tJ:g<=w2.heap.size:=Nat.le_of_lt (gm fM.out.b.out);cases b with
 | false =>
  have HC:=qh (SY.out w2);clear hsm;go_wp2_with (refine HC.out.mono ?_;rintro e w3 ⟨rfl,hb⟩;refine Stop.out ?_)
  refine⟨?_⟩;have cW:=qh (cZ.out.trans (hb.mono tJ));clear hb;go_wp2_with (first|(go_ret;exact⟨rfl,by rw[HG.out];exact cW.out⟩)|fail)
 | true =>
  have HS:=qh (hsm rfl);clear hsm;have Oi:=qh (ac5 p.f0.f0.f0 p.f0.f0.f1 p.f0.f1 p.f1.f0.f0 p.f1.f0.f1 p.f1.f1 w2);obtain⟨p0,p1,p2,p3,p4,p5,p6,p7,p8,p9,Ho,Hp⟩:=z6p tC;cases hsp:Ek p.f0.f0.f1 p.f0.f1 p.f1.f0.f1 p.f1.f1 with
  | false =>
   rw[hsp]at Oi
   clear hsp;go_wp2_with (refine Oi.out.mono ?_;rintro e w3 ⟨rfl,hb⟩;refine Stop.out ?_)
   refine⟨?_⟩;have cW:=qh (cZ.out.trans (hb.mono tJ));have cY:g<=w3.heap.size:=Nat.le_trans tJ hb.size;have HC:=qh (SY.out w3);clear hb;go_wp2_with (refine HC.out.mono ?_;rintro e w4 ⟨rfl,hb⟩;refine Stop.out ?_)
   refine⟨?_⟩;have nL:=qh (cW.out.trans (hb.mono cY));clear hb;go_wp2_with (first|(go_ret;exact⟨rfl,by rw[HG.out];exact nL.out⟩)|fail)
  | true =>
   rw[hsp]at Oi
   have DU:=qh (apQ hsp);clear hsp;go_wp2_with (refine Oi.out.mono ?_;rintro e w2s ⟨rfl,hb⟩;refine Stop.out ?_)
   refine⟨?_⟩;have aiQ:=qh (cZ.out.trans (hb.mono tJ));have M_:=qh (fM.out.step hb);have aiR:=qa (eW tC.out hb);clear hb Oi cZ fM tC tJ p0 p1 p2 p3 p4 p5 p6 p7 p8 p9 Ho Hp;have aiS:g<=w2s.heap.size:=Nat.le_of_lt (gm M_.out.b.out);have hl:=HS.out;unfold Wm at hl;obtain⟨ask,JY,hok⟩:=ald hl.2.2.2 qo 4000 qo;have GL:=qh (amf A0 A1 A2 c0 n1 c1 c2 ps zs ss w2s M_.out.a 4000 ask JY (qD ps) (fun e=>orO (hok e) 4000 qd) (pM ss) (acZ ss 4000 qo qo));rw[H0.out,H2.out]at GL
   have J6:=qh hok;have HLS:=qh (show ss.length<=45 by omega);have HL:=qh (show ps.length<=1000/\n1<=1000/\ss.length<=2000 by omega);have Oj:=qh (show ps.length<400/\n1<=898/\ss.length<=1000 by omega);clear hl JY hok;obtain⟨q0,q1,q2,q3,q4,q5⟩:=Oh M_.out.b;go_wp2_with (refine GL.out.mono ?_;rintro e w3 ⟨r,rfl,hr,hb⟩;refine Stop.out ?_)
   refine⟨?_⟩;have cW:=qh (aiQ.out.trans (hb.mono aiS));have mW:=qh (M_.out.step hb);have HT3:=qa (eW aiR.out hb);have HR:=qh hr;clear hb aiQ M_ aiR GL hr q0 q1 q2 q3 q4 q5 aiS;have cY:g<=w3.heap.size:=Nat.le_of_lt (gm mW.out.b.out);by_cases h0:r=0
   ·subst h0
    have RV:=HR.out.1 rfl;have hOk:=J6.out RV.a;have hM0:=RV.a;subst hM0;have HP:=qh (apH RV);have Na:=qh hOk;clear RV hOk;have Hq:=qh (adu A0 A1 A2 c0 n1 c1 c2 ps zs ss w3 mW.out.a HZ.out HL.out);rw[H0.out,H2.out]at Hq
    obtain⟨q0,q1,q2,q3,q4,q5⟩:=Oh mW.out.b;go_wp2_with (refine Hq.out.mono ?_;rintro e w4 ⟨v0,v1,v2,rfl,gQ,hb⟩;refine Stop.out ?_)
    refine⟨?_⟩;obtain⟨B0,d0,B1,d1,B2,d2,rfl,rfl,rfl,-,hA⟩:=gQ.args;have dA:=hb.trans (((Below.refl w4.heap.size w4).alloc (Nat.le_refl _) (.cells #[.slice B0 ps.length d0,.slice B1 n1 d1,.slice B2 ss.length d2] 26)).mono hb.size);have jw:=qh (cW.out.trans (dA.mono cY));have rF:=qh (mW.out.step dA);have SZ:=qa (eW HT3.out dA);have mz:=qh (LB.new (w:=w) (b:=0) (c1:=d1) hA);clear dA hb gQ hA cW mW HT3 Hq q0 q1 q2 q3 q4 q5 cY HR J6;go_upto_region 4 with fail
    generalize (w4.alloc (.cells #[.slice B0 ps.length d0,.slice B1 n1 d1,.slice B2 ss.length d2] 26))=w5 at jw rF SZ mz ⊢;generalize w4.heap.size=o at mz ⊢;have hB5:g<=w5.heap.size:=Nat.le_of_lt (gm rF.out.b.out);obtain⟨br,hbr⟩:∃ x,iE (pX p) (pY p)=x:=⟨_,rfl⟩
    have hwo:=onO Na.out DU.out 4000 qd;have hwp:=onP Na.out DU.out 4000 qd;have JY:=aoO 3994 DU.out;rw[hbr]at hwo hwp JY
    have HFL:=qh (atw B0 B1 B2 d0 n1 d1 d2 ps zs ss w5 mz.out.a HZ.out 4000 (OJ Na.out HL.out.1 4000 (by have:=HL.out;omega)) (qD ps) (SR Na.out 4000 qd) HP.out ⟨Oj.out.1,Oj.out.2.1⟩ p br (Ks ps p) hwp t k);have SE:=qh (apP ps zs n1 ss (wT (Ks ps p) ps p) br p t k Oj.out);have S5:=qh (fun W (hm:LP g ps zs n1 ss A0 A1 A2 c0 c1 c2 n0 n2 t k p W)=>atu A0 A1 A2 c0 n1 c1 c2 ps zs ss W hm.a HZ.out 4000 (qD ps) (acZ ss 4000 (by have:=HLS.out;omega) (by have:=HLS.out;omega)) HP.out ⟨Oj.out.1,Oj.out.2.1⟩ p br JY (Ks ps p) hwo t k);rw[H0.out,H2.out]at S5
    clear hwo hwp JY hbr;obtain⟨O,hO⟩:∃ x,xO ps zs n1 ss (wT (Ks ps p) ps p) br p t k=x:=⟨_,rfl⟩
    rw[hO]at HFL S5 SE
    clear hO;obtain⟨q0,q1,q2,q3,q4,q5⟩:=z3 mz.out.b;obtain⟨s0,s1,s2,s3,s4,s5,s6,s7,s8,s9,s10,s11⟩:=z6p SZ;go_wp2_with (refine HFL.out.mono ?_;rintro e w6 ⟨u0,u1,u2,rfl,gQ,hb⟩;refine Stop.out ?_)
    refine⟨?_⟩;obtain⟨D0,e0,D1,e1,D2,e2,rfl,rfl,rfl,-,hA⟩:=gQ.args;have dA:=hb.trans (((Below.refl w6.heap.size w6).alloc (Nat.le_refl _) (.cells #[.slice D0 O.2.1.length e0,.slice D1 O.2.2.2.1 e1,.slice D2 O.2.2.2.2.length e2] 26)).mono hb.size);have kS:=qh (jw.out.trans (dA.mono hB5));have Kt:=qh (rF.out.step dA);have S6:=qa (eW SZ.out dA);have HN7:=qh (mz.out.step dA);have S7:=qh (LB.new (w:=w) (b:=0) (c1:=e1) hA);clear dA hb gQ hA jw rF SZ s0 s1 s2 s3 s4 s5 s6 s7 s8 s9 s10 s11 mz HFL q0 q1 q2 q3 q4 q5 hB5 HP Na;go_upto_region 5 with fail
    generalize (w6.alloc (.cells #[.slice D0 O.2.1.length e0,.slice D1 O.2.2.2.1 e1,.slice D2 O.2.2.2.2.length e2] 26))=w7 at kS Kt S6 HN7 S7 ⊢;generalize w6.heap.size=p at S7 ⊢;have hB7:g<=w7.heap.size:=Nat.le_of_lt (gm Kt.out.b.out);obtain⟨q0,q1,q2,q3,q4,q5⟩:=Oh Kt.out.b;obtain⟨s0,s1,s2,s3,s4,s5,s6,s7,s8,s9,s10,s11⟩:=z6p S6;go_wp2_with (refine(S5.out w7 Kt.out).mono ?_;rintro e w8 ⟨u0,u1,u2,rfl,gQ,hb⟩;refine Stop.out ?_)
    refine⟨?_⟩;obtain⟨E0,f0,E1,f1,E2,f2,rfl,rfl,rfl,-,hA⟩:=gQ.args;have dA:=hb.trans (((Below.refl w8.heap.size w8).alloc (Nat.le_refl _) (.cells #[.slice E0 O.2.1.length f0,.slice E1 O.2.2.2.1 f1,.slice E2 O.2.2.2.2.length f2] 26)).mono hb.size);have GO:=qh (kS.out.trans (dA.mono hB7));have S8:=qh (Kt.out.step dA);have HT9:=qa (eW S6.out dA);have Nq:=qh (HN7.out.step dA);have S9:=qh (S7.out.step dA);have Ok:=qh (LB.new (w:=w) (b:=0) (c1:=f1) hA);clear dA hb gQ hA kS Kt S6 s0 s1 s2 s3 s4 s5 s6 s7 s8 s9 s10 s11 HN7 S7 S5 q0 q1 q2 q3 q4 q5 hB7;go_upto_region 6 with fail
    generalize (w8.alloc (.cells #[.slice E0 O.2.1.length f0,.slice E1 O.2.2.2.1 f1,.slice E2 O.2.2.2.2.length f2] 26))=w9 at GO S8 HT9 Nq S9 Ok ⊢;generalize w8.heap.size=q at Ok ⊢;have hB9:g<=w9.heap.size:=Nat.le_of_lt (gm S8.out.b.out);obtain⟨q0,q1,q2,q3,q4,q5⟩:=z3 S9.out.b;obtain⟨p0,p1,p2,p3,p4,p5⟩:=z3 Ok.out.b;have uH:=qh (adQ D0 D1 D2 E0 E1 E2 e0 O.2.2.2.1 e1 e2 f0 f1 f2 O.2.1 O.2.2.1 O.2.2.2.2 w9 S9.out.a Ok.out.a SE.out 4000 qd);go_wp2_with (refine uH.out.mono ?_;rintro e gI ⟨rfl,hb⟩;refine Stop.out ?_)
    refine⟨?_⟩;have Dt:=qh (GO.out.trans (hb.mono hB9));have RX:=qh (S8.out.step hb);have avg:=qa (eW HT9.out hb);have YS:=qh (Nq.out.step hb);clear hb GO S8 HT9 Nq S9 Ok uH SE q0 q1 q2 q3 q4 q5 p0 p1 p2 p3 p4 p5 hB9;have YT:g<=gI.heap.size:=Nat.le_of_lt (gm RX.out.b.out);obtain⟨q0,q1,q2,q3,q4,q5⟩:=z3 YS.out.b;obtain⟨p0,p1,p2,p3,p4,p5⟩:=Oh RX.out.b;have uH:=qh (adQ B0 B1 B2 A0 A1 A2 d0 n1 d1 d2 c0 c1 c2 ps zs ss gI YS.out.a RX.out.a HL.out 4000 qd);rw[H0.out,H2.out]at uH
    rw[H0.out]at q0
    rw[H2.out]at q2
    go_wp2_with (refine uH.out.mono ?_;rintro e lV ⟨rfl,hb⟩;refine Stop.out ?_)
    refine⟨?_⟩;have xH:=qh (Dt.out.trans (hb.mono YT));have avh:=Nat.le_trans YT hb.size;have HC:=qh (SY.out lV);clear hb Dt RX avg YS uH q0 q1 q2 q3 q4 q5 p0 p1 p2 p3 p4 p5 YT;go_wp2_with (refine HC.out.mono ?_;rintro e gh ⟨rfl,hb⟩;refine Stop.out ?_)
    refine⟨?_⟩;have avi:=qh (xH.out.trans (hb.mono avh));clear hb;go_wp2_with (first|(go_ret;exact⟨rfl,by rw[HG.out];exact avi.out⟩)|fail)
   ·have hne:(r != 0)=true:=bne_iff_ne.mpr h0
    have HC:=qh (SY.out w3);clear h0;go_wp2_with (refine HC.out.mono ?_;rintro e w4 ⟨rfl,hb⟩;refine Stop.out ?_)
    refine⟨?_⟩;have nL:=qh (cW.out.trans (hb.mono cY));clear hb;go_wp2_with (first|(go_ret;exact⟨rfl,by rw[HG.out];exact nL.out⟩)|fail)
 end Go.Proofs.YtfcjnhkkfmgmpaaGreat
