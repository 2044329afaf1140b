import Derived.Test.YtfcjnhkkfmgmpaaGreatZtG45
set_option linter.all false
set_option maxRecDepth 100000
set_option maxHeartbeats 8000000
namespace Go.Proofs.YtfcjnhkkfmgmpaaGreat
open Go.RowKit aS Go.Proofs.aA.R Go.Proofs.aA.Z Go.Proofs.aB.aZ
abbrev S4 (w0:World) (p0 p1 p2 p3:Addr) (v0 v1 v2 v3:Value) (W:World):Prop:=W.cell? p0=some v0/\W.cell? p1=some v1/\W.cell? p2=some v2/\W.cell? p3=some v3/\Below w0.heap.size w0 W
theorem ac0 {w0 W W':World} {p0 p1 p2 p3:Addr} {v0 v1 v2 v3:Value} (hb:Below W.heap.size W W') (h:S4 w0 p0 p1 p2 p3 v0 v1 v2 v3 W):S4 w0 p0 p1 p2 p3 v0 v1 v2 v3 W' :=
 ⟨(hb.cell (ql h.1)).trans h.1,(hb.cell (ql h.2.1)).trans h.2.1,(hb.cell (ql h.2.2.1)).trans h.2.2.1,(hb.cell (ql h.2.2.2.1)).trans h.2.2.2.1,h.2.2.2.2.trans (hb.mono h.2.2.2.2.size)⟩
theorem ac1 {w0 W:World} {p0 p1 p2 p3:Addr} {v0 v1 v2 v3:Value} (h:S4 w0 p0 p1 p2 p3 v0 v1 v2 v3 W):S4 w0 p0 p1 p2 p3 v0 v1 v2 v3 W.drew:=⟨h.1,h.2.1,h.2.2.1,h.2.2.2.1,h.2.2.2.2.drew⟩
abbrev S3 (w0:World) (p0 p1 p2:Addr) (v0 v1 v2:Value) (W:World):Prop:=W.cell? p0=some v0/\W.cell? p1=some v1/\W.cell? p2=some v2/\Below w0.heap.size w0 W
theorem PU {w0 W W':World} {p0 p1 p2:Addr} {v0 v1 v2:Value} (hb:Below W.heap.size W W') (h:S3 w0 p0 p1 p2 v0 v1 v2 W):S3 w0 p0 p1 p2 v0 v1 v2 W' :=
 ⟨(hb.cell (ql h.1)).trans h.1,(hb.cell (ql h.2.1)).trans h.2.1,(hb.cell (ql h.2.2.1)).trans h.2.2.1,h.2.2.2.trans (hb.mono h.2.2.2.size)⟩
theorem IX {w0 W:World} {p0 p1 p2:Addr} {v0 v1 v2:Value} (h:S3 w0 p0 p1 p2 v0 v1 v2 W):S3 w0 p0 p1 p2 v0 v1 v2 W.drew:=⟨h.1,h.2.1,h.2.2.1,h.2.2.2.drew⟩
theorem U5 {w0 W:World} {p0 p1 p2:Addr} {v0 v1 v2:Value} (o:Obj) (h:S3 w0 p0 p1 p2 v0 v1 v2 W):S3 w0 p0 p1 p2 v0 v1 v2 (W.alloc o):=PU ((Below.refl _ _).alloc (Nat.le_refl _) _) h
theorem VU {w0 W:World} {p0 p1 p2:Addr} {v0 v1 v2:Value} (h0:S3 w0 p0 p1 p2 v0 v1 v2 w0) (h:S3 w0 p0 p1 p2 v0 v1 v2 W) {q:Nat} (hq:w0.heap.size<=q) (u v:Value):S3 w0 p0 p1 p2 v0 v1 v2 ((W.setCell ⟨q,0,none⟩ u).setCell ⟨q,1,none⟩ v):=by
 have hb:=(h.2.2.2.setCell (p:=⟨q,0,none⟩) hq u).setCell (p:=⟨q,1,none⟩) hq v;exact⟨(hb.cell (ql h0.1)).trans h0.1,(hb.cell (ql h0.2.1)).trans h0.2.1,(hb.cell (ql h0.2.2.1)).trans h0.2.2.1,hb⟩
theorem adK (A0 A1 A2:Option Addr) (c0 n1 c1 c2:Nat) (ps:PS) (zs:List Int) (ss:SS) (w:World) (hA:mJ w A0 A1 A2 c0 c2 ps zs n1 ss) (hz:zs.length=3*n1) (K:Nat) (hK:pQ.f K ps=some 0) (bJ:Nat->Nat->Nat->Int) (hO:Kn K ps bJ) (hM:uG ps.length zs n1 ss bJ) (hD:∀ i j k,0<bJ i j k->i≠j/\j≠k/\k≠i) (t k:Int) :
  Calls Tryz.prog 10 #[.agg #[.slice A0 ps.length c0,.slice A1 n1 c1,.slice A2 ss.length c2],.int .i64 t,.int .i64 k] w fun e w'=>uS w (vo ps zs n1 ss bJ t k) e w':=by
 obtain⟨n0,hn0⟩:∃ n,ps.length=n:=⟨_,rfl⟩
 obtain⟨n2,hn2⟩:∃ n,ss.length=n:=⟨_,rfl⟩
 have HL:=qh (show n0<=400/\n1<=900/\n2<=1300 from ⟨hn0 ▸ hM.l0,hM.l1,hn2 ▸ hM.l2⟩);have hb1:Below w.heap.size w ((w.alloc (.cells #[.slice A0 n0 c0,.slice A1 n1 c1,.slice A2 n2 c2] 26)).alloc (.cells fI 26)):=((Below.refl _ _).alloc (Nat.le_refl _) _).alloc (by simp) _
 have bI:=qh (show MB w.heap.size w A0 A1 A2 n0 c0 n1 c1 n2 c2 ((w.alloc (.cells #[.slice A0 n0 c0,.slice A1 n1 c1,.slice A2 n2 c2] 26)).alloc (.cells fI 26)) from
  (MB.new w A0 A1 A2 n0 c0 n1 c1 n2 c2).step ((Below.refl _ _).alloc (Nat.le_refl _) _))
 have ZZ:=qh (show((w.alloc (.cells #[.slice A0 n0 c0,.slice A1 n1 c1,.slice A2 n2 c2] 26)).alloc (.cells fI 26)).heap[w.heap.size+1]?=some (.cells fI 26 (0,0)) from by have:=iw (w.alloc (.cells #[.slice A0 n0 c0,.slice A1 n1 c1,.slice A2 n2 c2] 26)) (.cells fI 26);simpa using this);have yj:=qh (U3 A0 A1 A2 c0 n1 c1 c2 ps zs ss _ (hA.below hb1 rfl) K hK bJ hO hM);rw[hn0,hn2]at yj
 have H0:=qh hn0;have H2:=qh hn2;have HZ:=qh hz;have HA:=qh hA;have HO:=qh hO;have HM:=qh hM;rw[hn0,hn2];clear hA hz hK hO hM hn0 hn2 hb1;obtain⟨g,hg⟩:∃ g,w.heap.size=g:=⟨_,rfl⟩
 have HG:=qh hg;rw[hg]at bI ZZ
 have q0:=bI.out.b0;have q1:=bI.out.b1;have q2:=bI.out.b2;go_enter Tryz.func10,Tryz.ntmps10;go_wp2_with (refine yj.out.mono ?_;rintro e w2 ⟨kb,B,rfl,hkb,hB,hmp,e0,e1,e2,e3,hb⟩;refine Stop.out ?_)
 refine⟨?_⟩;have gY:=qh (show FI g kb B w A0 A1 A2 n0 c0 n1 c1 n2 c2 zs w2 from ⟨bI.out.step hb,⟨eW ZZ.out hb⟩,hmp,e1,e3⟩);clear hb hmp hB yj bI ZZ q0 q1 q2 e0 e2 e3 e1 hkb;cases hB:qm n1 t k with
 | false =>
  have pN:=qh (UY kb A1 n1 c1 w2 gY.out.k1 t k hB);go_wp2_with (refine pN.out.mono ?_;rintro e w3 ⟨rfl,hb⟩;refine Stop.out ?_)
  refine⟨?_⟩;have eG:=qh (gY.out.step hb);have ir:=qh (eG.out.step ((Below.refl w3.heap.size w3).alloc (Nat.le_refl _) (.cells #[.int .i64 0,.int .i64 0] 66)));have eU:=qh (show vo ps zs n1 ss bJ t k=lT 1 from if_neg (by rw[hB];decide));clear hb pN gY hB eG;go_upto_region 6 with fail
  generalize (w3.alloc (.cells #[.int .i64 0,.int .i64 0] 66))=w4 at ir ⊢;obtain⟨b0,b1,b2,b3,b4,b5⟩:=z3 ir.out.br;go_wp2_with (refine sx (p:=6) (u:=7) (g:=g+1) (cs:=fI) (v := .int .i64 1) ?_ ?_ ?_ (ret3 ir.out.box.below ir.out.br (Nat.lt_succ_self g) _ _ _).1 Tryz.underlying26 ?_ ?_ ?_ ?_;exact(by kernel_rfl);exact(by kernel_rfl);exact(by kernel_rfl);rfl;exact(by kernel_rfl);rfl;rw[eU.out];exact uS.bad _ _ _ (by rw[HG.out];exact(ret3 ir.out.box.below ir.out.br (Nat.lt_succ_self g) _ _ _).2))
 | true =>
  have hR:=hB;unfold qm at hR;simp only[Bool.and_eq_true,decide_eq_true_eq]at hR;obtain⟨⟨⟨a1,a2⟩,a3⟩,a4⟩:=hR;obtain⟨T,rfl⟩:=Int.eq_ofNat_of_zero_le a1;obtain⟨k,rfl⟩:=Int.eq_ofNat_of_zero_le a3;have hT:T<n1:=by omega
  have hk:k<=2:=by omega
  have gJ:=qh (HA.out.below gY.out.box.below HG.out.symm);have pN:=qh (VG kb A1 n1 c1 zs w2 gY.out.k1 gJ.out.t T k hT hk (by have:=HL.out;omega));have HR:=qh (show vo ps zs n1 ss bJ (T:Int) (k:Int)=_ from if_pos hB);simp only[Int.toNat_natCast]at HR;have HT:=qh hT;have HK:=qh hk;have fc:=HM.out.inr (j:=3*T+k) qo;have fM:=HM.out.inr (j:=3*T+nx k) (by unfold nx;split <;> omega);have mW:=HM.out.inr (j:=3*T+px k) (by unfold px;split <;> omega);obtain⟨xa,jx⟩:∃ x,zs.getD (3*T+k) 0=x:=⟨_,rfl⟩
  obtain⟨xb,jy⟩:∃ x,zs.getD (3*T+nx k) 0=x:=⟨_,rfl⟩
  obtain⟨xc,mS⟩:∃ x,zs.getD (3*T+px k) 0=x:=⟨_,rfl⟩
  rw[jx,jy]at pN
  rw[jx,jy,mS]at HR
  rw[jx]at fc
  rw[jy]at fM
  rw[mS]at mW
  have N7:=qh mS;have eR:=qh (show((0<=xa/\xa<n0)/\0<=xb/\xb<n0)/\0<=xc/\xc<n0 from H0.out ▸ ⟨⟨fc,fM⟩,mW⟩);have SK:=qh jx;have SL:=qh jy;clear jx jy mS fc fM mW hT hk a1 a2 a3 a4 hB gJ;go_wp2_with (refine pN.out.mono ?_;rintro e w3 ⟨rfl,hb⟩;refine Stop.out ?_)
  refine⟨?_⟩;have eG:=qh (gY.out.step hb);clear hb pN gY;have ir:=qh (eG.out.step ((Below.refl w3.heap.size w3).alloc (Nat.le_refl _) (.cells #[.int .i64 xa,.int .i64 xb] 66)));have d0:(w3.alloc (.cells #[.int .i64 xa,.int .i64 xb] 66)).cell? ⟨w3.heap.size,0,none⟩=some (.int .i64 xa):=by simp[go_sem]
  have d1:(w3.alloc (.cells #[.int .i64 xa,.int .i64 xb] 66)).cell? ⟨w3.heap.size,1,none⟩=some (.int .i64 xb):=by simp[go_sem]
  clear eG;go_upto_region 7 with fail
  generalize (w3.alloc (.cells #[.int .i64 xa,.int .i64 xb] 66))=w4 at ir d0 d1 ⊢;generalize w3.heap.size=eb at d0 d1 ⊢;have wa:W6 xa:=vn eR.out.1.1.1 (by have:=HL.out;have:=eR.out;omega);have wb:W6 xb:=vn eR.out.1.2.1 (by have:=HL.out;have:=eR.out;omega);have vH:=qh (fun W=>Qh xa xb W);have hlk:∀ W,Below w4.heap.size w4 W->_:=fun W hW=>(ir.out.step hW).m.look wb wa;have k3:=ir.out.k3;have dI:w4.cell? ⟨kb,3,none⟩=some (.map (some B))/\w4.cell? ⟨eb,0,none⟩=some (.int .i64 xa)/\w4.cell? ⟨eb,1,none⟩=some (.int .i64 xb)/\Below w4.heap.size w4 w4:=⟨k3,d0,d1,Below.refl _ _⟩
  obtain⟨s1,hs1⟩:∃ x,sT (bV zs xb xa (3*n1))=x:=⟨_,rfl⟩
  obtain⟨s2,hs2⟩:∃ x,sK (bV zs xb xa (3*n1))=x:=⟨_,rfl⟩
  obtain⟨s3,hs3⟩:∃ x,(bV zs xb xa (3*n1)).isSome=x:=⟨_,rfl⟩
  rw[hs1,hs2,hs3]at hlk
  have X1:=qh hs1;have X2:=qh hs2;have X3:=qh hs3;clear hs1 hs2 hs3 wa wb k3 d0 d1;go_cut [11,12] (fun a b wx=>∃ h:Nat,a = .pointer (some ⟨h,0,none⟩)/\b = .bool s3/\Hid ((w4.heap.size<=h/\Below w4.heap.size w4 wx)/\wx.cell? ⟨h,0,none⟩=some (.int .i64 s1)/\wx.cell? ⟨h,1,none⟩=some (.int .i64 s2)))
  case first =>
   go_region_held3 (S3 w4 ⟨kb,3,none⟩ ⟨eb,0,none⟩ ⟨eb,1,none⟩ (.map (some B)) (.int .i64 xa) (.int .i64 xb)) (first|assumption|exact IX (by assumption)|exact U5 _ (by assumption)|exact VU dI hS1 (Nat.le_refl _) _ _) (first|(go_at_call 27;refine(vH.out _).mono ?_;rintro e wn ⟨rfl,hbr⟩;have hS1:=PU hbr (by assumption);first|(have p0:=(hbr.cell (p:=⟨w4.heap.size,0,none⟩) (by simp)).trans (show(World.alloc w4 (.cells #[.int .i64 0,.int .i64 0] 70)).cell? ⟨w4.heap.size,0,none⟩=some (.int .i64 0) by simp[go_sem]);have p1:=(hbr.cell (p:=⟨w4.heap.size,1,none⟩) (by simp)).trans (show(World.alloc w4 (.cells #[.int .i64 0,.int .i64 0] 70)).cell? ⟨w4.heap.size,1,none⟩=some (.int .i64 0) by simp[go_sem]);have p2:=(hbr.frozen (p:=⟨w4.heap.size,0,none⟩) (by simp)).trans (show(World.alloc w4 (.cells #[.int .i64 0,.int .i64 0] 70)).frozen? ⟨w4.heap.size,0,none⟩=false by simp[go_sem]);have p3:=(hbr.frozen (p:=⟨w4.heap.size,1,none⟩) (by simp)).trans (show(World.alloc w4 (.cells #[.int .i64 0,.int .i64 0] 70)).frozen? ⟨w4.heap.size,1,none⟩=false by simp[go_sem]))|skip;clear hbr)|fail)
   all_goals go_wp2
   all_goals go_meet
   all_goals refine⟨_,rfl,rfl,qh ⟨⟨?_,(show S3 w4 ⟨kb,3,none⟩ ⟨eb,0,none⟩ ⟨eb,1,none⟩ (.map (some B)) (.int .i64 xa) (.int .i64 xb) _ from by first|assumption|exact IX (by assumption)).2.2.2⟩,?_,?_⟩⟩
   all_goals first|exact Nat.le_refl _|exact hS1.2.2.2.size|(simp[go_sem];done)|(simp[go_sem,p0,p1,p2,p3];done)
  case rest =>
   obtain⟨h,rfl,rfl,HU⟩:=hcut;have j8:=qh (ir.out.step HU.out.1.2)
   have HD:=qh (show wc.cell? ⟨eb,0,none⟩=some (.int .i64 xa)/\wc.cell? ⟨eb,1,none⟩=some (.int .i64 xb)/\wc.cell? ⟨h,0,none⟩=some (.int .i64 s1)/\wc.cell? ⟨h,1,none⟩=some (.int .i64 s2) from
    ⟨(HU.out.1.2.cell (ql dI.2.1)).trans dI.2.1,(HU.out.1.2.cell (ql dI.2.2.1)).trans dI.2.2.1,HU.out.2.1,HU.out.2.2⟩)
   clear hlk dI ir HU vH;generalize hfo:bV zs xb xa (3*n1)=fo at X1 X2 X3;cases fo with
   | none =>
    have eU:=qh (show vo ps zs n1 ss bJ (T:Int) (k:Int)=lT 7 by rw[HR.out,show wu zs n1 ss bJ xa xb xc=none by unfold wu;rw[hfo]]);have hs3:s3=false:=X3.out.symm;subst hs3;clear hfo;obtain⟨b0,b1,b2,b3,b4,b5⟩:=z3 j8.out.br;go_wp2_with (refine sx (p:=6) (u:=7) (g:=g+1) (cs:=fI) (v := .int .i64 7) ?_ ?_ ?_ (ret3 j8.out.box.below j8.out.br (Nat.lt_succ_self g) _ _ _).1 Tryz.underlying26 ?_ ?_ ?_ ?_;exact(by kernel_rfl);exact(by kernel_rfl);exact(by kernel_rfl);rfl;exact(by kernel_rfl);rfl;rw[eU.out];exact uS.bad _ _ _ (by rw[HG.out];exact(ret3 j8.out.box.below j8.out.br (Nat.lt_succ_self g) _ _ _).2))
   | some j =>
    have hs1:((j / 3:Nat):Int)=s1:=X1.out;have hs2:((j%3:Nat):Int)=s2:=X2.out;have hs3:s3=true:=X3.out.symm;obtain⟨jt,hjt⟩:∃ x,j / 3=x:=⟨_,rfl⟩
    obtain⟨jk,hjk⟩:∃ x,j%3=x:=⟨_,rfl⟩
    rw[hjt]at hs1
    rw[hjk]at hs2
    have vN:=qh hjt;have Af:=qh hjk;clear hjt hjk;subst hs1 hs2 hs3;have Ej:=qh hfo;clear hfo X1 X2 X3;have tK:=qh (acY A0 A1 A2 n0 c0 n1 c1 n2 c2 ss xa xb wc (by have:=(HA.out.below j8.out.box.below HG.out.symm).s;rw[H2.out]at this;exact this) H2.out (by have:=HL.out;omega));rw[show lG (lY ss xa xb) n2=lG (lY ss xa xb) ss.length by rw[H2.out],show oI (lG (lY ss xa xb) ss.length)=pM ss xa xb from rfl]at tK
    have x0:=j8.out.box.b0;have x1:=j8.out.box.b1;have x2:=j8.out.box.b2;have y0:=HD.out.1;have y1:=HD.out.2.1;go_wp2_with (refine tK.out.mono ?_;rintro e w6 ⟨rfl,hb⟩;refine Stop.out ?_)
    refine⟨?_⟩;have lu:=qh (j8.out.step hb)
    have N9:=qh (show w6.cell? ⟨eb,0,none⟩=some (.int .i64 xa)/\w6.cell? ⟨eb,1,none⟩=some (.int .i64 xb)/\w6.cell? ⟨h,0,none⟩=some (.int .i64 jt)/\w6.cell? ⟨h,1,none⟩=some (.int .i64 jk) from
     ⟨(hb.cell (ql HD.out.1)).trans HD.out.1,(hb.cell (ql HD.out.2.1)).trans HD.out.2.1,(hb.cell (ql HD.out.2.2.1)).trans HD.out.2.2.1,(hb.cell (ql HD.out.2.2.2)).trans HD.out.2.2.2⟩)
    clear hb tK j8 HD x0 x1 x2 y0 y1;obtain⟨sg,yl⟩:∃ x,pM ss xa xb=x:=⟨_,rfl⟩
    rw[yl];have HS:=qh yl;clear yl;by_cases hq:0<=sg
    ·have e1:decide (0<=sg)=true:=decide_eq_true hq
     have eU:=qh (show vo ps zs n1 ss bJ (T:Int) (k:Int)=lT 7 by rw[HR.out,show wu zs n1 ss bJ xa xb xc=none by unfold wu;rw[Ej.out];exact if_pos (.inl (HS.out ▸ hq))]);clear hq;obtain⟨b0,b1,b2,b3,b4,b5⟩:=z3 lu.out.br;go_wp2_with (refine sx (p:=6) (u:=7) (g:=g+1) (cs:=fI) (v := .int .i64 7) ?_ ?_ ?_ (ret3 lu.out.box.below lu.out.br (Nat.lt_succ_self g) _ _ _).1 Tryz.underlying26 ?_ ?_ ?_ ?_;exact(by kernel_rfl);exact(by kernel_rfl);exact(by kernel_rfl);rfl;exact(by kernel_rfl);rfl;rw[eU.out];exact uS.bad _ _ _ (by rw[HG.out];exact(ret3 lu.out.box.below lu.out.br (Nat.lt_succ_self g) _ _ _).2))
    ·have e1:decide (0<=sg)=false:=decide_eq_false hq
     have HQ:=qh hq;clear hq;have hj:=Ex Ej.out;have HJ:=qh hj.1;have gJ:=fun W (hW:Below w6.heap.size w6 W)=>HA.out.below (lu.out.step hW).box.below HG.out.symm;obtain⟨xd,ym⟩:∃ x,zs.getD (3*jt+px jk) 0=x:=⟨_,rfl⟩
     have xU:=qh (fun W (hW:S4 w6 ⟨eb,0,none⟩ ⟨eb,1,none⟩ ⟨h,0,none⟩ ⟨h,1,none⟩ (.int .i64 xa) (.int .i64 xb) (.int .i64 jt) (.int .i64 jk) W)=>O_ kb A1 n1 c1 zs W (lu.out.step hW.2.2.2.2).k1 (gJ W hW.2.2.2.2).t T k HT.out HK.out (by have:=HL.out;omega));have tC:=qh (fun W (hW:S4 w6 ⟨eb,0,none⟩ ⟨eb,1,none⟩ ⟨h,0,none⟩ ⟨h,1,none⟩ (.int .i64 xa) (.int .i64 xb) (.int .i64 jt) (.int .i64 jk) W)=>O_ kb A1 n1 c1 zs W (lu.out.step hW.2.2.2.2).k1 (gJ W hW.2.2.2.2).t jt jk (by have:=vN.out;omega) (by have:=Af.out;omega) (by have:=HL.out;omega));rw[N7.out]at xU
     rw[ym]at tC
     have BZ:=qh ym;clear hj gJ ym;have dI:S4 w6 ⟨eb,0,none⟩ ⟨eb,1,none⟩ ⟨h,0,none⟩ ⟨h,1,none⟩ (.int .i64 xa) (.int .i64 xb) (.int .i64 jt) (.int .i64 jk) w6:=⟨N9.out.1,N9.out.2.1,N9.out.2.2.1,N9.out.2.2.2,Below.refl _ _⟩
     go_upto_region 10 with fail
     go_cut [13,14,15,16] (fun a b c d wx=>a = .int .i64 xa/\b = .int .i64 xb/\c = .int .i64 xc/\d = .int .i64 xd/\Hid (Below w6.heap.size w6 wx))
     case first =>
      go_region_held3 (S4 w6 ⟨eb,0,none⟩ ⟨eb,1,none⟩ ⟨h,0,none⟩ ⟨h,1,none⟩ (.int .i64 xa) (.int .i64 xb) (.int .i64 jt) (.int .i64 jk)) (first|assumption|exact ac1 (by assumption)) (first|(go_at_call 29;with_reducible refine(xU.out _ (by assumption)).mono ?_;rintro e wn ⟨rfl,hbr⟩;have hS1:=ac0 hbr (by assumption);clear hbr)|(go_at_call 29;with_reducible refine(tC.out _ (by assumption)).mono ?_;rintro e wn ⟨rfl,hbr⟩;have ZX:=ac0 hbr (by assumption);clear hbr)|fail)
      all_goals go_wp2
      all_goals go_meet
      all_goals exact⟨rfl,rfl,rfl,rfl,qh (show S4 w6 ⟨eb,0,none⟩ ⟨eb,1,none⟩ ⟨h,0,none⟩ ⟨h,1,none⟩ (.int .i64 xa) (.int .i64 xb) (.int .i64 jt) (.int .i64 jk) _ from by first|assumption|exact ac1 (by assumption)).2.2.2.2⟩
     case rest =>
      obtain⟨rfl,rfl,rfl,rfl,kS⟩:=hcut;have iN:=qh (lu.out.step kS.out);have HH:=qh (show wc.cell? ⟨h,0,none⟩=some (.int .i64 jt) from(kS.out.cell (ql dI.2.2.1)).trans dI.2.2.1);clear dI xU tC lu N9 kS;have hnd:=HM.out.inr (j:=3*jt+px jk) (by have:=HJ.out;have:=vN.out;have:=Af.out;unfold px;split <;> omega);rw[BZ.out,H0.out]at hnd
      obtain⟨na,rfl⟩:=Int.eq_ofNat_of_zero_le eR.out.1.1.1;obtain⟨nb,rfl⟩:=Int.eq_ofNat_of_zero_le eR.out.1.2.1;obtain⟨nc,rfl⟩:=Int.eq_ofNat_of_zero_le eR.out.2.1;obtain⟨nd,rfl⟩:=Int.eq_ofNat_of_zero_le hnd.1;have HN:=qh (show na<n0/\nb<n0/\nc<n0/\nd<n0 by have:=eR.out;omega);clear hnd eR;have Z0:W6 (nc:Int):=vn qo (by have:=HL.out;have:=HN.out;omega);have Z1:W6 (nd:Int):=vn qo (by have:=HL.out;have:=HN.out;omega);have YD:=iN.out.m.look Z0 Z1;obtain⟨r1,h1⟩:∃ x,sT (bV zs (nc:Int) (nd:Int) (3*n1))=x:=⟨_,rfl⟩
      obtain⟨r2,h2⟩:∃ x,sK (bV zs (nc:Int) (nd:Int) (3*n1))=x:=⟨_,rfl⟩
      obtain⟨o1,h3⟩:∃ x,(bV zs (nc:Int) (nd:Int) (3*n1)).isSome=x:=⟨_,rfl⟩
      rw[h1,h2,h3]at YD
      have O1:=qh h3;clear h1 h2 h3;have SM:=qh (iN.out.step ((Below.refl wc.heap.size wc).alloc (Nat.le_refl _) (.cells #[.int .i64 r1,.int .i64 r2] 70)));have YE:=SM.out.m.look Z1 Z0;obtain⟨r3,h1⟩:∃ x,sT (bV zs (nd:Int) (nc:Int) (3*n1))=x:=⟨_,rfl⟩
      obtain⟨r4,h2⟩:∃ x,sK (bV zs (nd:Int) (nc:Int) (3*n1))=x:=⟨_,rfl⟩
      obtain⟨o2,h3⟩:∃ x,(bV zs (nd:Int) (nc:Int) (3*n1)).isSome=x:=⟨_,rfl⟩
      rw[h1,h2,h3]at YE
      have O2:=qh h3;have B8:=qh (SM.out.step ((Below.refl (wc.alloc (.cells #[.int .i64 r1,.int .i64 r2] 70)).heap.size (wc.alloc (.cells #[.int .i64 r1,.int .i64 r2] 70))).alloc (Nat.le_refl _) (.cells #[.int .i64 r3,.int .i64 r4] 70)))
      have SN:=qh (show((wc.alloc (.cells #[.int .i64 r1,.int .i64 r2] 70)).alloc (.cells #[.int .i64 r3,.int .i64 r4] 70)).cell? ⟨h,0,none⟩=some (.int .i64 jt) from
       ((((Below.refl wc.heap.size wc).alloc (Nat.le_refl _) (.cells #[.int .i64 r1,.int .i64 r2] 70)).alloc (by simp) (.cells #[.int .i64 r3,.int .i64 r4] 70)).cell (ql HH.out)).trans HH.out)
      have k3:=iN.out.k3;have k4:=SM.out.k3;have lI:=qh YD;have jz:=qh YE;clear h1 h2 h3 Z0 Z1 YD YE HH SM iN;go_upto_region 13 with (first|(at_lookup;refine EU _ rfl _ _ _ _ rfl _ _ _ rfl rfl lI.out ?_)|(at_lookup;refine EU _ rfl _ _ _ _ rfl _ _ _ rfl rfl jz.out ?_)|fail)
      clear k3 k4 lI jz;generalize ((wc.alloc (.cells #[.int .i64 r1,.int .i64 r2] 70)).alloc (.cells #[.int .i64 r3,.int .i64 r4] 70))=w9 at B8 SN ⊢;obtain⟨bb,mD⟩:∃ x:Bool,(o1||(o2||(!decide (0<bJ nd nb nc)||!decide (0<bJ nd nc na))))=x:=⟨_,rfl⟩
      have HFJ:=qh (aoG HR.out Ej.out vN.out Af.out BZ.out HS.out (by have:=HQ.out;omega) O1.out O2.out mD);clear O1 O2;have x0:=B8.out.box.b0;have x1:=B8.out.box.b1;have x2:=B8.out.box.b2;have Hh:=qh (Wj A0 A1 A2 n0 c0 n1 c1 n2 c2 ps w9 (by have:=(HA.out.below B8.out.box.below HG.out.symm).p;rw[H0.out]at this;exact this) H0.out K bJ HO.out nd nb nc HN.out.2.2.2 HN.out.2.1 HN.out.2.2.1);have Z2:=qh (fun W (hW:Below w9.heap.size w9 W)=>Wj A0 A1 A2 n0 c0 n1 c1 n2 c2 ps W (by have:=(HA.out.below (B8.out.step hW).box.below HG.out.symm).p;rw[H0.out]at this;exact this) H0.out K bJ HO.out nd nc na HN.out.2.2.2 HN.out.2.2.1 HN.out.1);generalize decide (0<bJ nd nb nc)=p1 at mD Hh;generalize decide (0<bJ nd nc na)=p2 at mD Z2;go_cut [114] (fun a wx=>a = .bool bb/\Hid (Below w9.heap.size w9 wx))
      case first =>
       have rI:=qh mD;clear mD;cases o1 with
       | true =>
        go_wp2
        go_meet
        exact⟨by rw[<- rI.out];rfl,qh (Below.refl _ _)⟩
       | false =>
        cases o2 with
        | true =>
         go_wp2
         go_meet
         exact⟨by rw[<- rI.out];rfl,qh (Below.refl _ _)⟩
        | false =>
         cases p1 with
         | false =>
          go_wp2_with (refine Hh.out.mono ?_;rintro e gI ⟨rfl,hb⟩;refine Stop.out ?_)
          refine⟨?_⟩;have Dt:=qh hb;clear hb;go_wp2
          go_meet
          exact⟨by rw[<- rI.out];rfl,Dt⟩
         | true =>
          go_wp2_with (refine Hh.out.mono ?_;rintro e gI ⟨rfl,hb⟩;refine Stop.out ?_)
          refine⟨?_⟩;have Dt:=qh hb;have YF:=qh (B8.out.step hb);clear hb x0 x1 x2;have x0:=YF.out.box.b0;have x1:=YF.out.box.b1;have x2:=YF.out.box.b2;go_wp2_with (refine(Z2.out gI Dt.out).mono ?_;rintro e lV ⟨rfl,hb⟩;refine Stop.out ?_)
          refine⟨?_⟩;have xH:=qh (Dt.out.trans (hb.mono Dt.out.size));clear hb;go_wp2
          go_meet
          exact⟨by rw[<- rI.out];cases p2 <;> rfl,xH⟩
      case rest =>
       obtain⟨rfl,xH⟩:=hcut;have vC:=qh (B8.out.step xH.out);have Gt:=qh ((xH.out.cell (ql SN.out)).trans SN.out);clear Hh Z2 x0 x1 x2 B8 SN mD xH;cases bb with
       | true =>
        have eU:=qh (show vo ps zs n1 ss bJ (T:Int) (k:Int)=lT 7 from HFJ.out);obtain⟨b0,b1,b2,b3,b4,b5⟩:=z3 vC.out.br;go_wp2_with (refine sx (p:=6) (u:=7) (g:=g+1) (cs:=fI) (v := .int .i64 7) ?_ ?_ ?_ (ret3 vC.out.box.below vC.out.br (Nat.lt_succ_self g) _ _ _).1 Tryz.underlying26 ?_ ?_ ?_ ?_;exact(by kernel_rfl);exact(by kernel_rfl);exact(by kernel_rfl);rfl;exact(by kernel_rfl);rfl;rw[eU.out];exact uS.bad _ _ _ (by rw[HG.out];exact(ret3 vC.out.box.below vC.out.br (Nat.lt_succ_self g) _ _ _).2))
       | false =>
        have eU:=qh (show vo ps zs n1 ss bJ (T:Int) (k:Int)=(0,ps,xE zs T j na nb nc nd,n1,ss) from HFJ.out);have x0:=vC.out.box.b0;have x1:=vC.out.box.b1;have x2:=vC.out.box.b2;generalize wc=lV at vC Gt x0 x1 x2 ⊢;have Hi:=qh (aeI A0 A1 A2 c0 n1 c1 c2 ps zs ss lV (HA.out.below vC.out.box.below HG.out.symm) HZ.out (by rw[H0.out,H2.out];have:=HL.out;omega));rw[H0.out,H2.out]at Hi
        have hne:=aoH HM.out hD HT.out HK.out (j:=j) (by rw[SK.out,SL.out];exact Ej.out);rw[vN.out]at hne
        have tC:=qh (show jt<n1 by have:=HJ.out;have:=vN.out;omega);have By:=qh hne;clear hne;go_wp2_with (refine Hi.out.mono ?_;rintro e gh ⟨v0,v1,v2,rfl,gQ,hb⟩;refine Stop.out ?_)
        refine⟨?_⟩;obtain⟨g1,k1,rfl⟩:=gQ.blk (by have:=HT.out;omega);obtain⟨B0,d0,B1,d1,B2,d2,rfl,-,rfl,-,-⟩:=gQ.args;rw[H0.out,H2.out]at gQ ⊢
        have dA:=(Below.refl gh.heap.size gh).alloc (Nat.le_refl _) (.cells #[.slice B0 n0 d0,.slice (some ⟨g1,0,none⟩) n1 k1,.slice B2 n2 d2] 26);have YG:=qh (vC.out.step hb)
        have yq:=qh (show TI g gh.heap.size lV.heap.size w (.slice B0 n0 d0) (.slice B2 n2 d2) g1 k1 ps zs n1 ss (gh.alloc (.cells #[.slice B0 n0 d0,.slice (some ⟨g1,0,none⟩) n1 k1,.slice B2 n2 d2] 26)) from
         ⟨gQ.below dA,⟨eW YG.out.br.out dA⟩,⟨iw _ _⟩,(YG.out.step dA).box.below,Nat.le_of_lt (ql x0)⟩)
        have YH:=qh ((dA.cell (ql ((hb.cell (ql Gt.out)).trans Gt.out))).trans ((hb.cell (ql Gt.out)).trans Gt.out));have Z3:=qh (show g+1<lV.heap.size from gm vC.out.br.out);have dx:=qh (show h<lV.heap.size from ql Gt.out);clear dA gQ hb Hi x0 x1 x2 vC Gt YG;go_upto_region 16 with fail
        generalize (gh.alloc (.cells #[.slice B0 n0 d0,.slice (some ⟨g1,0,none⟩) n1 k1,.slice B2 n2 d2] 26))=oP at yq YH ⊢;generalize gh.heap.size=o at yq ⊢;generalize lV.heap.size=b at yq dx Z3;have gy:¬ g1=o:=by obtain⟨-,c,hc,-⟩:=yq.out.g1;exact y9 hc yq.out.bo.out qd
        have iV:¬ o=g1:=fun e=>gy e.symm;have rH:¬ g1=h:=by have:=yq.out.g1.1;have:=dx.out;omega
        have qK:¬ h=g1:=fun e=>rH e.symm;obtain⟨z0,z1,z2,z3,z4,z5⟩:=z3 yq.out.bo;obtain⟨c0,c1,c2,c3,c4,c5,c6,c7,c8⟩:=yq.out.cells HT.out;obtain⟨e0,e1,e2,e3,e4,e5,e6,e7,e8⟩:=yq.out.cells tC.out;have x0:=YH.out;have hT1:((T:Int)<(n1:Int))=True:=eq_true (by have:=HT.out;omega);have hT2:(T<n1)=True:=eq_true HT.out;have hT3:((0:Int)<=(T:Int))=True:=eq_true qo;have vK:((jt:Int)<(n1:Int))=True:=eq_true (by have:=tC.out;omega);have hJ2:(jt<n1)=True:=eq_true tC.out;have hJ3:((0:Int)<=(jt:Int))=True:=eq_true qo;have auT:¬ T=jt:=By.out;have iA:¬ jt=T:=fun e=>By.out e.symm;have u00:(T*3=jt*3)=False:=eq_false qo;have y00:(jt*3=T*3)=False:=eq_false qo;have u01:(T*3=jt*3+1)=False:=eq_false qo;have y01:(jt*3+1=T*3)=False:=eq_false qo;have u02:(T*3=jt*3+2)=False:=eq_false qo;have y02:(jt*3+2=T*3)=False:=eq_false qo;have u10:(T*3+1=jt*3)=False:=eq_false qo;have y10:(jt*3=T*3+1)=False:=eq_false qo;have u11:(T*3+1=jt*3+1)=False:=eq_false qo;have y11:(jt*3+1=T*3+1)=False:=eq_false qo;have u12:(T*3+1=jt*3+2)=False:=eq_false qo;have y12:(jt*3+2=T*3+1)=False:=eq_false qo;have u20:(T*3+2=jt*3)=False:=eq_false qo;have y20:(jt*3=T*3+2)=False:=eq_false qo;have u21:(T*3+2=jt*3+1)=False:=eq_false qo;have y21:(jt*3+1=T*3+2)=False:=eq_false qo;have u22:(T*3+2=jt*3+2)=False:=eq_false qo;have y22:(jt*3+2=T*3+2)=False:=eq_false qo;go_cut [21] (fun a wx=>a = .pointer (some ⟨o,0,none⟩)/\Hid (TI g o b w (.slice B0 n0 d0) (.slice B2 n2 d2) g1 k1 ps (xE zs T j na nb nc nd) n1 ss wx))
        case first =>
         go_region
         all_goals go_wp2
         all_goals go_meet
         all_goals exact⟨rfl,qh (TI.dr (by unfold xE;rw[vN.out];exact(yq.out.Gs HT.out _ _ _).Gs tC.out _ _ _))⟩
        case rest =>
         obtain⟨rfl,Hj⟩:=hcut;obtain⟨z0,z1,z2,z3,z4,z5⟩:=Go.Proofs.aA.Z.z3 Hj.out.bo;obtain⟨b0,b1,b2,b3,b4,b5⟩:=Go.Proofs.aA.Z.z3 Hj.out.br;clear yq YH c0 c1 c2 c3 c4 c5 c6 c7 c8 e0 e1 e2 e3 e4 e5 e6 e7 e8 x0 hT1 hT2 hT3 vK hJ2 hJ3 auT iA gy iV rH qK;go_wp2_with (refine sx (p:=6) (u:=7) (g:=g+1) (cs:=#[.slice B0 n0 d0,.slice (some ⟨g1,0,none⟩) n1 k1,.slice B2 n2 d2]) (v := .int .i64 0) ?_ ?_ ?_ (ret3 Hj.out.below Hj.out.br (Nat.lt_succ_self g) _ _ _).1 Tryz.underlying26 ?_ ?_ ?_ ?_;exact(by kernel_rfl);exact(by kernel_rfl);exact(by kernel_rfl);rfl;exact(by kernel_rfl);rfl;rw[eU.out];exact⟨_,_,_,rfl,Hj.out.om.ZY Z3.out (by rw[HG.out];have:=Z3.out;omega) _ _ _,by rw[HG.out];exact(ret3 Hj.out.below Hj.out.br (Nat.lt_succ_self g) _ _ _).2⟩)
end Go.Proofs.YtfcjnhkkfmgmpaaGreat
