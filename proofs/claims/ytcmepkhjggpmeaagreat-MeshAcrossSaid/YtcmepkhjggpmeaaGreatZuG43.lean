import Derived.Test.YtcmepkhjggpmeaaGreatZuG42
set_option linter.all false
set_option maxRecDepth 100000
set_option maxHeartbeats 8000000
namespace Go.Proofs.YtcmepkhjggpmeaaGreat
open Go.RowKit aP Go.Proofs.aF.R Go.Proofs.aF.Z Go.Proofs.aD.aY
abbrev S4 (w0:World) (p0 p1 p2 p3:Addr) (v0 v1 v2 v3:Value) (W:World):Prop:=W.cell? p0=some v0/\W.cell? p1=some v1/\W.cell? p2=some v2/\W.cell? p3=some v3/\Below w0.heap.size w0 W
theorem ZQ {w0 W W':World} {p0 p1 p2 p3:Addr} {v0 v1 v2 v3:Value} (hb:Below W.heap.size W W') (h:S4 w0 p0 p1 p2 p3 v0 v1 v2 v3 W):S4 w0 p0 p1 p2 p3 v0 v1 v2 v3 W' :=
 ⟨(hb.cell (ql h.1)).trans h.1,(hb.cell (ql h.2.1)).trans h.2.1,(hb.cell (ql h.2.2.1)).trans h.2.2.1,(hb.cell (ql h.2.2.2.1)).trans h.2.2.2.1,h.2.2.2.2.trans (hb.mono h.2.2.2.2.size)⟩
theorem ZR {w0 W:World} {p0 p1 p2 p3:Addr} {v0 v1 v2 v3:Value} (h:S4 w0 p0 p1 p2 p3 v0 v1 v2 v3 W):S4 w0 p0 p1 p2 p3 v0 v1 v2 v3 W.drew:=⟨h.1,h.2.1,h.2.2.1,h.2.2.2.1,h.2.2.2.2.drew⟩
abbrev S3 (w0:World) (p0 p1 p2:Addr) (v0 v1 v2:Value) (W:World):Prop:=W.cell? p0=some v0/\W.cell? p1=some v1/\W.cell? p2=some v2/\Below w0.heap.size w0 W
theorem SC {w0 W W':World} {p0 p1 p2:Addr} {v0 v1 v2:Value} (hb:Below W.heap.size W W') (h:S3 w0 p0 p1 p2 v0 v1 v2 W):S3 w0 p0 p1 p2 v0 v1 v2 W' :=
 ⟨(hb.cell (ql h.1)).trans h.1,(hb.cell (ql h.2.1)).trans h.2.1,(hb.cell (ql h.2.2.1)).trans h.2.2.1,h.2.2.2.trans (hb.mono h.2.2.2.size)⟩
theorem Na {w0 W:World} {p0 p1 p2:Addr} {v0 v1 v2:Value} (h:S3 w0 p0 p1 p2 v0 v1 v2 W):S3 w0 p0 p1 p2 v0 v1 v2 W.drew:=⟨h.1,h.2.1,h.2.2.1,h.2.2.2.drew⟩
theorem Yn {w0 W:World} {p0 p1 p2:Addr} {v0 v1 v2:Value} (o:Obj) (h:S3 w0 p0 p1 p2 v0 v1 v2 W):S3 w0 p0 p1 p2 v0 v1 v2 (W.alloc o):=SC ((Below.refl _ _).alloc (Nat.le_refl _) _) h
theorem ZS {w0 W:World} {p0 p1 p2:Addr} {v0 v1 v2:Value} (h0:S3 w0 p0 p1 p2 v0 v1 v2 w0) (h:S3 w0 p0 p1 p2 v0 v1 v2 W) {q:Nat} (hq:w0.heap.size<=q) (u v:Value):S3 w0 p0 p1 p2 v0 v1 v2 ((W.setCell ⟨q,0,none⟩ u).setCell ⟨q,1,none⟩ v):=by
 have hb:=(h.2.2.2.setCell (p:=⟨q,0,none⟩) hq u).setCell (p:=⟨q,1,none⟩) hq v;exact⟨(hb.cell (ql h0.1)).trans h0.1,(hb.cell (ql h0.2.1)).trans h0.2.1,(hb.cell (ql h0.2.2.1)).trans h0.2.2.1,hb⟩
theorem aan (A0 A1 A2:Option Addr) (c0 n1 c1 c2:Nat) (ps:PS) (zs:List Int) (ss:SS) (w:World) (hA:ow w A0 A1 A2 c0 c2 ps zs n1 ss) (hz:zs.length=3*n1) (K:Nat) (hK:nB.f K ps=some 0) (bn:Nat->Nat->Nat->Int) (hO:CP K ps bn) (hM:n9 ps.length zs n1 ss bn) (hD:∀ i j k,0<bn i j k->i≠j/\j≠k/\k≠i) (t k:Int) :
  Calls Tryz.prog 18 #[.agg #[.slice A0 ps.length c0,.slice A1 n1 c1,.slice A2 ss.length c2],.int .i64 t,.int .i64 k] w fun e w'=>DT w (tK ps zs n1 ss bn t k) e w':=by
 obtain⟨n0,hn0⟩:∃ n,ps.length=n:=⟨_,rfl⟩
 obtain⟨n2,hn2⟩:∃ n,ss.length=n:=⟨_,rfl⟩
 have HL:=qh (show n0<=400/\n1<=900/\n2<=1300 from ⟨hn0 ▸ hM.l0,hM.l1,hn2 ▸ hM.l2⟩);have hb1:Below w.heap.size w ((w.alloc (.cells #[.slice A0 n0 c0,.slice A1 n1 c1,.slice A2 n2 c2] 26)).alloc (.cells rI 26)):=((Below.refl _ _).alloc (Nat.le_refl _) _).alloc (by simp) _
 have bu:=qh (show MB w.heap.size w A0 A1 A2 n0 c0 n1 c1 n2 c2 ((w.alloc (.cells #[.slice A0 n0 c0,.slice A1 n1 c1,.slice A2 n2 c2] 26)).alloc (.cells rI 26)) from
  (MB.new w A0 A1 A2 n0 c0 n1 c1 n2 c2).step ((Below.refl _ _).alloc (Nat.le_refl _) _))
 have WI:=qh (show((w.alloc (.cells #[.slice A0 n0 c0,.slice A1 n1 c1,.slice A2 n2 c2] 26)).alloc (.cells rI 26)).heap[w.heap.size+1]?=some (.cells rI 26 (0,0)) from by have:=jE (w.alloc (.cells #[.slice A0 n0 c0,.slice A1 n1 c1,.slice A2 n2 c2] 26)) (.cells rI 26);simpa using this);have s9:=qh (Mq A0 A1 A2 c0 n1 c1 c2 ps zs ss _ (hA.below hb1 rfl) K hK bn hO hM);rw[hn0,hn2]at s9
 have H0:=qh hn0;have H2:=qh hn2;have HZ:=qh hz;have HA:=qh hA;have HO:=qh hO;have HM:=qh hM;rw[hn0,hn2];clear hA hz hK hO hM hn0 hn2 hb1;obtain⟨g,hg⟩:∃ g,w.heap.size=g:=⟨_,rfl⟩
 have HG:=qh hg;rw[hg]at bu WI
 have q0:=bu.out.b0;have q1:=bu.out.b1;have q2:=bu.out.b2;go_enter Tryz.func18,Tryz.ntmps18;go_wp2_with (refine s9.out.mono ?_;rintro e w2 ⟨kb,B,rfl,hkb,hB,hmp,e0,e1,e2,e3,hb⟩;refine Stop.out ?_)
 refine⟨?_⟩;have jA:=qh (show FI g kb B w A0 A1 A2 n0 c0 n1 c1 n2 c2 zs w2 from ⟨bu.out.step hb,⟨gP WI.out hb⟩,hmp,e1,e3⟩);clear hb hmp hB s9 bu WI q0 q1 q2 e0 e2 e3 e1 hkb;cases hB:sq n1 t k with
 | false =>
  have uj:=qh (Yk kb A1 n1 c1 w2 jA.out.k1 t k hB);go_wp2_with (refine uj.out.mono ?_;rintro e w3 ⟨rfl,hb⟩;refine Stop.out ?_)
  refine⟨?_⟩;have iZ:=qh (jA.out.step hb);have mI:=qh (iZ.out.step ((Below.refl w3.heap.size w3).alloc (Nat.le_refl _) (.cells #[.int .i64 0,.int .i64 0] 73)));have gy:=qh (show tK ps zs n1 ss bn t k=uV 1 from if_neg (by rw[hB];decide));clear hb uj jA hB iZ;go_upto_region 6 with fail
  generalize (w3.alloc (.cells #[.int .i64 0,.int .i64 0] 73))=w4 at mI ⊢;obtain⟨b0,b1,b2,b3,b4,b5⟩:=z3 mI.out.br;go_wp2_with (refine Gq (p:=6) (u:=7) (g:=g+1) (cs:=rI) (v := .int .i64 1) ?_ ?_ ?_ (ret3 mI.out.box.below mI.out.br (Nat.lt_succ_self g) _ _ _).1 Tryz.underlying26 ?_ ?_ ?_ ?_;exact(by kernel_rfl);exact(by kernel_rfl);exact(by kernel_rfl);rfl;exact(by kernel_rfl);rfl;rw[gy.out];exact DT.bad _ _ _ (by rw[HG.out];exact(ret3 mI.out.box.below mI.out.br (Nat.lt_succ_self g) _ _ _).2))
 | true =>
  have hR:=hB;unfold sq at hR;simp only[Bool.and_eq_true,decide_eq_true_eq]at hR;obtain⟨⟨⟨a1,a2⟩,a3⟩,a4⟩:=hR;obtain⟨T,rfl⟩:=Int.eq_ofNat_of_zero_le a1;obtain⟨k,rfl⟩:=Int.eq_ofNat_of_zero_le a3;have hT:T<n1:=by omega
  have hk:k<=2:=by omega
  have gA:=qh (HA.out.below jA.out.box.below HG.out.symm);have uj:=qh (Zd kb A1 n1 c1 zs w2 jA.out.k1 gA.out.t T k hT hk (by have:=HL.out;omega));have HR:=qh (show tK ps zs n1 ss bn (T:Int) (k:Int)=_ from if_pos hB);simp only[Int.toNat_natCast]at HR;have HT:=qh hT;have HK:=qh hk;have gU:=HM.out.inr (j:=3*T+k) qo;have eE:=HM.out.inr (j:=3*T+nx k) (by unfold nx;split <;> omega);have lZ:=HM.out.inr (j:=3*T+px k) (by unfold px;split <;> omega);obtain⟨xa,iR⟩:∃ x,zs.getD (3*T+k) 0=x:=⟨_,rfl⟩
  obtain⟨xb,iT⟩:∃ x,zs.getD (3*T+nx k) 0=x:=⟨_,rfl⟩
  obtain⟨xc,lX⟩:∃ x,zs.getD (3*T+px k) 0=x:=⟨_,rfl⟩
  rw[iR,iT]at uj
  rw[iR,iT,lX]at HR
  rw[iR]at gU
  rw[iT]at eE
  rw[lX]at lZ
  have LJ:=qh lX;have dR:=qh (show((0<=xa/\xa<n0)/\0<=xb/\xb<n0)/\0<=xc/\xc<n0 from H0.out ▸ ⟨⟨gU,eE⟩,lZ⟩);have LK:=qh iR;have LL:=qh iT;clear iR iT lX gU eE lZ hT hk a1 a2 a3 a4 hB gA;go_wp2_with (refine uj.out.mono ?_;rintro e w3 ⟨rfl,hb⟩;refine Stop.out ?_)
  refine⟨?_⟩;have iZ:=qh (jA.out.step hb);clear hb uj jA;have mI:=qh (iZ.out.step ((Below.refl w3.heap.size w3).alloc (Nat.le_refl _) (.cells #[.int .i64 xa,.int .i64 xb] 73)));have d0:(w3.alloc (.cells #[.int .i64 xa,.int .i64 xb] 73)).cell? ⟨w3.heap.size,0,none⟩=some (.int .i64 xa):=by simp[go_sem]
  have d1:(w3.alloc (.cells #[.int .i64 xa,.int .i64 xb] 73)).cell? ⟨w3.heap.size,1,none⟩=some (.int .i64 xb):=by simp[go_sem]
  clear iZ;go_upto_region 7 with fail
  generalize (w3.alloc (.cells #[.int .i64 xa,.int .i64 xb] 73))=w4 at mI d0 d1 ⊢;generalize w3.heap.size=eb at d0 d1 ⊢;have wa:W6 xa:=uH dR.out.1.1.1 (by have:=HL.out;have:=dR.out;omega);have wb:W6 xb:=uH dR.out.1.2.1 (by have:=HL.out;have:=dR.out;omega);have xV:=qh (fun W=>S_ xa xb W);have hlk:∀ W,Below w4.heap.size w4 W->_:=fun W hW=>(mI.out.step hW).m.look wb wa;have k3:=mI.out.k3;have cQ:w4.cell? ⟨kb,3,none⟩=some (.map (some B))/\w4.cell? ⟨eb,0,none⟩=some (.int .i64 xa)/\w4.cell? ⟨eb,1,none⟩=some (.int .i64 xb)/\Below w4.heap.size w4 w4:=⟨k3,d0,d1,Below.refl _ _⟩
  obtain⟨s1,hs1⟩:∃ x,sT (bK zs xb xa (3*n1))=x:=⟨_,rfl⟩
  obtain⟨s2,hs2⟩:∃ x,sK (bK zs xb xa (3*n1))=x:=⟨_,rfl⟩
  obtain⟨s3,hs3⟩:∃ x,(bK zs xb xa (3*n1)).isSome=x:=⟨_,rfl⟩
  rw[hs1,hs2,hs3]at hlk
  have X1:=qh hs1;have X2:=qh hs2;have X3:=qh hs3;clear hs1 hs2 hs3 wa wb k3 d0 d1;go_cut [11,12] (fun a b wx=>∃ h:Nat,a = .pointer (some ⟨h,0,none⟩)/\b = .bool s3/\Hid ((w4.heap.size<=h/\Below w4.heap.size w4 wx)/\wx.cell? ⟨h,0,none⟩=some (.int .i64 s1)/\wx.cell? ⟨h,1,none⟩=some (.int .i64 s2)))
  case first =>
   go_region_held3 (S3 w4 ⟨kb,3,none⟩ ⟨eb,0,none⟩ ⟨eb,1,none⟩ (.map (some B)) (.int .i64 xa) (.int .i64 xb)) (first|assumption|exact Na (by assumption)|exact Yn _ (by assumption)|exact ZS cQ hS1 (Nat.le_refl _) _ _) (first|(go_at_call 32;refine(xV.out _).mono ?_;rintro e wn ⟨rfl,hbr⟩;have hS1:=SC hbr (by assumption);first|(have p0:=(hbr.cell (p:=⟨w4.heap.size,0,none⟩) (by simp)).trans (show(World.alloc w4 (.cells #[.int .i64 0,.int .i64 0] 77)).cell? ⟨w4.heap.size,0,none⟩=some (.int .i64 0) by simp[go_sem]);have p1:=(hbr.cell (p:=⟨w4.heap.size,1,none⟩) (by simp)).trans (show(World.alloc w4 (.cells #[.int .i64 0,.int .i64 0] 77)).cell? ⟨w4.heap.size,1,none⟩=some (.int .i64 0) by simp[go_sem]);have p2:=(hbr.frozen (p:=⟨w4.heap.size,0,none⟩) (by simp)).trans (show(World.alloc w4 (.cells #[.int .i64 0,.int .i64 0] 77)).frozen? ⟨w4.heap.size,0,none⟩=false by simp[go_sem]);have p3:=(hbr.frozen (p:=⟨w4.heap.size,1,none⟩) (by simp)).trans (show(World.alloc w4 (.cells #[.int .i64 0,.int .i64 0] 77)).frozen? ⟨w4.heap.size,1,none⟩=false by simp[go_sem]))|skip;clear hbr)|fail)
   all_goals go_wp2
   all_goals go_meet
   all_goals refine⟨_,rfl,rfl,qh ⟨⟨?_,(show S3 w4 ⟨kb,3,none⟩ ⟨eb,0,none⟩ ⟨eb,1,none⟩ (.map (some B)) (.int .i64 xa) (.int .i64 xb) _ from by first|assumption|exact Na (by assumption)).2.2.2⟩,?_,?_⟩⟩
   all_goals first|exact Nat.le_refl _|exact hS1.2.2.2.size|(simp[go_sem];done)|(simp[go_sem,p0,p1,p2,p3];done)
  case rest =>
   obtain⟨h,rfl,rfl,HU⟩:=hcut;have wU:=qh (mI.out.step HU.out.1.2)
   have HD:=qh (show wc.cell? ⟨eb,0,none⟩=some (.int .i64 xa)/\wc.cell? ⟨eb,1,none⟩=some (.int .i64 xb)/\wc.cell? ⟨h,0,none⟩=some (.int .i64 s1)/\wc.cell? ⟨h,1,none⟩=some (.int .i64 s2) from
    ⟨(HU.out.1.2.cell (ql cQ.2.1)).trans cQ.2.1,(HU.out.1.2.cell (ql cQ.2.2.1)).trans cQ.2.2.1,HU.out.2.1,HU.out.2.2⟩)
   clear hlk cQ mI HU xV;generalize hfo:bK zs xb xa (3*n1)=fo at X1 X2 X3;cases fo with
   | none =>
    have gy:=qh (show tK ps zs n1 ss bn (T:Int) (k:Int)=uV 7 by rw[HR.out,show uI zs n1 ss bn xa xb xc=none by unfold uI;rw[hfo]]);have hs3:s3=false:=X3.out.symm;subst hs3;clear hfo;obtain⟨b0,b1,b2,b3,b4,b5⟩:=z3 wU.out.br;go_wp2_with (refine Gq (p:=6) (u:=7) (g:=g+1) (cs:=rI) (v := .int .i64 7) ?_ ?_ ?_ (ret3 wU.out.box.below wU.out.br (Nat.lt_succ_self g) _ _ _).1 Tryz.underlying26 ?_ ?_ ?_ ?_;exact(by kernel_rfl);exact(by kernel_rfl);exact(by kernel_rfl);rfl;exact(by kernel_rfl);rfl;rw[gy.out];exact DT.bad _ _ _ (by rw[HG.out];exact(ret3 wU.out.box.below wU.out.br (Nat.lt_succ_self g) _ _ _).2))
   | some j =>
    have hs1:((j / 3:Nat):Int)=s1:=X1.out;have hs2:((j%3:Nat):Int)=s2:=X2.out;have hs3:s3=true:=X3.out.symm;obtain⟨jt,hjt⟩:∃ x,j / 3=x:=⟨_,rfl⟩
    obtain⟨jk,hjk⟩:∃ x,j%3=x:=⟨_,rfl⟩
    rw[hjt]at hs1
    rw[hjk]at hs2
    have AK:=qh hjt;have Ir:=qh hjk;clear hjt hjk;subst hs1 hs2 hs3;have Iq:=qh hfo;clear hfo X1 X2 X3;have Lr:=qh (alj A0 A1 A2 n0 c0 n1 c1 n2 c2 ss xa xb wc (by have:=(HA.out.below wU.out.box.below HG.out.symm).s;rw[H2.out]at this;exact this) H2.out (by have:=HL.out;omega));rw[show nT (nA ss xa xb) n2=nT (nA ss xa xb) ss.length by rw[H2.out],show oI (nT (nA ss xa xb) ss.length)=yf ss xa xb from rfl]at Lr
    have x0:=wU.out.box.b0;have x1:=wU.out.box.b1;have x2:=wU.out.box.b2;have y0:=HD.out.1;have y1:=HD.out.2.1;go_wp2_with (refine Lr.out.mono ?_;rintro e w6 ⟨rfl,hb⟩;refine Stop.out ?_)
    refine⟨?_⟩;have yg:=qh (wU.out.step hb)
    have LM:=qh (show w6.cell? ⟨eb,0,none⟩=some (.int .i64 xa)/\w6.cell? ⟨eb,1,none⟩=some (.int .i64 xb)/\w6.cell? ⟨h,0,none⟩=some (.int .i64 jt)/\w6.cell? ⟨h,1,none⟩=some (.int .i64 jk) from
     ⟨(hb.cell (ql HD.out.1)).trans HD.out.1,(hb.cell (ql HD.out.2.1)).trans HD.out.2.1,(hb.cell (ql HD.out.2.2.1)).trans HD.out.2.2.1,(hb.cell (ql HD.out.2.2.2)).trans HD.out.2.2.2⟩)
    clear hb Lr wU HD x0 x1 x2 y0 y1;obtain⟨sg,WJ⟩:∃ x,yf ss xa xb=x:=⟨_,rfl⟩
    rw[WJ];have HS:=qh WJ;clear WJ;by_cases hq:0<=sg
    ·have e1:decide (0<=sg)=true:=decide_eq_true hq
     have gy:=qh (show tK ps zs n1 ss bn (T:Int) (k:Int)=uV 7 by rw[HR.out,show uI zs n1 ss bn xa xb xc=none by unfold uI;rw[Iq.out];exact if_pos (.inl (HS.out ▸ hq))]);clear hq;obtain⟨b0,b1,b2,b3,b4,b5⟩:=z3 yg.out.br;go_wp2_with (refine Gq (p:=6) (u:=7) (g:=g+1) (cs:=rI) (v := .int .i64 7) ?_ ?_ ?_ (ret3 yg.out.box.below yg.out.br (Nat.lt_succ_self g) _ _ _).1 Tryz.underlying26 ?_ ?_ ?_ ?_;exact(by kernel_rfl);exact(by kernel_rfl);exact(by kernel_rfl);rfl;exact(by kernel_rfl);rfl;rw[gy.out];exact DT.bad _ _ _ (by rw[HG.out];exact(ret3 yg.out.box.below yg.out.br (Nat.lt_succ_self g) _ _ _).2))
    ·have e1:decide (0<=sg)=false:=decide_eq_false hq
     have HQ:=qh hq;clear hq;have hj:=FO Iq.out;have HJ:=qh hj.1;have gA:=fun W (hW:Below w6.heap.size w6 W)=>HA.out.below (yg.out.step hW).box.below HG.out.symm;obtain⟨xd,WK⟩:∃ x,zs.getD (3*jt+px jk) 0=x:=⟨_,rfl⟩
     have H9:=qh (fun W (hW:S4 w6 ⟨eb,0,none⟩ ⟨eb,1,none⟩ ⟨h,0,none⟩ ⟨h,1,none⟩ (.int .i64 xa) (.int .i64 xb) (.int .i64 jt) (.int .i64 jk) W)=>Zc kb A1 n1 c1 zs W (yg.out.step hW.2.2.2.2).k1 (gA W hW.2.2.2.2).t T k HT.out HK.out (by have:=HL.out;omega));have wI:=qh (fun W (hW:S4 w6 ⟨eb,0,none⟩ ⟨eb,1,none⟩ ⟨h,0,none⟩ ⟨h,1,none⟩ (.int .i64 xa) (.int .i64 xb) (.int .i64 jt) (.int .i64 jk) W)=>Zc kb A1 n1 c1 zs W (yg.out.step hW.2.2.2.2).k1 (gA W hW.2.2.2.2).t jt jk (by have:=AK.out;omega) (by have:=Ir.out;omega) (by have:=HL.out;omega));rw[LJ.out]at H9
     rw[WK]at wI
     have LI:=qh WK;clear hj gA WK;have cQ:S4 w6 ⟨eb,0,none⟩ ⟨eb,1,none⟩ ⟨h,0,none⟩ ⟨h,1,none⟩ (.int .i64 xa) (.int .i64 xb) (.int .i64 jt) (.int .i64 jk) w6:=⟨LM.out.1,LM.out.2.1,LM.out.2.2.1,LM.out.2.2.2,Below.refl _ _⟩
     go_upto_region 10 with fail
     go_cut [13,14,15,16] (fun a b c d wx=>a = .int .i64 xa/\b = .int .i64 xb/\c = .int .i64 xc/\d = .int .i64 xd/\Hid (Below w6.heap.size w6 wx))
     case first =>
      go_region_held3 (S4 w6 ⟨eb,0,none⟩ ⟨eb,1,none⟩ ⟨h,0,none⟩ ⟨h,1,none⟩ (.int .i64 xa) (.int .i64 xb) (.int .i64 jt) (.int .i64 jk)) (first|assumption|exact ZR (by assumption)) (first|(go_at_call 45;with_reducible refine(H9.out _ (by assumption)).mono ?_;rintro e wn ⟨rfl,hbr⟩;have hS1:=ZQ hbr (by assumption);clear hbr)|(go_at_call 45;with_reducible refine(wI.out _ (by assumption)).mono ?_;rintro e wn ⟨rfl,hbr⟩;have WG:=ZQ hbr (by assumption);clear hbr)|fail)
      all_goals go_wp2
      all_goals go_meet
      all_goals exact⟨rfl,rfl,rfl,rfl,qh (show S4 w6 ⟨eb,0,none⟩ ⟨eb,1,none⟩ ⟨h,0,none⟩ ⟨h,1,none⟩ (.int .i64 xa) (.int .i64 xb) (.int .i64 jt) (.int .i64 jk) _ from by first|assumption|exact ZR (by assumption)).2.2.2.2⟩
     case rest =>
      obtain⟨rfl,rfl,rfl,rfl,lp⟩:=hcut;have PW:=qh (yg.out.step lp.out);have HH:=qh (show wc.cell? ⟨h,0,none⟩=some (.int .i64 jt) from(lp.out.cell (ql cQ.2.2.1)).trans cQ.2.2.1);clear cQ H9 wI yg LM lp;have hnd:=HM.out.inr (j:=3*jt+px jk) (by have:=HJ.out;have:=AK.out;have:=Ir.out;unfold px;split <;> omega);rw[LI.out,H0.out]at hnd
      obtain⟨na,rfl⟩:=Int.eq_ofNat_of_zero_le dR.out.1.1.1;obtain⟨nb,rfl⟩:=Int.eq_ofNat_of_zero_le dR.out.1.2.1;obtain⟨nc,rfl⟩:=Int.eq_ofNat_of_zero_le dR.out.2.1;obtain⟨nd,rfl⟩:=Int.eq_ofNat_of_zero_le hnd.1;have HN:=qh (show na<n0/\nb<n0/\nc<n0/\nd<n0 by have:=dR.out;omega);clear hnd dR;have WL:W6 (nc:Int):=uH qo (by have:=HL.out;have:=HN.out;omega);have WM:W6 (nd:Int):=uH qo (by have:=HL.out;have:=HN.out;omega);have Vx:=PW.out.m.look WL WM;obtain⟨r1,h1⟩:∃ x,sT (bK zs (nc:Int) (nd:Int) (3*n1))=x:=⟨_,rfl⟩
      obtain⟨r2,h2⟩:∃ x,sK (bK zs (nc:Int) (nd:Int) (3*n1))=x:=⟨_,rfl⟩
      obtain⟨o1,h3⟩:∃ x,(bK zs (nc:Int) (nd:Int) (3*n1)).isSome=x:=⟨_,rfl⟩
      rw[h1,h2,h3]at Vx
      have O1:=qh h3;clear h1 h2 h3;have PX:=qh (PW.out.step ((Below.refl wc.heap.size wc).alloc (Nat.le_refl _) (.cells #[.int .i64 r1,.int .i64 r2] 77)));have Vy:=PX.out.m.look WM WL;obtain⟨r3,h1⟩:∃ x,sT (bK zs (nd:Int) (nc:Int) (3*n1))=x:=⟨_,rfl⟩
      obtain⟨r4,h2⟩:∃ x,sK (bK zs (nd:Int) (nc:Int) (3*n1))=x:=⟨_,rfl⟩
      obtain⟨o2,h3⟩:∃ x,(bK zs (nd:Int) (nc:Int) (3*n1)).isSome=x:=⟨_,rfl⟩
      rw[h1,h2,h3]at Vy
      have O2:=qh h3;have AL:=qh (PX.out.step ((Below.refl (wc.alloc (.cells #[.int .i64 r1,.int .i64 r2] 77)).heap.size (wc.alloc (.cells #[.int .i64 r1,.int .i64 r2] 77))).alloc (Nat.le_refl _) (.cells #[.int .i64 r3,.int .i64 r4] 77)))
      have PY:=qh (show((wc.alloc (.cells #[.int .i64 r1,.int .i64 r2] 77)).alloc (.cells #[.int .i64 r3,.int .i64 r4] 77)).cell? ⟨h,0,none⟩=some (.int .i64 jt) from
       ((((Below.refl wc.heap.size wc).alloc (Nat.le_refl _) (.cells #[.int .i64 r1,.int .i64 r2] 77)).alloc (by simp) (.cells #[.int .i64 r3,.int .i64 r4] 77)).cell (ql HH.out)).trans HH.out)
      have k3:=PW.out.k3;have k4:=PX.out.k3;have kC:=qh Vx;have iU:=qh Vy;clear h1 h2 h3 WL WM Vx Vy HH PX PW;go_upto_region 13 with (first|(at_lookup;refine yA _ rfl _ _ _ _ rfl _ _ _ rfl rfl kC.out ?_)|(at_lookup;refine yA _ rfl _ _ _ _ rfl _ _ _ rfl rfl iU.out ?_)|fail)
      clear k3 k4 kC iU;generalize ((wc.alloc (.cells #[.int .i64 r1,.int .i64 r2] 77)).alloc (.cells #[.int .i64 r3,.int .i64 r4] 77))=w9 at AL PY ⊢;obtain⟨bb,CQ⟩:∃ x:Bool,(o1||(o2||(!decide (0<bn nd nb nc)||!decide (0<bn nd nc na))))=x:=⟨_,rfl⟩
      have HFJ:=qh (alp HR.out Iq.out AK.out Ir.out LI.out HS.out (by have:=HQ.out;omega) O1.out O2.out CQ);clear O1 O2;have x0:=AL.out.box.b0;have x1:=AL.out.box.b1;have x2:=AL.out.box.b2;have AI:=qh (Tg A0 A1 A2 n0 c0 n1 c1 n2 c2 ps w9 (by have:=(HA.out.below AL.out.box.below HG.out.symm).p;rw[H0.out]at this;exact this) H0.out K bn HO.out nd nb nc HN.out.2.2.2 HN.out.2.1 HN.out.2.2.1);have WN:=qh (fun W (hW:Below w9.heap.size w9 W)=>Tg A0 A1 A2 n0 c0 n1 c1 n2 c2 ps W (by have:=(HA.out.below (AL.out.step hW).box.below HG.out.symm).p;rw[H0.out]at this;exact this) H0.out K bn HO.out nd nc na HN.out.2.2.2 HN.out.2.2.1 HN.out.1);generalize decide (0<bn nd nb nc)=p1 at CQ AI;generalize decide (0<bn nd nc na)=p2 at CQ WN;go_cut [114] (fun a wx=>a = .bool bb/\Hid (Below w9.heap.size w9 wx))
      case first =>
       have Ip:=qh CQ;clear CQ;cases o1 with
       | true =>
        go_wp2
        go_meet
        exact⟨by rw[<- Ip.out];rfl,qh (Below.refl _ _)⟩
       | false =>
        cases o2 with
        | true =>
         go_wp2
         go_meet
         exact⟨by rw[<- Ip.out];rfl,qh (Below.refl _ _)⟩
        | false =>
         cases p1 with
         | false =>
          go_wp2_with (refine AI.out.mono ?_;rintro e iC ⟨rfl,hb⟩;refine Stop.out ?_)
          refine⟨?_⟩;have KF:=qh hb;clear hb;go_wp2
          go_meet
          exact⟨by rw[<- Ip.out];rfl,KF⟩
         | true =>
          go_wp2_with (refine AI.out.mono ?_;rintro e iC ⟨rfl,hb⟩;refine Stop.out ?_)
          refine⟨?_⟩;have KF:=qh hb;have Vz:=qh (AL.out.step hb);clear hb x0 x1 x2;have x0:=Vz.out.box.b0;have x1:=Vz.out.box.b1;have x2:=Vz.out.box.b2;go_wp2_with (refine(WN.out iC KF.out).mono ?_;rintro e nk ⟨rfl,hb⟩;refine Stop.out ?_)
          refine⟨?_⟩;have zi:=qh (KF.out.trans (hb.mono KF.out.size));clear hb;go_wp2
          go_meet
          exact⟨by rw[<- Ip.out];cases p2 <;> rfl,zi⟩
      case rest =>
       obtain⟨rfl,zi⟩:=hcut;have tT:=qh (AL.out.step zi.out);have EB:=qh ((zi.out.cell (ql PY.out)).trans PY.out);clear AI WN x0 x1 x2 AL PY CQ zi;cases bb with
       | true =>
        have gy:=qh (show tK ps zs n1 ss bn (T:Int) (k:Int)=uV 7 from HFJ.out);obtain⟨b0,b1,b2,b3,b4,b5⟩:=z3 tT.out.br;go_wp2_with (refine Gq (p:=6) (u:=7) (g:=g+1) (cs:=rI) (v := .int .i64 7) ?_ ?_ ?_ (ret3 tT.out.box.below tT.out.br (Nat.lt_succ_self g) _ _ _).1 Tryz.underlying26 ?_ ?_ ?_ ?_;exact(by kernel_rfl);exact(by kernel_rfl);exact(by kernel_rfl);rfl;exact(by kernel_rfl);rfl;rw[gy.out];exact DT.bad _ _ _ (by rw[HG.out];exact(ret3 tT.out.box.below tT.out.br (Nat.lt_succ_self g) _ _ _).2))
       | false =>
        have gy:=qh (show tK ps zs n1 ss bn (T:Int) (k:Int)=(0,ps,wk zs T j na nb nc nd,n1,ss) from HFJ.out);have x0:=tT.out.box.b0;have x1:=tT.out.box.b1;have x2:=tT.out.box.b2;generalize wc=nk at tT EB x0 x1 x2 ⊢;have WO:=qh (anw A0 A1 A2 c0 n1 c1 c2 ps zs ss nk (HA.out.below tT.out.box.below HG.out.symm) HZ.out (by rw[H0.out,H2.out];have:=HL.out;omega));rw[H0.out,H2.out]at WO
        have hne:=alq HM.out hD HT.out HK.out (j:=j) (by rw[LK.out,LL.out];exact Iq.out);rw[AK.out]at hne
        have wI:=qh (show jt<n1 by have:=HJ.out;have:=AK.out;omega);have wD:=qh hne;clear hne;go_wp2_with (refine WO.out.mono ?_;rintro e iH ⟨v0,v1,v2,rfl,n_,hb⟩;refine Stop.out ?_)
        refine⟨?_⟩;obtain⟨g1,k1,rfl⟩:=n_.blk (by have:=HT.out;omega);obtain⟨B0,d0,B1,d1,B2,d2,rfl,-,rfl,-,-⟩:=n_.args;rw[H0.out,H2.out]at n_ ⊢
        have gT:=(Below.refl iH.heap.size iH).alloc (Nat.le_refl _) (.cells #[.slice B0 n0 d0,.slice (some ⟨g1,0,none⟩) n1 k1,.slice B2 n2 d2] 26);have VA:=qh (tT.out.step hb)
        have wV:=qh (show TI g iH.heap.size nk.heap.size w (.slice B0 n0 d0) (.slice B2 n2 d2) g1 k1 ps zs n1 ss (iH.alloc (.cells #[.slice B0 n0 d0,.slice (some ⟨g1,0,none⟩) n1 k1,.slice B2 n2 d2] 26)) from
         ⟨n_.below gT,⟨gP VA.out.br.out gT⟩,⟨jE _ _⟩,(VA.out.step gT).box.below,Nat.le_of_lt (ql x0)⟩)
        have VB:=qh ((gT.cell (ql ((hb.cell (ql EB.out)).trans EB.out))).trans ((hb.cell (ql EB.out)).trans EB.out));have WQ:=qh (show g+1<nk.heap.size from oh tT.out.br.out);have dM:=qh (show h<nk.heap.size from ql EB.out);clear gT n_ hb WO x0 x1 x2 tT EB VA;go_upto_region 16 with fail
        generalize (iH.alloc (.cells #[.slice B0 n0 d0,.slice (some ⟨g1,0,none⟩) n1 k1,.slice B2 n2 d2] 26))=oL at wV VB ⊢;generalize iH.heap.size=o at wV ⊢;generalize nk.heap.size=b at wV dM WQ;have kN:¬ g1=o:=by obtain⟨-,c,hc,-⟩:=wV.out.g1;exact Ti hc wV.out.bo.out qd
        have lB:¬ o=g1:=fun e=>kN e.symm;have xX:¬ g1=h:=by have:=wV.out.g1.1;have:=dM.out;omega
        have Ax:¬ h=g1:=fun e=>xX e.symm;obtain⟨z0,z1,z2,z3,z4,z5⟩:=z3 wV.out.bo;obtain⟨c0,c1,c2,c3,c4,c5,c6,c7,c8⟩:=wV.out.cells HT.out;obtain⟨e0,e1,e2,e3,e4,e5,e6,e7,e8⟩:=wV.out.cells wI.out;have x0:=VB.out;have LN:((T:Int)<(n1:Int))=True:=eq_true (by have:=HT.out;omega);have LP:(T<n1)=True:=eq_true HT.out;have LQ:((0:Int)<=(T:Int))=True:=eq_true qo;have ug:((jt:Int)<(n1:Int))=True:=eq_true (by have:=wI.out;omega);have hJ2:(jt<n1)=True:=eq_true wI.out;have hJ3:((0:Int)<=(jt:Int))=True:=eq_true qo;have arI:¬ T=jt:=wD.out;have gK:¬ jt=T:=fun e=>wD.out e.symm;have u00:(T*3=jt*3)=False:=eq_false qo;have y00:(jt*3=T*3)=False:=eq_false qo;have u01:(T*3=jt*3+1)=False:=eq_false qo;have y01:(jt*3+1=T*3)=False:=eq_false qo;have u02:(T*3=jt*3+2)=False:=eq_false qo;have y02:(jt*3+2=T*3)=False:=eq_false qo;have u10:(T*3+1=jt*3)=False:=eq_false qo;have y10:(jt*3=T*3+1)=False:=eq_false qo;have u11:(T*3+1=jt*3+1)=False:=eq_false qo;have y11:(jt*3+1=T*3+1)=False:=eq_false qo;have u12:(T*3+1=jt*3+2)=False:=eq_false qo;have y12:(jt*3+2=T*3+1)=False:=eq_false qo;have u20:(T*3+2=jt*3)=False:=eq_false qo;have y20:(jt*3=T*3+2)=False:=eq_false qo;have u21:(T*3+2=jt*3+1)=False:=eq_false qo;have y21:(jt*3+1=T*3+2)=False:=eq_false qo;have u22:(T*3+2=jt*3+2)=False:=eq_false qo;have y22:(jt*3+2=T*3+2)=False:=eq_false qo;go_cut [21] (fun a wx=>a = .pointer (some ⟨o,0,none⟩)/\Hid (TI g o b w (.slice B0 n0 d0) (.slice B2 n2 d2) g1 k1 ps (wk zs T j na nb nc nd) n1 ss wx))
        case first =>
         go_region
         all_goals go_wp2
         all_goals go_meet
         all_goals exact⟨rfl,qh (TI.dr (by unfold wk;rw[AK.out];exact(wV.out.aeh HT.out _ _ _).aeh wI.out _ _ _))⟩
        case rest =>
         obtain⟨rfl,Fk⟩:=hcut;obtain⟨z0,z1,z2,z3,z4,z5⟩:=Go.Proofs.aF.Z.z3 Fk.out.bo;obtain⟨b0,b1,b2,b3,b4,b5⟩:=Go.Proofs.aF.Z.z3 Fk.out.br;clear wV VB c0 c1 c2 c3 c4 c5 c6 c7 c8 e0 e1 e2 e3 e4 e5 e6 e7 e8 x0 LN LP LQ ug hJ2 hJ3 arI gK kN lB xX Ax;go_wp2_with (refine Gq (p:=6) (u:=7) (g:=g+1) (cs:=#[.slice B0 n0 d0,.slice (some ⟨g1,0,none⟩) n1 k1,.slice B2 n2 d2]) (v := .int .i64 0) ?_ ?_ ?_ (ret3 Fk.out.below Fk.out.br (Nat.lt_succ_self g) _ _ _).1 Tryz.underlying26 ?_ ?_ ?_ ?_;exact(by kernel_rfl);exact(by kernel_rfl);exact(by kernel_rfl);rfl;exact(by kernel_rfl);rfl;rw[gy.out];exact⟨_,_,_,rfl,Fk.out.om.st3 WQ.out (by rw[HG.out];have:=WQ.out;omega) _ _ _,by rw[HG.out];exact(ret3 Fk.out.below Fk.out.br (Nat.lt_succ_self g) _ _ _).2⟩)
end Go.Proofs.YtcmepkhjggpmeaaGreat
