import Derived.Test.YtfcjnhkkfmgmpaaGreatZrG46
set_option linter.all false
set_option maxRecDepth 100000
set_option maxHeartbeats 8000000
namespace Go.Proofs.YtfcjnhkkfmgmpaaGreat
open Go.RowKit Num Go.Proofs.YtfcjnhkkfmgmpaaGreatH.R Go.Proofs.YtfcjnhkkfmgmpaaGreatH.Z Go.Proofs.YtfcjnhkkfmgmpaaGreatW.PrintWords
abbrev S4 (w0:World) (p0 p1 p2 p3:Addr) (v0 v1 v2 v3:Value) (W:World):Prop:=W.cell? p0=some v0∧W.cell? p1=some v1∧W.cell? p2=some v2∧W.cell? p3=some v3∧Below w0.heap.size w0 W
theorem s4_step {w0 W W':World} {p0 p1 p2 p3:Addr} {v0 v1 v2 v3:Value} (hb:Below W.heap.size W W') (h:S4 w0 p0 p1 p2 p3 v0 v1 v2 v3 W):S4 w0 p0 p1 p2 p3 v0 v1 v2 v3 W' :=
 ⟨(hb.cell (ql h.1)).trans h.1,(hb.cell (ql h.2.1)).trans h.2.1,(hb.cell (ql h.2.2.1)).trans h.2.2.1,(hb.cell (ql h.2.2.2.1)).trans h.2.2.2.1,h.2.2.2.2.trans (hb.mono h.2.2.2.2.size)⟩
theorem s4_drew {w0 W:World} {p0 p1 p2 p3:Addr} {v0 v1 v2 v3:Value} (h:S4 w0 p0 p1 p2 p3 v0 v1 v2 v3 W):S4 w0 p0 p1 p2 p3 v0 v1 v2 v3 W.drew:=⟨h.1,h.2.1,h.2.2.1,h.2.2.2.1,h.2.2.2.2.drew⟩
abbrev S3 (w0:World) (p0 p1 p2:Addr) (v0 v1 v2:Value) (W:World):Prop:=W.cell? p0=some v0∧W.cell? p1=some v1∧W.cell? p2=some v2∧Below w0.heap.size w0 W
theorem s3_step {w0 W W':World} {p0 p1 p2:Addr} {v0 v1 v2:Value} (hb:Below W.heap.size W W') (h:S3 w0 p0 p1 p2 v0 v1 v2 W):S3 w0 p0 p1 p2 v0 v1 v2 W' :=
 ⟨(hb.cell (ql h.1)).trans h.1,(hb.cell (ql h.2.1)).trans h.2.1,(hb.cell (ql h.2.2.1)).trans h.2.2.1,h.2.2.2.trans (hb.mono h.2.2.2.size)⟩
theorem s3_drew {w0 W:World} {p0 p1 p2:Addr} {v0 v1 v2:Value} (h:S3 w0 p0 p1 p2 v0 v1 v2 W):S3 w0 p0 p1 p2 v0 v1 v2 W.drew:=⟨h.1,h.2.1,h.2.2.1,h.2.2.2.drew⟩
theorem s3_alloc {w0 W:World} {p0 p1 p2:Addr} {v0 v1 v2:Value} (o:Obj) (h:S3 w0 p0 p1 p2 v0 v1 v2 W):S3 w0 p0 p1 p2 v0 v1 v2 (W.alloc o):=s3_step ((Below.refl _ _).alloc (Nat.le_refl _) _) h
theorem s3_set2 {w0 W:World} {p0 p1 p2:Addr} {v0 v1 v2:Value} (h0:S3 w0 p0 p1 p2 v0 v1 v2 w0) (h:S3 w0 p0 p1 p2 v0 v1 v2 W) {q:Nat} (hq:w0.heap.size≤q) (u v:Value):S3 w0 p0 p1 p2 v0 v1 v2 ((W.setCell ⟨q,0,none⟩ u).setCell ⟨q,1,none⟩ v):=by
 have hb:=(h.2.2.2.setCell (p:=⟨q,0,none⟩) hq u).setCell (p:=⟨q,1,none⟩) hq v;exact⟨(hb.cell (ql h0.1)).trans h0.1,(hb.cell (ql h0.2.1)).trans h0.2.1,(hb.cell (ql h0.2.2.1)).trans h0.2.2.1,hb⟩
theorem flip_m (A0 A1 A2:Option Addr) (c0 n1 c1 c2:Nat) (ps:PS) (zs:List Int) (ss:SS) (w:World) (hA:ArgM w A0 A1 A2 c0 c2 ps zs n1 ss) (hz:zs.length=3*n1) (K:Nat) (hK:mesh_asked.f K ps=some 0) (ori:Nat→Nat→Nat→Int) (hO:OrP K ps ori) (hM:POK ps.length zs n1 ss ori) (hD:∀ i j k,0<ori i j k→i≠j∧j≠k∧k≠i) (t k:Int) :
  Calls Tryz.prog 10 #[.agg #[.slice A0 ps.length c0,.slice A1 n1 c1,.slice A2 ss.length c2],.int .i64 t,.int .i64 k] w fun e w'=>TellsM w (flipO ps zs n1 ss ori t k) e w':=by
 obtain⟨n0,hn0⟩:∃ n,ps.length=n:=⟨_,rfl⟩
 obtain⟨n2,hn2⟩:∃ n,ss.length=n:=⟨_,rfl⟩
 have HL:=qh (show n0≤400∧n1≤900∧n2≤1300 from ⟨hn0 ▸ hM.l0,hM.l1,hn2 ▸ hM.l2⟩);have hb1:Below w.heap.size w ((w.alloc (.cells #[.slice A0 n0 c0,.slice A1 n1 c1,.slice A2 n2 c2] 26)).alloc (.cells nil3 26)):=((Below.refl _ _).alloc (Nat.le_refl _) _).alloc (by simp) _
 have HB1:=qh (show MB w.heap.size w A0 A1 A2 n0 c0 n1 c1 n2 c2 ((w.alloc (.cells #[.slice A0 n0 c0,.slice A1 n1 c1,.slice A2 n2 c2] 26)).alloc (.cells nil3 26)) from
  (MB.new w A0 A1 A2 n0 c0 n1 c1 n2 c2).step ((Below.refl _ _).alloc (Nat.le_refl _) _))
 have HBR:=qh (show((w.alloc (.cells #[.slice A0 n0 c0,.slice A1 n1 c1,.slice A2 n2 c2] 26)).alloc (.cells nil3 26)).heap[w.heap.size+1]?=some (.cells nil3 26 (0,0)) from by have:=blk_new (w.alloc (.cells #[.slice A0 n0 c0,.slice A1 n1 c1,.slice A2 n2 c2] 26)) (.cells nil3 26);simpa using this);have HRD:=qh (mread_ok A0 A1 A2 c0 n1 c1 c2 ps zs ss _ (hA.below hb1 rfl) K hK ori hO hM);rw[hn0,hn2]at HRD
 have H0:=qh hn0;have H2:=qh hn2;have HZ:=qh hz;have HA:=qh hA;have HO:=qh hO;have HM:=qh hM;rw[hn0,hn2];clear hA hz hK hO hM hn0 hn2 hb1;obtain⟨g,hg⟩:∃ g,w.heap.size=g:=⟨_,rfl⟩
 have HG:=qh hg;rw[hg]at HB1 HBR
 have q0:=HB1.out.b0;have q1:=HB1.out.b1;have q2:=HB1.out.b2;go_enter Tryz.func10,Tryz.ntmps10;go_wp2_with (refine HRD.out.mono ?_;rintro e w2 ⟨kb,B,rfl,hkb,hB,hmp,e0,e1,e2,e3,hb⟩;refine Stop.out ?_)
 refine⟨?_⟩;have HF2:=qh (show FI g kb B w A0 A1 A2 n0 c0 n1 c1 n2 c2 zs w2 from ⟨HB1.out.step hb,⟨blk_below HBR.out hb⟩,hmp,e1,e3⟩);clear hb hmp hB HRD HB1 HBR q0 q1 q2 e0 e2 e3 e1 hkb;cases hB:isB n1 t k with
 | false =>
  have HPK:=qh (pick_bad kb A1 n1 c1 w2 HF2.out.k1 t k hB);go_wp2_with (refine HPK.out.mono ?_;rintro e w3 ⟨rfl,hb⟩;refine Stop.out ?_)
  refine⟨?_⟩;have HF3:=qh (HF2.out.step hb);have HF4:=qh (HF3.out.step ((Below.refl w3.heap.size w3).alloc (Nat.le_refl _) (.cells #[.int .i64 0,.int .i64 0] 66)));have HR2:=qh (show flipO ps zs n1 ss ori t k=badM 1 from if_neg (by rw[hB];decide));clear hb HPK HF2 hB HF3;go_upto_region 6 with fail
  generalize (w3.alloc (.cells #[.int .i64 0,.int .i64 0] 66))=w4 at HF4 ⊢;obtain⟨b0,b1,b2,b3,b4,b5⟩:=z3 HF4.out.br;go_wp2_with (refine ret_ct (p:=6) (u:=7) (g:=g+1) (cs:=nil3) (v := .int .i64 1) ?_ ?_ ?_ (ret3 HF4.out.box.below HF4.out.br (Nat.lt_succ_self g) _ _ _).1 Tryz.underlying26 ?_ ?_ ?_ ?_;exact(by kernel_rfl);exact(by kernel_rfl);exact(by kernel_rfl);rfl;exact(by kernel_rfl);rfl;rw[HR2.out];exact TellsM.bad _ _ _ (by rw[HG.out];exact(ret3 HF4.out.box.below HF4.out.br (Nat.lt_succ_self g) _ _ _).2))
 | true =>
  have hR:=hB;unfold isB at hR;simp only[Bool.and_eq_true,decide_eq_true_eq]at hR;obtain⟨⟨⟨a1,a2⟩,a3⟩,a4⟩:=hR;obtain⟨T,rfl⟩:=Int.eq_ofNat_of_zero_le a1;obtain⟨k,rfl⟩:=Int.eq_ofNat_of_zero_le a3;have hT:T<n1:=by omega
  have hk:k≤2:=by omega
  have HAw:=qh (HA.out.below HF2.out.box.below HG.out.symm);have HPK:=qh (pick_ok kb A1 n1 c1 zs w2 HF2.out.k1 HAw.out.t T k hT hk (by have:=HL.out;omega));have HR:=qh (show flipO ps zs n1 ss ori (T:Int) (k:Int)=_ from if_pos hB);simp only[Int.toNat_natCast]at HR;have HT:=qh hT;have HK:=qh hk;have HM1:=HM.out.inr (j:=3*T+k) (by omega);have HM2:=HM.out.inr (j:=3*T+nx k) (by unfold nx;split <;> omega);have HM3:=HM.out.inr (j:=3*T+px k) (by unfold px;split <;> omega);obtain⟨xa,hxa⟩:∃ x,zs.getD (3*T+k) 0=x:=⟨_,rfl⟩
  obtain⟨xb,hxb⟩:∃ x,zs.getD (3*T+nx k) 0=x:=⟨_,rfl⟩
  obtain⟨xc,hxc⟩:∃ x,zs.getD (3*T+px k) 0=x:=⟨_,rfl⟩
  rw[hxa,hxb]at HPK
  rw[hxa,hxb,hxc]at HR
  rw[hxa]at HM1
  rw[hxb]at HM2
  rw[hxc]at HM3
  have HXC:=qh hxc;have HIN:=qh (show((0≤xa∧xa<n0)∧0≤xb∧xb<n0)∧0≤xc∧xc<n0 from H0.out ▸ ⟨⟨HM1,HM2⟩,HM3⟩);have HXA:=qh hxa;have HXB:=qh hxb;clear hxa hxb hxc HM1 HM2 HM3 hT hk a1 a2 a3 a4 hB HAw;go_wp2_with (refine HPK.out.mono ?_;rintro e w3 ⟨rfl,hb⟩;refine Stop.out ?_)
  refine⟨?_⟩;have HF3:=qh (HF2.out.step hb);clear hb HPK HF2;have HF4:=qh (HF3.out.step ((Below.refl w3.heap.size w3).alloc (Nat.le_refl _) (.cells #[.int .i64 xa,.int .i64 xb] 66)));have d0:(w3.alloc (.cells #[.int .i64 xa,.int .i64 xb] 66)).cell? ⟨w3.heap.size,0,none⟩=some (.int .i64 xa):=by simp[go_sem]
  have d1:(w3.alloc (.cells #[.int .i64 xa,.int .i64 xb] 66)).cell? ⟨w3.heap.size,1,none⟩=some (.int .i64 xb):=by simp[go_sem]
  clear HF3;go_upto_region 7 with fail
  generalize (w3.alloc (.cells #[.int .i64 xa,.int .i64 xb] 66))=w4 at HF4 d0 d1 ⊢;generalize w3.heap.size=eb at d0 d1 ⊢;have wa:W6 xa:=w6_of HIN.out.1.1.1 (by have:=HL.out;have:=HIN.out;omega);have wb:W6 xb:=w6_of HIN.out.1.2.1 (by have:=HL.out;have:=HIN.out;omega);have HBK:=qh (fun W=>back_c xa xb W);have hlk:∀ W,Below w4.heap.size w4 W→_:=fun W hW=>(HF4.out.step hW).m.look wb wa;have k3:=HF4.out.k3;have hS0:w4.cell? ⟨kb,3,none⟩=some (.map (some B))∧w4.cell? ⟨eb,0,none⟩=some (.int .i64 xa)∧w4.cell? ⟨eb,1,none⟩=some (.int .i64 xb)∧Below w4.heap.size w4 w4:=⟨k3,d0,d1,Below.refl _ _⟩
  obtain⟨s1,hs1⟩:∃ x,sT (fnd zs xb xa (3*n1))=x:=⟨_,rfl⟩
  obtain⟨s2,hs2⟩:∃ x,sK (fnd zs xb xa (3*n1))=x:=⟨_,rfl⟩
  obtain⟨s3,hs3⟩:∃ x,(fnd zs xb xa (3*n1)).isSome=x:=⟨_,rfl⟩
  rw[hs1,hs2,hs3]at hlk
  have X1:=qh hs1;have X2:=qh hs2;have X3:=qh hs3;clear hs1 hs2 hs3 wa wb k3 d0 d1;go_cut [11,12] (fun a b wx=>∃ h:Nat,a = .pointer (some ⟨h,0,none⟩)∧b = .bool s3∧Hid ((w4.heap.size≤h∧Below w4.heap.size w4 wx)∧wx.cell? ⟨h,0,none⟩=some (.int .i64 s1)∧wx.cell? ⟨h,1,none⟩=some (.int .i64 s2)))
  case first =>
   go_region_held3 (S3 w4 ⟨kb,3,none⟩ ⟨eb,0,none⟩ ⟨eb,1,none⟩ (.map (some B)) (.int .i64 xa) (.int .i64 xb)) (first|assumption|exact s3_drew (by assumption)|exact s3_alloc _ (by assumption)|exact s3_set2 hS0 hS1 (Nat.le_refl _) _ _) (first|(go_at_call 27;refine(HBK.out _).mono ?_;rintro e wn ⟨rfl,hbr⟩;have hS1:=s3_step hbr (by assumption);first|(have p0:=(hbr.cell (p:=⟨w4.heap.size,0,none⟩) (by simp)).trans (show(World.alloc w4 (.cells #[.int .i64 0,.int .i64 0] 70)).cell? ⟨w4.heap.size,0,none⟩=some (.int .i64 0) by simp[go_sem]);have p1:=(hbr.cell (p:=⟨w4.heap.size,1,none⟩) (by simp)).trans (show(World.alloc w4 (.cells #[.int .i64 0,.int .i64 0] 70)).cell? ⟨w4.heap.size,1,none⟩=some (.int .i64 0) by simp[go_sem]);have p2:=(hbr.frozen (p:=⟨w4.heap.size,0,none⟩) (by simp)).trans (show(World.alloc w4 (.cells #[.int .i64 0,.int .i64 0] 70)).frozen? ⟨w4.heap.size,0,none⟩=false by simp[go_sem]);have p3:=(hbr.frozen (p:=⟨w4.heap.size,1,none⟩) (by simp)).trans (show(World.alloc w4 (.cells #[.int .i64 0,.int .i64 0] 70)).frozen? ⟨w4.heap.size,1,none⟩=false by simp[go_sem]))|skip;clear hbr)|fail)
   all_goals go_wp2
   all_goals go_meet
   all_goals refine⟨_,rfl,rfl,qh ⟨⟨?_,(show S3 w4 ⟨kb,3,none⟩ ⟨eb,0,none⟩ ⟨eb,1,none⟩ (.map (some B)) (.int .i64 xa) (.int .i64 xb) _ from by first|assumption|exact s3_drew (by assumption)).2.2.2⟩,?_,?_⟩⟩
   all_goals first|exact Nat.le_refl _|exact hS1.2.2.2.size|(simp[go_sem];done)|(simp[go_sem,p0,p1,p2,p3];done)
  case rest =>
   obtain⟨h,rfl,rfl,HU⟩:=hcut;have HF5:=qh (HF4.out.step HU.out.1.2)
   have HD:=qh (show wc.cell? ⟨eb,0,none⟩=some (.int .i64 xa)∧wc.cell? ⟨eb,1,none⟩=some (.int .i64 xb)∧wc.cell? ⟨h,0,none⟩=some (.int .i64 s1)∧wc.cell? ⟨h,1,none⟩=some (.int .i64 s2) from
    ⟨(HU.out.1.2.cell (ql hS0.2.1)).trans hS0.2.1,(HU.out.1.2.cell (ql hS0.2.2.1)).trans hS0.2.2.1,HU.out.2.1,HU.out.2.2⟩)
   clear hlk hS0 HF4 HU HBK;generalize hfo:fnd zs xb xa (3*n1)=fo at X1 X2 X3;cases fo with
   | none =>
    have HR2:=qh (show flipO ps zs n1 ss ori (T:Int) (k:Int)=badM 7 by rw[HR.out,show flipJ zs n1 ss ori xa xb xc=none by unfold flipJ;rw[hfo]]);have hs3:s3=false:=X3.out.symm;subst hs3;clear hfo;obtain⟨b0,b1,b2,b3,b4,b5⟩:=z3 HF5.out.br;go_wp2_with (refine ret_ct (p:=6) (u:=7) (g:=g+1) (cs:=nil3) (v := .int .i64 7) ?_ ?_ ?_ (ret3 HF5.out.box.below HF5.out.br (Nat.lt_succ_self g) _ _ _).1 Tryz.underlying26 ?_ ?_ ?_ ?_;exact(by kernel_rfl);exact(by kernel_rfl);exact(by kernel_rfl);rfl;exact(by kernel_rfl);rfl;rw[HR2.out];exact TellsM.bad _ _ _ (by rw[HG.out];exact(ret3 HF5.out.box.below HF5.out.br (Nat.lt_succ_self g) _ _ _).2))
   | some j =>
    have hs1:((j / 3:Nat):Int)=s1:=X1.out;have hs2:((j%3:Nat):Int)=s2:=X2.out;have hs3:s3=true:=X3.out.symm;obtain⟨jt,hjt⟩:∃ x,j / 3=x:=⟨_,rfl⟩
    obtain⟨jk,hjk⟩:∃ x,j%3=x:=⟨_,rfl⟩
    rw[hjt]at hs1
    rw[hjk]at hs2
    have HJT:=qh hjt;have HJK:=qh hjk;clear hjt hjk;subst hs1 hs2 hs3;have HFO:=qh hfo;clear hfo X1 X2 X3;have HSG:=qh (segOf_c A0 A1 A2 n0 c0 n1 c1 n2 c2 ss xa xb wc (by have:=(HA.out.below HF5.out.box.below HG.out.symm).s;rw[H2.out]at this;exact this) H2.out (by have:=HL.out;omega));rw[show fstB (smB ss xa xb) n2=fstB (smB ss xa xb) ss.length by rw[H2.out],show oI (fstB (smB ss xa xb) ss.length)=sgP ss xa xb from rfl]at HSG
    have x0:=HF5.out.box.b0;have x1:=HF5.out.box.b1;have x2:=HF5.out.box.b2;have y0:=HD.out.1;have y1:=HD.out.2.1;go_wp2_with (refine HSG.out.mono ?_;rintro e w6 ⟨rfl,hb⟩;refine Stop.out ?_)
    refine⟨?_⟩;have HF6:=qh (HF5.out.step hb)
    have HD6:=qh (show w6.cell? ⟨eb,0,none⟩=some (.int .i64 xa)∧w6.cell? ⟨eb,1,none⟩=some (.int .i64 xb)∧w6.cell? ⟨h,0,none⟩=some (.int .i64 jt)∧w6.cell? ⟨h,1,none⟩=some (.int .i64 jk) from
     ⟨(hb.cell (ql HD.out.1)).trans HD.out.1,(hb.cell (ql HD.out.2.1)).trans HD.out.2.1,(hb.cell (ql HD.out.2.2.1)).trans HD.out.2.2.1,(hb.cell (ql HD.out.2.2.2)).trans HD.out.2.2.2⟩)
    clear hb HSG HF5 HD x0 x1 x2 y0 y1;obtain⟨sg,hsg⟩:∃ x,sgP ss xa xb=x:=⟨_,rfl⟩
    rw[hsg];have HS:=qh hsg;clear hsg;by_cases hq:0≤sg
    ·have e1:decide (0≤sg)=true:=decide_eq_true hq
     have HR2:=qh (show flipO ps zs n1 ss ori (T:Int) (k:Int)=badM 7 by rw[HR.out,show flipJ zs n1 ss ori xa xb xc=none by unfold flipJ;rw[HFO.out];exact if_pos (.inl (HS.out ▸ hq))]);clear hq;obtain⟨b0,b1,b2,b3,b4,b5⟩:=z3 HF6.out.br;go_wp2_with (refine ret_ct (p:=6) (u:=7) (g:=g+1) (cs:=nil3) (v := .int .i64 7) ?_ ?_ ?_ (ret3 HF6.out.box.below HF6.out.br (Nat.lt_succ_self g) _ _ _).1 Tryz.underlying26 ?_ ?_ ?_ ?_;exact(by kernel_rfl);exact(by kernel_rfl);exact(by kernel_rfl);rfl;exact(by kernel_rfl);rfl;rw[HR2.out];exact TellsM.bad _ _ _ (by rw[HG.out];exact(ret3 HF6.out.box.below HF6.out.br (Nat.lt_succ_self g) _ _ _).2))
    ·have e1:decide (0≤sg)=false:=decide_eq_false hq
     have HQ:=qh hq;clear hq;have hj:=fnd_some HFO.out;have HJ:=qh hj.1;have HAw:=fun W (hW:Below w6.heap.size w6 W)=>HA.out.below (HF6.out.step hW).box.below HG.out.symm;obtain⟨xd,hxd⟩:∃ x,zs.getD (3*jt+px jk) 0=x:=⟨_,rfl⟩
     have HT1:=qh (fun W (hW:S4 w6 ⟨eb,0,none⟩ ⟨eb,1,none⟩ ⟨h,0,none⟩ ⟨h,1,none⟩ (.int .i64 xa) (.int .i64 xb) (.int .i64 jt) (.int .i64 jk) W)=>third_c kb A1 n1 c1 zs W (HF6.out.step hW.2.2.2.2).k1 (HAw W hW.2.2.2.2).t T k HT.out HK.out (by have:=HL.out;omega));have HT2:=qh (fun W (hW:S4 w6 ⟨eb,0,none⟩ ⟨eb,1,none⟩ ⟨h,0,none⟩ ⟨h,1,none⟩ (.int .i64 xa) (.int .i64 xb) (.int .i64 jt) (.int .i64 jk) W)=>third_c kb A1 n1 c1 zs W (HF6.out.step hW.2.2.2.2).k1 (HAw W hW.2.2.2.2).t jt jk (by have:=HJT.out;omega) (by have:=HJK.out;omega) (by have:=HL.out;omega));rw[HXC.out]at HT1
     rw[hxd]at HT2
     have HXD:=qh hxd;clear hj HAw hxd;have hS0:S4 w6 ⟨eb,0,none⟩ ⟨eb,1,none⟩ ⟨h,0,none⟩ ⟨h,1,none⟩ (.int .i64 xa) (.int .i64 xb) (.int .i64 jt) (.int .i64 jk) w6:=⟨HD6.out.1,HD6.out.2.1,HD6.out.2.2.1,HD6.out.2.2.2,Below.refl _ _⟩
     go_upto_region 10 with fail
     go_cut [13,14,15,16] (fun a b c d wx=>a = .int .i64 xa∧b = .int .i64 xb∧c = .int .i64 xc∧d = .int .i64 xd∧Hid (Below w6.heap.size w6 wx))
     case first =>
      go_region_held3 (S4 w6 ⟨eb,0,none⟩ ⟨eb,1,none⟩ ⟨h,0,none⟩ ⟨h,1,none⟩ (.int .i64 xa) (.int .i64 xb) (.int .i64 jt) (.int .i64 jk)) (first|assumption|exact s4_drew (by assumption)) (first|(go_at_call 29;with_reducible refine(HT1.out _ (by assumption)).mono ?_;rintro e wn ⟨rfl,hbr⟩;have hS1:=s4_step hbr (by assumption);clear hbr)|(go_at_call 29;with_reducible refine(HT2.out _ (by assumption)).mono ?_;rintro e wn ⟨rfl,hbr⟩;have hS2:=s4_step hbr (by assumption);clear hbr)|fail)
      all_goals go_wp2
      all_goals go_meet
      all_goals exact⟨rfl,rfl,rfl,rfl,qh (show S4 w6 ⟨eb,0,none⟩ ⟨eb,1,none⟩ ⟨h,0,none⟩ ⟨h,1,none⟩ (.int .i64 xa) (.int .i64 xb) (.int .i64 jt) (.int .i64 jk) _ from by first|assumption|exact s4_drew (by assumption)).2.2.2.2⟩
     case rest =>
      obtain⟨rfl,rfl,rfl,rfl,HB7⟩:=hcut;have HF7:=qh (HF6.out.step HB7.out);have HH:=qh (show wc.cell? ⟨h,0,none⟩=some (.int .i64 jt) from(HB7.out.cell (ql hS0.2.2.1)).trans hS0.2.2.1);clear hS0 HT1 HT2 HF6 HD6 HB7;have hnd:=HM.out.inr (j:=3*jt+px jk) (by have:=HJ.out;have:=HJT.out;have:=HJK.out;unfold px;split <;> omega);rw[HXD.out,H0.out]at hnd
      obtain⟨na,rfl⟩:=Int.eq_ofNat_of_zero_le HIN.out.1.1.1;obtain⟨nb,rfl⟩:=Int.eq_ofNat_of_zero_le HIN.out.1.2.1;obtain⟨nc,rfl⟩:=Int.eq_ofNat_of_zero_le HIN.out.2.1;obtain⟨nd,rfl⟩:=Int.eq_ofNat_of_zero_le hnd.1;have HN:=qh (show na<n0∧nb<n0∧nc<n0∧nd<n0 by have:=HIN.out;omega);clear hnd HIN;have wxc:W6 (nc:Int):=w6_of (by omega) (by have:=HL.out;have:=HN.out;omega);have wxd:W6 (nd:Int):=w6_of (by omega) (by have:=HL.out;have:=HN.out;omega);have hlk1:=HF7.out.m.look wxc wxd;obtain⟨r1,h1⟩:∃ x,sT (fnd zs (nc:Int) (nd:Int) (3*n1))=x:=⟨_,rfl⟩
      obtain⟨r2,h2⟩:∃ x,sK (fnd zs (nc:Int) (nd:Int) (3*n1))=x:=⟨_,rfl⟩
      obtain⟨o1,h3⟩:∃ x,(fnd zs (nc:Int) (nd:Int) (3*n1)).isSome=x:=⟨_,rfl⟩
      rw[h1,h2,h3]at hlk1
      have O1:=qh h3;clear h1 h2 h3;have HF8:=qh (HF7.out.step ((Below.refl wc.heap.size wc).alloc (Nat.le_refl _) (.cells #[.int .i64 r1,.int .i64 r2] 70)));have hlk2:=HF8.out.m.look wxd wxc;obtain⟨r3,h1⟩:∃ x,sT (fnd zs (nd:Int) (nc:Int) (3*n1))=x:=⟨_,rfl⟩
      obtain⟨r4,h2⟩:∃ x,sK (fnd zs (nd:Int) (nc:Int) (3*n1))=x:=⟨_,rfl⟩
      obtain⟨o2,h3⟩:∃ x,(fnd zs (nd:Int) (nc:Int) (3*n1)).isSome=x:=⟨_,rfl⟩
      rw[h1,h2,h3]at hlk2
      have O2:=qh h3;have HF9:=qh (HF8.out.step ((Below.refl (wc.alloc (.cells #[.int .i64 r1,.int .i64 r2] 70)).heap.size (wc.alloc (.cells #[.int .i64 r1,.int .i64 r2] 70))).alloc (Nat.le_refl _) (.cells #[.int .i64 r3,.int .i64 r4] 70)))
      have HH9:=qh (show((wc.alloc (.cells #[.int .i64 r1,.int .i64 r2] 70)).alloc (.cells #[.int .i64 r3,.int .i64 r4] 70)).cell? ⟨h,0,none⟩=some (.int .i64 jt) from
       ((((Below.refl wc.heap.size wc).alloc (Nat.le_refl _) (.cells #[.int .i64 r1,.int .i64 r2] 70)).alloc (by simp) (.cells #[.int .i64 r3,.int .i64 r4] 70)).cell (ql HH.out)).trans HH.out)
      have k3:=HF7.out.k3;have k4:=HF8.out.k3;have HL1:=qh hlk1;have HL2:=qh hlk2;clear h1 h2 h3 wxc wxd hlk1 hlk2 HH HF8 HF7;go_upto_region 13 with (first|(at_lookup;refine wp_look _ rfl _ _ _ _ rfl _ _ _ rfl rfl HL1.out ?_)|(at_lookup;refine wp_look _ rfl _ _ _ _ rfl _ _ _ rfl rfl HL2.out ?_)|fail)
      clear k3 k4 HL1 HL2;generalize ((wc.alloc (.cells #[.int .i64 r1,.int .i64 r2] 70)).alloc (.cells #[.int .i64 r3,.int .i64 r4] 70))=w9 at HF9 HH9 ⊢;obtain⟨bb,hbb⟩:∃ x:Bool,(o1||(o2||(!decide (0<ori nd nb nc)||!decide (0<ori nd nc na))))=x:=⟨_,rfl⟩
      have HFJ:=qh (flip_eq HR.out HFO.out HJT.out HJK.out HXD.out HS.out (by have:=HQ.out;omega) O1.out O2.out hbb);clear O1 O2;have x0:=HF9.out.box.b0;have x1:=HF9.out.box.b1;have x2:=HF9.out.box.b2;have HLF:=qh (left_c A0 A1 A2 n0 c0 n1 c1 n2 c2 ps w9 (by have:=(HA.out.below HF9.out.box.below HG.out.symm).p;rw[H0.out]at this;exact this) H0.out K ori HO.out nd nb nc HN.out.2.2.2 HN.out.2.1 HN.out.2.2.1);have HLG:=qh (fun W (hW:Below w9.heap.size w9 W)=>left_c A0 A1 A2 n0 c0 n1 c1 n2 c2 ps W (by have:=(HA.out.below (HF9.out.step hW).box.below HG.out.symm).p;rw[H0.out]at this;exact this) H0.out K ori HO.out nd nc na HN.out.2.2.2 HN.out.2.2.1 HN.out.1);generalize decide (0<ori nd nb nc)=p1 at hbb HLF;generalize decide (0<ori nd nc na)=p2 at hbb HLG;go_cut [114] (fun a wx=>a = .bool bb∧Hid (Below w9.heap.size w9 wx))
      case first =>
       have HBB:=qh hbb;clear hbb;cases o1 with
       | true =>
        go_wp2
        go_meet
        exact⟨by rw[← HBB.out];rfl,qh (Below.refl _ _)⟩
       | false =>
        cases o2 with
        | true =>
         go_wp2
         go_meet
         exact⟨by rw[← HBB.out];rfl,qh (Below.refl _ _)⟩
        | false =>
         cases p1 with
         | false =>
          go_wp2_with (refine HLF.out.mono ?_;rintro e w10 ⟨rfl,hb⟩;refine Stop.out ?_)
          refine⟨?_⟩;have HB10:=qh hb;clear hb;go_wp2
          go_meet
          exact⟨by rw[← HBB.out];rfl,HB10⟩
         | true =>
          go_wp2_with (refine HLF.out.mono ?_;rintro e w10 ⟨rfl,hb⟩;refine Stop.out ?_)
          refine⟨?_⟩;have HB10:=qh hb;have HF10:=qh (HF9.out.step hb);clear hb x0 x1 x2;have x0:=HF10.out.box.b0;have x1:=HF10.out.box.b1;have x2:=HF10.out.box.b2;go_wp2_with (refine(HLG.out w10 HB10.out).mono ?_;rintro e w11 ⟨rfl,hb⟩;refine Stop.out ?_)
          refine⟨?_⟩;have HB11:=qh (HB10.out.trans (hb.mono HB10.out.size));clear hb;go_wp2
          go_meet
          exact⟨by rw[← HBB.out];cases p2 <;> rfl,HB11⟩
      case rest =>
       obtain⟨rfl,HB11⟩:=hcut;have HF11:=qh (HF9.out.step HB11.out);have HH11:=qh ((HB11.out.cell (ql HH9.out)).trans HH9.out);clear HLF HLG x0 x1 x2 HF9 HH9 hbb HB11;cases bb with
       | true =>
        have HR2:=qh (show flipO ps zs n1 ss ori (T:Int) (k:Int)=badM 7 from HFJ.out);obtain⟨b0,b1,b2,b3,b4,b5⟩:=z3 HF11.out.br;go_wp2_with (refine ret_ct (p:=6) (u:=7) (g:=g+1) (cs:=nil3) (v := .int .i64 7) ?_ ?_ ?_ (ret3 HF11.out.box.below HF11.out.br (Nat.lt_succ_self g) _ _ _).1 Tryz.underlying26 ?_ ?_ ?_ ?_;exact(by kernel_rfl);exact(by kernel_rfl);exact(by kernel_rfl);rfl;exact(by kernel_rfl);rfl;rw[HR2.out];exact TellsM.bad _ _ _ (by rw[HG.out];exact(ret3 HF11.out.box.below HF11.out.br (Nat.lt_succ_self g) _ _ _).2))
       | false =>
        have HR2:=qh (show flipO ps zs n1 ss ori (T:Int) (k:Int)=(0,ps,flipZ zs T j na nb nc nd,n1,ss) from HFJ.out);have x0:=HF11.out.box.b0;have x1:=HF11.out.box.b1;have x2:=HF11.out.box.b2;generalize wc=w11 at HF11 HH11 x0 x1 x2 ⊢;have HOW:=qh (own_m A0 A1 A2 c0 n1 c1 c2 ps zs ss w11 (HA.out.below HF11.out.box.below HG.out.symm) HZ.out (by rw[H0.out,H2.out];have:=HL.out;omega));rw[H0.out,H2.out]at HOW
        have hne:=flip_ne HM.out hD HT.out HK.out (j:=j) (by rw[HXA.out,HXB.out];exact HFO.out);rw[HJT.out]at hne
        have HT2:=qh (show jt<n1 by have:=HJ.out;have:=HJT.out;omega);have HNE:=qh hne;clear hne;go_wp2_with (refine HOW.out.mono ?_;rintro e w12 ⟨v0,v1,v2,rfl,hOM,hb⟩;refine Stop.out ?_)
        refine⟨?_⟩;obtain⟨g1,k1,rfl⟩:=hOM.blk (by have:=HT.out;omega);obtain⟨B0,d0,B1,d1,B2,d2,rfl,-,rfl,-,-⟩:=hOM.args;rw[H0.out,H2.out]at hOM ⊢
        have hal:=(Below.refl w12.heap.size w12).alloc (Nat.le_refl _) (.cells #[.slice B0 n0 d0,.slice (some ⟨g1,0,none⟩) n1 k1,.slice B2 n2 d2] 26);have HF12:=qh (HF11.out.step hb)
        have HTI:=qh (show TI g w12.heap.size w11.heap.size w (.slice B0 n0 d0) (.slice B2 n2 d2) g1 k1 ps zs n1 ss (w12.alloc (.cells #[.slice B0 n0 d0,.slice (some ⟨g1,0,none⟩) n1 k1,.slice B2 n2 d2] 26)) from
         ⟨hOM.below hal,⟨blk_below HF12.out.br.out hal⟩,⟨blk_new _ _⟩,(HF12.out.step hal).box.below,Nat.le_of_lt (ql x0)⟩)
        have HH13:=qh ((hal.cell (ql ((hb.cell (ql HH11.out)).trans HH11.out))).trans ((hb.cell (ql HH11.out)).trans HH11.out));have HGB:=qh (show g+1<w11.heap.size from blk_lt HF11.out.br.out);have HLT:=qh (show h<w11.heap.size from ql HH11.out);clear hal hOM hb HOW x0 x1 x2 HF11 HH11 HF12;go_upto_region 16 with fail
        generalize (w12.alloc (.cells #[.slice B0 n0 d0,.slice (some ⟨g1,0,none⟩) n1 k1,.slice B2 n2 d2] 26))=w13 at HTI HH13 ⊢;generalize w12.heap.size=o at HTI ⊢;generalize w11.heap.size=b at HTI HLT HGB;have n1_:¬ g1=o:=by obtain⟨-,c,hc,-⟩:=HTI.out.g1;exact blk_ne hc HTI.out.bo.out (by decide)
        have n2_:¬ o=g1:=fun e=>n1_ e.symm;have n3_:¬ g1=h:=by have:=HTI.out.g1.1;have:=HLT.out;omega
        have n4_:¬ h=g1:=fun e=>n3_ e.symm;obtain⟨z0,z1,z2,z3,z4,z5⟩:=z3 HTI.out.bo;obtain⟨c0,c1,c2,c3,c4,c5,c6,c7,c8⟩:=HTI.out.cells HT.out;obtain⟨e0,e1,e2,e3,e4,e5,e6,e7,e8⟩:=HTI.out.cells HT2.out;have x0:=HH13.out;have hT1:((T:Int)<(n1:Int))=True:=eq_true (by have:=HT.out;omega);have hT2:(T<n1)=True:=eq_true HT.out;have hT3:((0:Int)≤(T:Int))=True:=eq_true (by omega);have hJ1:((jt:Int)<(n1:Int))=True:=eq_true (by have:=HT2.out;omega);have hJ2:(jt<n1)=True:=eq_true HT2.out;have hJ3:((0:Int)≤(jt:Int))=True:=eq_true (by omega);have hne1:¬ T=jt:=HNE.out;have hne2:¬ jt=T:=fun e=>HNE.out e.symm;have u00:(T*3=jt*3)=False:=eq_false (by omega);have y00:(jt*3=T*3)=False:=eq_false (by omega);have u01:(T*3=jt*3+1)=False:=eq_false (by omega);have y01:(jt*3+1=T*3)=False:=eq_false (by omega);have u02:(T*3=jt*3+2)=False:=eq_false (by omega);have y02:(jt*3+2=T*3)=False:=eq_false (by omega);have u10:(T*3+1=jt*3)=False:=eq_false (by omega);have y10:(jt*3=T*3+1)=False:=eq_false (by omega);have u11:(T*3+1=jt*3+1)=False:=eq_false (by omega);have y11:(jt*3+1=T*3+1)=False:=eq_false (by omega);have u12:(T*3+1=jt*3+2)=False:=eq_false (by omega);have y12:(jt*3+2=T*3+1)=False:=eq_false (by omega);have u20:(T*3+2=jt*3)=False:=eq_false (by omega);have y20:(jt*3=T*3+2)=False:=eq_false (by omega);have u21:(T*3+2=jt*3+1)=False:=eq_false (by omega);have y21:(jt*3+1=T*3+2)=False:=eq_false (by omega);have u22:(T*3+2=jt*3+2)=False:=eq_false (by omega);have y22:(jt*3+2=T*3+2)=False:=eq_false (by omega);go_cut [21] (fun a wx=>a = .pointer (some ⟨o,0,none⟩)∧Hid (TI g o b w (.slice B0 n0 d0) (.slice B2 n2 d2) g1 k1 ps (flipZ zs T j na nb nc nd) n1 ss wx))
        case first =>
         go_region
         all_goals go_wp2
         all_goals go_meet
         all_goals exact⟨rfl,qh (TI.dr (by unfold flipZ;rw[HJT.out];exact(HTI.out.set3 HT.out _ _ _).set3 HT2.out _ _ _))⟩
        case rest =>
         obtain⟨rfl,HTJ⟩:=hcut;obtain⟨z0,z1,z2,z3,z4,z5⟩:=Go.Proofs.YtfcjnhkkfmgmpaaGreatH.Z.z3 HTJ.out.bo;obtain⟨b0,b1,b2,b3,b4,b5⟩:=Go.Proofs.YtfcjnhkkfmgmpaaGreatH.Z.z3 HTJ.out.br;clear HTI HH13 c0 c1 c2 c3 c4 c5 c6 c7 c8 e0 e1 e2 e3 e4 e5 e6 e7 e8 x0 hT1 hT2 hT3 hJ1 hJ2 hJ3 hne1 hne2 n1_ n2_ n3_ n4_;go_wp2_with (refine ret_ct (p:=6) (u:=7) (g:=g+1) (cs:=#[.slice B0 n0 d0,.slice (some ⟨g1,0,none⟩) n1 k1,.slice B2 n2 d2]) (v := .int .i64 0) ?_ ?_ ?_ (ret3 HTJ.out.below HTJ.out.br (Nat.lt_succ_self g) _ _ _).1 Tryz.underlying26 ?_ ?_ ?_ ?_;exact(by kernel_rfl);exact(by kernel_rfl);exact(by kernel_rfl);rfl;exact(by kernel_rfl);rfl;rw[HR2.out];exact⟨_,_,_,rfl,HTJ.out.om.st3 HGB.out (by rw[HG.out];have:=HGB.out;omega) _ _ _,by rw[HG.out];exact(ret3 HTJ.out.below HTJ.out.br (Nat.lt_succ_self g) _ _ _).2⟩)
end Go.Proofs.YtfcjnhkkfmgmpaaGreat
