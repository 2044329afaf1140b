import Derived.Test.YtfcjnhkkfmgmpaaGreatZtG43
import Derived.Test.YtfcjnhkkfmgmpaaGreatZtG47
set_option linter.all false
set_option maxRecDepth 100000
set_option maxHeartbeats 8000000
namespace Go.Proofs.YtfcjnhkkfmgmpaaGreat
open Go.RowKit aS Go.Proofs.aA.R Go.Proofs.aA.Z Go.Proofs.aB.aZ
def Du (zs:List Int) (n1:Nat) (t k:Int):Int × Int × Int :=
 if qm n1 t k=true then (fT (bV zs (zs.getD (3*t.toNat+nx k.toNat) 0) (zs.getD (3*t.toNat+k.toNat) 0) (3*n1)),fK (bV zs (zs.getD (3*t.toNat+nx k.toNat) 0) (zs.getD (3*t.toNat+k.toNat) 0) (3*n1)),0) else (0,0,1)
theorem ak9 (A0 A1 A2:Option Addr) (c0 n1 c1 c2:Nat) (ps:PS) (zs:List Int) (ss:SS) (w:World) (hA:mJ w A0 A1 A2 c0 c2 ps zs n1 ss) (K:Nat) (hK:pQ.f K ps=some 0) (bJ:Nat->Nat->Nat->Int) (hO:Kn K ps bJ) (hM:uG ps.length zs n1 ss bJ) (t k:Int) :
  Calls Tryz.prog 24 #[.agg #[.slice A0 ps.length c0,.slice A1 n1 c1,.slice A2 ss.length c2],.int .i64 t,.int .i64 k] w fun e w'=>e = .returned (.tuple #[.int .i64 (Du zs n1 t k).1,.int .i64 (Du zs n1 t k).2.1,.int .i64 (Du zs n1 t k).2.2])/\Below w.heap.size w w':=by
 obtain⟨n0,hn0⟩:∃ n,ps.length=n:=⟨_,rfl⟩
 obtain⟨n2,hn2⟩:∃ n,ss.length=n:=⟨_,rfl⟩
 have HL:=qh (show n0<=400/\n1<=900/\n2<=1300 from ⟨hn0 ▸ hM.l0,hM.l1,hn2 ▸ hM.l2⟩);have bI:=qh (MB.new w A0 A1 A2 n0 c0 n1 c1 n2 c2);have yj:=qh (U3 A0 A1 A2 c0 n1 c1 c2 ps zs ss _ (hA.below bI.out.below rfl) K hK bJ hO hM);rw[hn0,hn2]at yj
 have H0:=qh hn0;have HA:=qh hA;have HM:=qh hM;rw[hn0,hn2];clear hA hK hO hM hn0 hn2;obtain⟨g,hg⟩:∃ g,w.heap.size=g:=⟨_,rfl⟩
 have HG:=qh hg;rw[hg]at bI
 have q0:=bI.out.b0;have q1:=bI.out.b1;have q2:=bI.out.b2;go_enter Tryz.func24,Tryz.ntmps24;go_wp2_with (refine yj.out.mono ?_;rintro e w2 ⟨kb,B,rfl,hkb,hB,hmp,e0,e1,e2,e3,hb⟩;refine Stop.out ?_)
 refine⟨?_⟩;have gY:=qh (show MB g w A0 A1 A2 n0 c0 n1 c1 n2 c2 w2/\SMap w2 B zs (3*n1)/\w2.cell? ⟨kb,1,none⟩=some (.slice A1 n1 c1)/\w2.cell? ⟨kb,3,none⟩=some (.map (some B)) from ⟨bI.out.step hb,hmp,e1,e3⟩);clear hb hmp hB yj bI q0 q1 q2 e0 e2 e3 e1 hkb;cases hB:qm n1 t k with
 | false =>
  have pN:=qh (UY kb A1 n1 c1 w2 gY.out.2.2.1 t k hB);have HR:=qh (show Du zs n1 t k=(0,0,1) from if_neg (by rw[hB];decide));clear hB;go_wp2_with (refine pN.out.mono ?_;rintro e w3 ⟨rfl,hb⟩;refine Stop.out ?_)
  refine⟨?_⟩;have cW:=qh ((gY.out.1.step hb).step ((Below.refl w3.heap.size w3).alloc (Nat.le_refl _) (.cells #[.int .i64 0,.int .i64 0] 66)));clear hb pN gY;go_wp2
  refine bodyPost_ret (by simp[results,Tryz.results24,go_sem];try rfl) rfl ?_;exact⟨by rw[HR.out],by rw[HG.out];exact cW.out.below⟩
 | true =>
  have hR:=hB;unfold qm at hR;simp only[Bool.and_eq_true,decide_eq_true_eq]at hR;obtain⟨⟨⟨a1,a2⟩,a3⟩,a4⟩:=hR;obtain⟨T,rfl⟩:=Int.eq_ofNat_of_zero_le a1;obtain⟨k,rfl⟩:=Int.eq_ofNat_of_zero_le a3;have hT:T<n1:=by omega
  have hk:k<=2:=by omega
  have gJ:=qh (HA.out.below gY.out.1.below HG.out.symm);have pN:=qh (VG kb A1 n1 c1 zs w2 gY.out.2.2.1 gJ.out.t T k hT hk (by have:=HL.out;omega));have hac:Du zs n1 (T:Int) (k:Int)=_:=if_pos hB;simp only[Int.toNat_natCast]at hac;have fc:=HM.out.inr (j:=3*T+k) qo;have fM:=HM.out.inr (j:=3*T+nx k) (by unfold nx;split <;> omega);obtain⟨xa,jx⟩:∃ x,zs.getD (3*T+k) 0=x:=⟨_,rfl⟩
  obtain⟨xb,jy⟩:∃ x,zs.getD (3*T+nx k) 0=x:=⟨_,rfl⟩
  rw[jx,jy]at pN hac
  have HR:=qh hac;rw[jx]at fc
  rw[jy]at fM
  have eR:=qh (show(0<=xa/\xa<n0)/\0<=xb/\xb<n0 from H0.out ▸ ⟨fc,fM⟩);clear jx jy hac fc fM hT hk a1 a2 a3 a4 hB gJ;go_wp2_with (refine pN.out.mono ?_;rintro e w3 ⟨rfl,hb⟩;refine Stop.out ?_)
  refine⟨?_⟩;have dA:=hb.trans (((Below.refl w3.heap.size w3).alloc (Nat.le_refl _) (.cells #[.int .i64 xa,.int .i64 xb] 66)).mono hb.size)
  have ir:=qh (show MB g w A0 A1 A2 n0 c0 n1 c1 n2 c2 (w3.alloc (.cells #[.int .i64 xa,.int .i64 xb] 66))/\SMap (w3.alloc (.cells #[.int .i64 xa,.int .i64 xb] 66)) B zs (3*n1)/\(w3.alloc (.cells #[.int .i64 xa,.int .i64 xb] 66)).cell? ⟨kb,3,none⟩=some (.map (some B)) from
   ⟨gY.out.1.step dA,gY.out.2.1.below dA gY.out.2.1.lt,(dA.cell (ql gY.out.2.2.2)).trans gY.out.2.2.2⟩)
  have d0:(w3.alloc (.cells #[.int .i64 xa,.int .i64 xb] 66)).cell? ⟨w3.heap.size,0,none⟩=some (.int .i64 xa):=by simp[go_sem]
  have d1:(w3.alloc (.cells #[.int .i64 xa,.int .i64 xb] 66)).cell? ⟨w3.heap.size,1,none⟩=some (.int .i64 xb):=by simp[go_sem]
  clear hb dA pN gY;go_upto_region 7 with fail
  generalize (w3.alloc (.cells #[.int .i64 xa,.int .i64 xb] 66))=w4 at ir d0 d1 ⊢;generalize w3.heap.size=eb at d0 d1 ⊢;have wa:W6 xa:=vn eR.out.1.1 (by have:=HL.out;have:=eR.out;omega);have wb:W6 xb:=vn eR.out.2.1 (by have:=HL.out;have:=eR.out;omega);have vH:=qh (fun W=>Qh xa xb W);have hlk:∀ W,Below w4.heap.size w4 W->_:=fun W hW=>(ir.out.2.1.below hW ir.out.2.1.lt).look wb wa;have k3:=ir.out.2.2;have dI:w4.cell? ⟨kb,3,none⟩=some (.map (some B))/\w4.cell? ⟨eb,0,none⟩=some (.int .i64 xa)/\w4.cell? ⟨eb,1,none⟩=some (.int .i64 xb)/\Below w4.heap.size w4 w4:=⟨k3,d0,d1,Below.refl _ _⟩
  obtain⟨s1,hs1⟩:∃ x,sT (bV zs xb xa (3*n1))=x:=⟨_,rfl⟩
  obtain⟨s2,hs2⟩:∃ x,sK (bV zs xb xa (3*n1))=x:=⟨_,rfl⟩
  obtain⟨s3,hs3⟩:∃ x,(bV zs xb xa (3*n1)).isSome=x:=⟨_,rfl⟩
  rw[hs1,hs2,hs3]at hlk
  have X1:=qh hs1;have X2:=qh hs2;have X3:=qh hs3;clear hs1 hs2 hs3 wa wb k3 d0 d1;go_cut [12,13] (fun a b wx=>∃ h:Nat,a = .pointer (some ⟨h,0,none⟩)/\b = .bool s3/\Hid ((w4.heap.size<=h/\Below w4.heap.size w4 wx)/\wx.cell? ⟨h,0,none⟩=some (.int .i64 s1)/\wx.cell? ⟨h,1,none⟩=some (.int .i64 s2)))
  case first =>
   go_region_held3 (S3 w4 ⟨kb,3,none⟩ ⟨eb,0,none⟩ ⟨eb,1,none⟩ (.map (some B)) (.int .i64 xa) (.int .i64 xb)) (first|assumption|exact IX (by assumption)|exact U5 _ (by assumption)|exact VU dI hS1 (Nat.le_refl _) _ _) (first|(go_at_call 27;refine(vH.out _).mono ?_;rintro e wn ⟨rfl,hbr⟩;have hS1:=PU hbr (by assumption);first|(have p0:=(hbr.cell (p:=⟨w4.heap.size,0,none⟩) (by simp)).trans (show(World.alloc w4 (.cells #[.int .i64 0,.int .i64 0] 70)).cell? ⟨w4.heap.size,0,none⟩=some (.int .i64 0) by simp[go_sem]);have p1:=(hbr.cell (p:=⟨w4.heap.size,1,none⟩) (by simp)).trans (show(World.alloc w4 (.cells #[.int .i64 0,.int .i64 0] 70)).cell? ⟨w4.heap.size,1,none⟩=some (.int .i64 0) by simp[go_sem]);have p2:=(hbr.frozen (p:=⟨w4.heap.size,0,none⟩) (by simp)).trans (show(World.alloc w4 (.cells #[.int .i64 0,.int .i64 0] 70)).frozen? ⟨w4.heap.size,0,none⟩=false by simp[go_sem]);have p3:=(hbr.frozen (p:=⟨w4.heap.size,1,none⟩) (by simp)).trans (show(World.alloc w4 (.cells #[.int .i64 0,.int .i64 0] 70)).frozen? ⟨w4.heap.size,1,none⟩=false by simp[go_sem]))|skip;clear hbr)|fail)
   all_goals go_wp2
   all_goals go_meet
   all_goals refine⟨_,rfl,rfl,qh ⟨⟨?_,(show S3 w4 ⟨kb,3,none⟩ ⟨eb,0,none⟩ ⟨eb,1,none⟩ (.map (some B)) (.int .i64 xa) (.int .i64 xb) _ from by first|assumption|exact IX (by assumption)).2.2.2⟩,?_,?_⟩⟩
   all_goals first|exact Nat.le_refl _|exact hS1.2.2.2.size|(simp[go_sem];done)|(simp[go_sem,p0,p1,p2,p3];done)
  case rest =>
   obtain⟨h,rfl,rfl,HU⟩:=hcut;have f0:=HU.out.2.1;have f1:=HU.out.2.2;have jw:=qh (ir.out.1.step HU.out.1.2);clear hlk dI ir vH;generalize hfo:bV zs xb xa (3*n1)=fo at X1 X2 X3;cases fo with
   | none =>
    have hs3:s3=false:=X3.out.symm;subst hs3;have eU:=qh (show Du zs n1 (T:Int) (k:Int)=(fT none,fK none,0) by rw[HR.out,hfo]);clear hfo;go_wp2
    refine bodyPost_ret (by simp[results,Tryz.results24,go_sem];try rfl) rfl ?_;exact⟨by rw[eU.out];rfl,by rw[HG.out];exact jw.out.below⟩
   | some j =>
    have hs3:s3=true:=X3.out.symm;subst hs3;have vM:=qh (show s1=fT (some j) from X1.out.symm);have BA:=qh (show s2=fK (some j) from X2.out.symm);have eU:=qh (show Du zs n1 (T:Int) (k:Int)=(fT (some j),fK (some j),0) by rw[HR.out,hfo]);clear hfo X1 X2 X3;go_upto_region 9 with fail
    refine yJ wc qk qk ?_;have f0':=cL f0;have f1':=cL f1;clear f0 f1;repeat(go_big_quiet_step (fail))
    refine wpQuiet_nil ?_;intro _ hw';obtain⟨p,rfl⟩:=hw';go_wp2
    refine bodyPost_ret (by simp[results,Tryz.results24,go_sem];try rfl) rfl ?_;exact⟨by rw[eU.out,vM.out,BA.out],by rw[HG.out];exact jw.out.below.trans (p.h.mono (Nat.le_of_lt (ql jw.out.b0)))⟩
theorem au1:Du zs2 2 0 2=(1,0,0):=by decide +kernel
theorem aoN {w:World} {b g1 k1:Nat} {x0 x1 x2 x3 x4 x5:Int} (h:w.ownsRow b 61 3 (.slice (some ⟨g1,0,none⟩) 2 k1) 2 (ko [x0,x1,x2,x3,x4,x5])) :
  w.cell? ⟨g1,0,none⟩=some (.int .i64 x0)/\w.cell? ⟨g1,1,none⟩=some (.int .i64 x1)/\w.cell? ⟨g1,2,none⟩=some (.int .i64 x2)/\w.cell? ⟨g1,3,none⟩=some (.int .i64 x3)/\w.cell? ⟨g1,4,none⟩=some (.int .i64 x4)/\w.cell? ⟨g1,5,none⟩=some (.int .i64 x5) :=
 ⟨h.cells rfl 0 _ rfl,h.cells rfl 1 _ rfl,h.cells rfl 2 _ rfl,h.cells rfl 3 _ rfl,h.cells rfl 4 _ rfl,h.cells rfl 5 _ rfl⟩
attribute [local go_sem high] eqT
theorem apK (w:World):Calls Tryz.prog 8 #[] w fun e w'=>e = .returned (.bool true)/\Below w.heap.size w w':=by
 have H2:=qh (asN w);have n9:=qh (Below.refl w.heap.size w);go_enter Tryz.func8,Tryz.ntmps8;go_wp2_with (refine H2.out.mono ?_;rintro e w1 ⟨v0,v1,rfl,gQ,hb⟩;refine Stop.out ?_)
 refine⟨?_⟩;obtain⟨A0,c0,A1,c1,A2,c2,rfl,rfl,hv2,hc1,hA⟩:=gQ.args;injection hv2 with e1 e2 e3
 subst e1 e3;clear e2;have dA:=(Below.refl w1.heap.size w1).alloc (Nat.le_refl _) (.cells #[.slice A0 ps2.length c0,.slice A1 2 c1,.slice none 0 0] 26);have cZ:=qh (hb.trans (dA.mono hb.size));have SV:=qh (hA.below dA rfl);have fM:=qh (show aO ((w1.alloc (.cells #[.slice A0 ps2.length c0,.slice A1 2 c1,.slice none 0 0] 26)).heap[w1.heap.size]?=some (.cells #[.slice A0 ps2.length c0,.slice A1 2 c1,.slice none 0 0] 26 (0,0))) from ⟨iw _ _⟩);clear dA hb gQ hA H2;go_upto_region 2 with fail
 generalize (w1.alloc (.cells #[.slice A0 ps2.length c0,.slice A1 2 c1,.slice none 0 0] 26))=w2 at cZ SV fM ⊢;generalize w1.heap.size=g at fM ⊢;have HF:=qh (fun W (hA:mJ W A0 A1 none c0 0 ps2 zs2 2 [])=>ak9 A0 A1 none c0 2 c1 0 ps2 zs2 [] W hA 40 (OJ Kp qd 40 qd) (qD ps2) (SR Kp 40 qd) YK 0 2);have Z8:=qh (fun W (hA:mJ W A0 A1 none c0 0 ps2 zs2 2 [])=>adK A0 A1 none c0 2 c1 0 ps2 zs2 [] W hA rfl 40 (OJ Kp qd 40 qd) (qD ps2) (SR Kp 40 qd) YK (adO ps2) 0 2);have Ca:=qh (fun W (hA:mJ W A0 A1 none c0 0 ps2 zs2 2 [])=>adK A0 A1 none c0 2 c1 0 ps2 zs2 [] W hA rfl 40 (OJ Kp qd 40 qd) (qD ps2) (SR Kp 40 qd) YK (adO ps2) 0 0);rw[au1]at HF
 rw[auZ]at Z8
 rw[au0]at Ca
 obtain⟨a0,a1,a2,a3,a4,a5⟩:=z3 fM.out;go_wp2_with (refine(HF.out _ SV.out).mono ?_;rintro e w3 ⟨rfl,hb⟩;refine Stop.out ?_)
 refine⟨?_⟩;have Z9:=qh (SV.out.below hb rfl);have cW:=qh (cZ.out.trans (hb.mono cZ.out.size));have mW:=qh (show aO (w3.heap[g]?=some (.cells #[.slice A0 ps2.length c0,.slice A1 2 c1,.slice none 0 0] 26 (0,0))) from ⟨eW fM.out.out hb⟩);clear hb SV cZ fM HF a0 a1 a2 a3 a4 a5;obtain⟨a0,a1,a2,a3,a4,a5⟩:=z3 mW.out;go_wp2_with (refine(Z8.out _ Z9.out).mono ?_;rintro e w4 ⟨u0,u1,u2,rfl,gQ,hb⟩;refine Stop.out ?_)
 refine⟨?_⟩;replace gQ:OM w4 w3.heap.size u0 u1 u2 ps2 [3,0,1,3,1,2] 2 []:=gQ;obtain⟨g1,k1,rfl⟩:=gQ.blk qd;obtain⟨D0,d0,D1,d1,D2,d2,rfl,-,rfl,-,-⟩:=gQ.args;have dA:=(Below.refl w4.heap.size w4).alloc (Nat.le_refl _) (.cells #[.slice D0 ps2.length d0,.slice (some ⟨g1,0,none⟩) 2 k1,.slice D2 ([]:SS).length d2] 26);have cQ:=hb.trans (dA.mono hb.size);have Z_:=qh (Z9.out.below cQ rfl);have jw:=qh (cW.out.trans (cQ.mono cW.out.size));have rF:=qh (show aO ((w4.alloc (.cells #[.slice D0 ps2.length d0,.slice (some ⟨g1,0,none⟩) 2 k1,.slice D2 ([]:SS).length d2] 26)).heap[g]?=some (.cells #[.slice A0 ps2.length c0,.slice A1 2 c1,.slice none 0 0] 26 (0,0))) from ⟨eW mW.out.out cQ⟩);have mz:=qh (show aO ((w4.alloc (.cells #[.slice D0 ps2.length d0,.slice (some ⟨g1,0,none⟩) 2 k1,.slice D2 ([]:SS).length d2] 26)).heap[w4.heap.size]?=some (.cells #[.slice D0 ps2.length d0,.slice (some ⟨g1,0,none⟩) 2 k1,.slice D2 ([]:SS).length d2] 26 (0,0))) from ⟨iw _ _⟩);have HO5:=qh (Hw gQ.t dA);clear dA hb cQ gQ Z9 cW mW Z8 a0 a1 a2 a3 a4 a5;go_upto_region 4 with fail
 generalize (w4.alloc (.cells #[.slice D0 ps2.length d0,.slice (some ⟨g1,0,none⟩) 2 k1,.slice D2 ([]:SS).length d2] 26))=w5 at Z_ jw rF mz HO5 ⊢;generalize w4.heap.size=h at mz ⊢;obtain⟨a0,a1,a2,a3,a4,a5⟩:=z3 rF.out;go_wp2_with (refine(Ca.out _ Z_.out).mono ?_;rintro e w6 ⟨u0,u1,u2,rfl,gQ,hb⟩;refine Stop.out ?_)
 refine⟨?_⟩;replace gQ:OM w6 w5.heap.size u0 u1 u2 [] [] 0 []:=gQ;obtain⟨E0,f0,E1,f1,E2,f2,rfl,rfl,rfl,-,-⟩:=gQ.args;have mM:=hb.trans (((Below.refl w6.heap.size w6).alloc (Nat.le_refl _) (.cells #[.slice E0 ([]:PS).length f0,.slice E1 0 f1,.slice E2 ([]:SS).length f2] 26)).mono hb.size);have uE:=qh (jw.out.trans (mM.mono jw.out.size));have HN6:=qh (show aO ((w6.alloc (.cells #[.slice E0 ([]:PS).length f0,.slice E1 0 f1,.slice E2 ([]:SS).length f2] 26)).heap[h]?=some (.cells #[.slice D0 ps2.length d0,.slice (some ⟨g1,0,none⟩) 2 k1,.slice D2 ([]:SS).length d2] 26 (0,0))) from ⟨eW mz.out.out mM⟩);have HO6:=qh (Hw HO5.out mM);clear hb mM gQ Z_ jw rF mz HO5 Ca a0 a1 a2 a3 a4 a5;go_upto_region 5 with fail
 generalize (w6.alloc (.cells #[.slice E0 ([]:PS).length f0,.slice E1 0 f1,.slice E2 ([]:SS).length f2] 26))=w7 at uE HN6 HO6 ⊢;obtain⟨a0,a1,a2,a3,a4,a5⟩:=z3 HN6.out;obtain⟨x0,x1,x2,x3,x4,x5⟩:=aoN HO6.out;go_wp2
 go_ret
 exact⟨rfl,uE.out⟩
theorem add_add (ad:Addr) (m n:Nat):(ad.add m).add n=ad.add (m+n):=by
 unfold Addr.add;by_cases h1:m=0
 ·subst h1;simp
 ·by_cases h2:n=0
  ·subst h2;simp[h1]
  ·have h3:¬ m+n=0:=by omega
   simp only[if_neg h1,if_neg h2,if_neg h3];congr 1
   omega
theorem adP (k:Nat) (h:k<=2):((k:Int)+2).tmod 3=(px k:Int):=by
 have:k=0\/k=1\/k=2:=by omega
 rcases this with rfl|rfl|rfl <;> decide
theorem Ju {k:Nat} (h:k<=2):px k<3:=by unfold px;split <;> omega
abbrev P6 (ad:Addr) (ps:PS) (i:Nat) (w:World):Prop:=w.cell? (ad.add (i*6))=some (.bool (ay ps i).f0.f0.f0)/\w.cell? ⟨(ad.add (i*6)).block,(ad.add (i*6)).off+1,none⟩=some (.string (ay ps i).f0.f0.f1)/\w.cell? ⟨(ad.add (i*6)).block,(ad.add (i*6)).off+2,none⟩=some (.string (ay ps i).f0.f1)/\w.cell? ⟨(ad.add (i*6)).block,(ad.add (i*6)).off+3,none⟩=some (.bool (ay ps i).f1.f0.f0)/\w.cell? ⟨(ad.add (i*6)).block,(ad.add (i*6)).off+4,none⟩=some (.string (ay ps i).f1.f0.f1)/\w.cell? ⟨(ad.add (i*6)).block,(ad.add (i*6)).off+5,none⟩=some (.string (ay ps i).f1.f1)
abbrev SP (w0:World) (ad:Addr) (ps:PS) (i j k l:Nat) (w:World):Prop:=P6 ad ps i w/\P6 ad ps j w/\P6 ad ps k w/\P6 ad ps l w/\Below w0.heap.size w0 w
structure RF (g:Nat) (w:World) (A0 A1 A2:Option Addr) (n0 c0 n1 c1 n2 c2:Nat) (W:World):Prop where
 box:MB g w A0 A1 A2 n0 c0 n1 c1 n2 c2 W
 br:aO (W.heap[g+1]?=some (.cells fI 26 (0,0)))
structure LB (h:Nat) (ps:PS) (zs:List Int) (n1:Nat) (ss:SS) (A0 A1 A2:Option Addr) (c0 c1 c2 n0 n2:Nat) (W:World):Prop where
 a:mJ W A0 A1 A2 c0 c2 ps zs n1 ss
 b:aO (W.heap[h]?=some (.cells #[.slice A0 n0 c0,.slice A1 n1 c1,.slice A2 n2 c2] 26 (0,0)))
theorem LB.step {h:Nat} {ps:PS} {zs:List Int} {n1:Nat} {ss:SS} {A0 A1 A2:Option Addr} {c0 c1 c2 n0 n2:Nat} {W W':World} (hl:LB h ps zs n1 ss A0 A1 A2 c0 c1 c2 n0 n2 W) (hb:Below W.heap.size W W'):LB h ps zs n1 ss A0 A1 A2 c0 c1 c2 n0 n2 W':=⟨hl.a.below hb rfl,⟨eW hl.b.out hb⟩⟩
theorem LB.new {w W:World} {b:Nat} {A0 A1 A2:Option Addr} {c0 c1 c2:Nat} {ps:PS} {zs:List Int} {n1:Nat} {ss:SS} (h:mJ W A0 A1 A2 c0 c2 ps zs n1 ss):LB W.heap.size ps zs n1 ss A0 A1 A2 c0 c1 c2 ps.length ss.length (W.alloc (.cells #[.slice A0 ps.length c0,.slice A1 n1 c1,.slice A2 ss.length c2] 26)) :=
 ⟨h.below ((Below.refl _ _).alloc (Nat.le_refl _) _) rfl,⟨iw _ _⟩⟩
abbrev S0T:=mN
def vD (zs:List Int) (t:Nat) (a b c n:Int):List Int:=uR zs t a n c++[n,b,c]
def Bw (zs:List Int) (o:Option Nat) (z1:List Int) (a b n:Int):List Int :=
 match o with
 | none=>z1
 | some j=>uR z1 (j / 3) b n (zs.getD (3*(j / 3)+px (j%3)) 0)++[n,a,zs.getD (3*(j / 3)+px (j%3)) 0]
def o_ (o:Option Nat) (n1:Nat):Nat:=match o with
 | none=>n1+1
 | some _=>n1+2
def GC (ss:SS) (sg n:Int):SS:=if 0<=sg then ss.set sg.toNat ⟨(bH ss sg.toNat).f0,n,(bH ss sg.toNat).f2⟩++[⟨n,(bH ss sg.toNat).f1,(bH ss sg.toNat).f2⟩] else ss
def xO (ps:PS) (zs:List Int) (n1:Nat) (ss:SS) (bd:Nat->Nat->Bool) (br:Int) (p:lA) (t k:Int):MO :=
 if qm n1 t k=true then
  (if br=0 then
   (if bd (zs.getD (3*t.toNat+k.toNat) 0).toNat (zs.getD (3*t.toNat+nx k.toNat) 0).toNat=true then lT 7
   else (0,ps++[p],Bw zs (bV zs (zs.getD (3*t.toNat+nx k.toNat) 0) (zs.getD (3*t.toNat+k.toNat) 0) (3*n1)) (vD zs t.toNat (zs.getD (3*t.toNat+k.toNat) 0) (zs.getD (3*t.toNat+nx k.toNat) 0) (zs.getD (3*t.toNat+px k.toNat) 0) ps.length) (zs.getD (3*t.toNat+k.toNat) 0) (zs.getD (3*t.toNat+nx k.toNat) 0) ps.length,o_ (bV zs (zs.getD (3*t.toNat+nx k.toNat) 0) (zs.getD (3*t.toNat+k.toNat) 0) (3*n1)) n1,GC ss (pM ss (zs.getD (3*t.toNat+k.toNat) 0) (zs.getD (3*t.toNat+nx k.toNat) 0)) ps.length))
  else lT br)
 else lT 1
def jZ:SS->List Value
 | []=>[]
 | s::r => .int .i64 s.f0 :: .int .i64 s.f1 :: .bool s.f2::jZ r
theorem aax:∀ ss:SS,(jZ ss).length=ss.length*3
 | []=>rfl
 | s::r=>by simp only[jZ,List.length_cons,aax r];omega
theorem aay:∀ (a b:SS),jZ (a++b)=jZ a++jZ b
 | [],b=>rfl
 | s::r,b=>by simp only[jZ,List.cons_append,aay r b]
theorem aal:∀ (ss:SS) (i:Nat) (x:Int),i<ss.length->(jZ ss).set (i*3) (.int .i64 x)=jZ (ss.set i ⟨x,(bH ss i).f1,(bH ss i).f2⟩)
 | s::r,0,x,_=>rfl
 | s::r,i+1,x,h=>by
  rw[show(i+1)*3=i*3+1+1+1 by omega]
  simp only[jZ,List.set_cons_succ]
  rw[aal r i x (by simpa using h)]
  rfl
theorem Td:∀ (ss:SS) (i:Nat) (x:Int),i<ss.length->(jZ ss).set (i*3+1) (.int .i64 x)=jZ (ss.set i ⟨(bH ss i).f0,x,(bH ss i).f2⟩)
 | s::r,0,x,_=>rfl
 | s::r,i+1,x,h=>by
  rw[show(i+1)*3+1=i*3+1+1+1+1 by omega]
  simp only[jZ,List.set_cons_succ]
  rw[Td r i x (by simpa using h)]
  rfl
theorem aam:∀ (ss:SS) (i:Nat) (x:Bool),i<ss.length->(jZ ss).set (i*3+2) (.bool x)=jZ (ss.set i ⟨(bH ss i).f0,(bH ss i).f1,x⟩)
 | s::r,0,x,_=>rfl
 | s::r,i+1,x,h=>by
  rw[show(i+1)*3+2=i*3+2+1+1+1 by omega]
  simp only[jZ,List.set_cons_succ]
  rw[aam r i x (by simpa using h)]
  rfl
theorem ale {ss:SS} {i:Nat} (h:i<ss.length) (x:S0T):bH (ss.set i x) i=x:=by
 show(ss.set i x).getD i Sr=x;rw[List.getD_eq_getElem?_getD,List.getElem?_set_self h];rfl
theorem Te (w:World):∀ ss:SS,bz (qi.K w) 3 ss (jZ ss)
 | []=>bz.none _ _
 | s::r=>by
  have h:=Te w r
  refine⟨aax _,fun j q hj=>?_⟩
  cases j with
  | zero =>
   simp at hj
   subst hj
   exact adm w s
  | succ j =>
   have:=h.2 j q (by simpa using hj)
   rw[show(j+1)*3=j*3+1+1+1 by omega]
   simpa only[jZ,List.drop_succ_cons] using this
theorem aaR {w:World}:∀ {ss:SS} {cs:List Value},bz (qi.K w) 3 ss cs->cs=jZ ss
 | [],cs,h=>List.eq_nil_of_length_eq_zero (by have:=h.1;simpa using this)
 | s::r,cs,h=>by
  have h0:=aa4 (h.2 0 s rfl)
  rw[Nat.zero_mul,List.drop_zero]at h0
  have hr:bz (qi.K w) 3 r (cs.drop 3):=by
   refine⟨by rw[List.length_drop,h.1,List.length_cons];omega,fun j q hj=>?_⟩;have:=h.2 (j+1) q (by simpa using hj);rw[List.drop_drop,show 3+j*3=(j+1)*3 by omega];exact this
  rw[<- List.take_append_drop 3 cs,h0,aaR hr];rfl
theorem Tj:∀ (ss:SS),∀ u∈jZ ss,u.oneCell'=true
 | [],u,hu=>by cases hu
 | s::r,u,hu=>by
  simp only[jZ,List.mem_cons]at hu
  rcases hu with rfl|rfl|rfl|hu
  ·rfl
  ·rfl
  ·rfl
  ·exact Tj r u hu
structure TJ (o b:Nat) (W6:World) (y:Array Value) (v0 v1 v2:Value) (ps:PS) (zs:List Int) (n1:Nat) (ss:SS) (W:World):Prop where
 om:OM W b v0 v1 v2 ps zs n1 ss
 bo:aO (W.heap[o]?=some (.cells y 26 (0,0)))
 bl:Below W6.heap.size W6 W
 ho:W6.heap.size<=o
 hb:W6.heap.size<=b
 hz:b<=W.heap.size
section
variable {o b:Nat} {W6:World} {y:Array Value} {v0 v1 v2 v':Value} {ps:PS} {zs:List Int} {n1:Nat} {ss:SS} {W W':World}
theorem TJ.step (h:TJ o b W6 y v0 v1 v2 ps zs n1 ss W) (hb:Below W.heap.size W W'):TJ o b W6 y v0 v1 v2 ps zs n1 ss W' :=
 ⟨h.om.below hb,⟨eW h.bo.out hb⟩,h.bl.trans (hb.mono (Nat.le_trans h.hb h.hz)),h.ho,h.hb,Nat.le_trans h.hz hb.size⟩
theorem TJ.al (h:TJ o b W6 y v0 v1 v2 ps zs n1 ss W) (ob:Obj):TJ o b W6 y v0 v1 v2 ps zs n1 ss (W.alloc ob):=h.step ((Below.refl _ _).alloc (Nat.le_refl _) _)
theorem TJ.st (h:TJ o b W6 y v0 v1 v2 ps zs n1 ss W) (i:Nat) (u:Value):TJ o b W6 (y.setIfInBounds i u) v0 v1 v2 ps zs n1 ss (W.setCell ⟨o,i,none⟩ u) :=
 ⟨atp h.om h.bo.out i u,⟨uK h.bo.out i u⟩,h.bl.setCell (p:=⟨o,i,none⟩) h.ho u,h.ho,h.hb,by simpa [World.setCell] using h.hz⟩
theorem TJ.grown (h:TJ o b W6 y v0 v1 v2 ps zs n1 ss W) {e:TypeId} {size n:Nat} {v:Value} {cs:List Value} (ho:W.ownsRow b e size v n cs) (hne:26≠e) (hg:W.grownBy W' v.ownBlock):aO (W'.heap[o]?=some (.cells y 26 (0,0)))/\Below W6.heap.size W6 W'/\b<=W'.heap.size :=
 ⟨⟨U6 ho hg h.bo.out (.inr hne)⟩,h.bl.grown hg (Nat.le_trans h.hb h.hz) (fun k hk=>Nat.le_trans h.hb (Av ho k hk)),Nat.le_trans h.hz hg.size⟩
theorem TJ.YR (h:TJ o b W6 y v0 v1 v2 ps zs n1 ss W) {cs0:List Value} (ho:W.ownsRow b 42 6 v0 ps.length cs0) (hr:bz (dX.K W) 6 ps cs0) {p:lA} {c:List Value} (hp:dX.K W p c) (cC:c.length=6)
  (hO:W'.ownsRow b 42 6 v' (ps.length+1) (cs0++c)) (hg:W.grownBy W' v0.ownBlock):TJ o b W6 y v' v1 v2 (ps++[p]) zs n1 ss W':=by
 obtain⟨-,ht,⟨kI,hr2,mU⟩⟩:=h.om;obtain⟨h1,h2,h3⟩:=h.grown ho qd hg;exact⟨⟨⟨cs0++c,(hr.snoc hp cC).jh (fun _ _ hp=>hp),by rw[List.length_append];exact hO⟩,yK ho hg ht qd,⟨kI,hr2.jh (fun _ _ hp=>hp),yK ho hg mU qd⟩⟩,h1,h2,h.ho,h.hb,h3⟩
theorem TJ.M9 (h:TJ o b W6 y v0 v1 v2 ps zs n1 ss W) {l:List Int} {m:Nat} (hO:W'.ownsRow b 61 3 v' (n1+m) (ko zs++ko l)) (hg:W.grownBy W' v1.ownBlock):TJ o b W6 y v0 v' v2 ps (zs++l) (n1+m) ss W':=by
 obtain⟨⟨cs0,dm,kH⟩,ho,⟨kI,hr2,mU⟩⟩:=h.om;obtain⟨h1,h2,h3⟩:=h.grown ho qd hg;exact⟨⟨⟨cs0,dm.jh (fun _ _ hp=>hp),yK ho hg kH qd⟩,by unfold ko at *;rw[List.map_append];exact hO,⟨kI,hr2.jh (fun _ _ hp=>hp),yK ho hg mU qd⟩⟩,h1,h2,h.ho,h.hb,h3⟩
theorem TJ.seg (h:TJ o b W6 y v0 v1 v2 ps zs n1 ss W):W.ownsRow b 55 3 v2 ss.length (jZ ss):=by
 obtain⟨-,-,⟨kI,hr2,mU⟩⟩:=h.om;rw[<- aaR hr2];exact mU
theorem TJ.aiO (h:TJ o b W6 y v0 v1 v2 ps zs n1 ss W) {s:S0T} (hO:W'.ownsRow b 55 3 v' (ss.length+1) (jZ ss++jZ [s])) (hg:W.grownBy W' v2.ownBlock):TJ o b W6 y v0 v1 v' ps zs n1 (ss++[s]) W':=by
 have ho:=h.seg;obtain⟨⟨cs0,dm,kH⟩,ht,-⟩:=h.om;obtain⟨h1,h2,h3⟩:=h.grown ho qd hg;exact⟨⟨⟨cs0,dm.jh (fun _ _ hp=>hp),yK ho hg kH qd⟩,yK ho hg ht qd,⟨_,Te _ _,by rw[aay,List.length_append];exact hO⟩⟩,h1,h2,h.ho,h.hb,h3⟩
theorem AH {e:TypeId} {size n k1 g1:Nat} {cs:List Value} (h:W.ownsRow b e size (.slice (some ⟨g1,0,none⟩) n k1) n cs):b<=g1/\∃ c,W.heap[g1]?=some (.cells c e (0,0))/\n*size<=c.size:=by
 rcases h.2 with ⟨h1,-⟩|⟨g,cap',cur,he,hb,hh,h1,h2,h3,h4⟩
 ·cases h1
 ·injection he with e1 e2 e3
  injection e1 with e1
  injection e1 with e1 _ _
  subst e1 e3;exact⟨hb,cur,hh,by rw[h3];exact Nat.mul_le_mul_right _ h1⟩
theorem Qu {e e':TypeId} {size n k1 g1 size' n':Nat} {v:Value} {cs cs':List Value} (h:W.ownsRow b e size (.slice (some ⟨g1,0,none⟩) n k1) n cs) (h':W.ownsRow b e' size' v n' cs') (hne:e≠e') (i:Nat) (u:Value):(W.setCell ⟨g1,i,none⟩ u).ownsRow b e' size' v n' cs':=by
 obtain⟨hb,c,hc,-⟩:=AH h;refine yP h' (row:=some g1) ⟨rfl,rfl,rfl,by simp[World.setCell],fun k _ hk=>Below.heap_setCell W _ _ k (fun e=>hk (by rw[e]))⟩ (fun k hk=>?_);cases hk;exact⟨_,_,_,hc,hne⟩
theorem TJ.row (h:TJ o b W6 y v0 v1 v2 ps zs n1 ss W) {e:TypeId} {size n k1 g1:Nat} {cs:List Value} (hr:W.ownsRow b e size (.slice (some ⟨g1,0,none⟩) n k1) n cs) (hne:e≠26) (i:Nat) (u:Value):aO ((W.setCell ⟨g1,i,none⟩ u).heap[o]?=some (.cells y 26 (0,0)))/\Below W6.heap.size W6 (W.setCell ⟨g1,i,none⟩ u)/\b<=(W.setCell ⟨g1,i,none⟩ u).heap.size:=by
 obtain⟨hb,c,hc,-⟩:=AH hr;exact⟨⟨Go.Proofs.aB.aZ.dQ h.bo.out (p:=⟨g1,i,none⟩) (y9 h.bo.out hc (fun e=>hne e.symm)) u⟩,h.bl.setCell (p:=⟨g1,i,none⟩) (Nat.le_trans h.hb hb) u,by simpa [World.setCell] using h.hz⟩
theorem TJ.Gr {g1 k1:Nat} (h:TJ o b W6 y v0 (.slice (some ⟨g1,0,none⟩) n1 k1) v2 ps zs n1 ss W) {i:Nat} (hi:i<n1*3) (x:Int):TJ o b W6 y v0 (.slice (some ⟨g1,0,none⟩) n1 k1) v2 ps (zs.set i x) n1 ss (W.setCell ⟨g1,i,none⟩ (.int .i64 x)):=by
 obtain⟨⟨cs0,dm,kH⟩,ht,⟨kI,hr2,mU⟩⟩:=h.om;obtain⟨h1,h2,h3⟩:=h.row ht qd i (.int .i64 x);refine⟨⟨⟨cs0,dm.jh (fun _ _ hp=>hp),Qu ht kH qd _ _⟩,?_,⟨kI,hr2.jh (fun _ _ hp=>hp),Qu ht mU qd _ _⟩⟩,h1,h2,h.ho,h.hb,h3⟩;have:=U4 ht hi (.int .i64 x);unfold ko at this ⊢;rw[List.map_set];exact this
theorem TJ.Gs {g1 k1:Nat} (h:TJ o b W6 y v0 (.slice (some ⟨g1,0,none⟩) n1 k1) v2 ps zs n1 ss W) {t:Nat} (ht:t<n1) (a b' c:Int):TJ o b W6 y v0 (.slice (some ⟨g1,0,none⟩) n1 k1) v2 ps (uR zs t a b' c) n1 ss (((W.setCell ⟨g1,t*3,none⟩ (.int .i64 a)).setCell ⟨g1,t*3+1,none⟩ (.int .i64 b')).setCell ⟨g1,t*3+2,none⟩ (.int .i64 c)) :=
 ((h.Gr qo a).Gr qo b').Gr qo c
theorem TJ.RU {g2 k2:Nat} (h:TJ o b W6 y v0 v1 (.slice (some ⟨g2,0,none⟩) ss.length k2) ps zs n1 ss W) {i:Nat} {u:Value} {ss':SS} (hs:(jZ ss).set i u=jZ ss') (hl:ss'.length=ss.length) (hi:i<ss.length*3):TJ o b W6 y v0 v1 (.slice (some ⟨g2,0,none⟩) ss'.length k2) ps zs n1 ss' (W.setCell ⟨g2,i,none⟩ u):=by
 have hr:=h.seg;obtain⟨⟨cs0,dm,kH⟩,ht,-⟩:=h.om;obtain⟨h1,h2,h3⟩:=h.row hr qd i u;refine⟨⟨⟨cs0,dm.jh (fun _ _ hp=>hp),Qu hr kH qd _ _⟩,Qu hr ht qd _ _,⟨_,Te _ _,?_⟩⟩,h1,h2,h.ho,h.hb,h3⟩;rw[hl,<- hs];exact U4 hr hi u
theorem TJ.atr {g2 k2 n:Nat} (hn:ss.length=n) (h:TJ o b W6 y v0 v1 (.slice (some ⟨g2,0,none⟩) n k2) ps zs n1 ss W) {i:Nat} (hi:i<n) (a c:Int) (f:Bool):TJ o b W6 y v0 v1 (.slice (some ⟨g2,0,none⟩) n k2) ps zs n1 (ss.set i ⟨a,c,f⟩) (((W.setCell ⟨g2,i*3,none⟩ (.int .i64 a)).setCell ⟨g2,i*3+1,none⟩ (.int .i64 c)).setCell ⟨g2,i*3+2,none⟩ (.bool f)):=by
 subst hn;have h1:=h.RU (aal ss i a hi) (List.length_set ..) qo;have h2:=h1.RU (Td _ i c (by rw[List.length_set];exact hi)) (List.length_set ..) (by rw[List.length_set];omega);have h3:=h2.RU (aam _ i f (by rw[List.length_set,List.length_set];exact hi)) (List.length_set ..) (by rw[List.length_set,List.length_set];omega);simp only[List.length_set,List.set_set,ale hi]at h3;exact h3
theorem TJ.att {g2 k2 n:Nat} (hn:ss.length=n) (h:TJ o b W6 y v0 v1 (.slice (some ⟨g2,0,none⟩) n k2) ps zs n1 ss W) {i:Nat} (hi:i<n) (c:Int):TJ o b W6 y v0 v1 (.slice (some ⟨g2,0,none⟩) n k2) ps zs n1 (ss.set i ⟨(bH ss i).f0,c,(bH ss i).f2⟩) (W.setCell ⟨g2,i*3+1,none⟩ (.int .i64 c)):=by
 subst hn;have h2:=h.RU (Td ss i c hi) (List.length_set ..) qo;simp only[List.length_set]at h2;exact h2
theorem Iw {e:TypeId} {n k1 g1:Nat} {cs:List Value} (h:W.ownsRow b e 3 (.slice (some ⟨g1,0,none⟩) n k1) n cs) {t:Nat} (ht:t<n) :
  ∃ u0 u1 u2,W.cell? ⟨g1,t*3,none⟩=some u0/\W.cell? ⟨g1,t*3+1,none⟩=some u1/\W.cell? ⟨g1,t*3+2,none⟩=some u2/\W.frozen? ⟨g1,t*3,none⟩=false/\W.frozen? ⟨g1,t*3+1,none⟩=false/\W.frozen? ⟨g1,t*3+2,none⟩=false:=by
 obtain⟨hb,c,hc,hs⟩:=AH h;refine⟨c[t*3]'(by omega),c[t*3+1]'(by omega),c[t*3+2]'(by omega),?_,?_,?_,b_ hc _,b_ hc _,b_ hc _⟩;all_goals rw[eA hc];exact Array.getElem?_eq_getElem _
theorem TJ.ret {g:Nat} {w:World} {A0 A1 A2:Option Addr} {n0 c0 m1 c1 n2 c2:Nat} {p:lA} (h:TJ o b W6 y v0 v1 v2 ps zs n1 ss W) (hF:RP g w A0 A1 A2 n0 c0 m1 c1 n2 c2 p W6) (hg:w.heap.size=g) (r:Int):(((W.setCell ⟨g+2,0,none⟩ v0).setCell ⟨g+2,1,none⟩ v1).setCell ⟨g+2,2,none⟩ v2).heap[g+2]?=some (.cells #[v0,v1,v2] 26 (0,0))/\uS w (r,ps,zs,n1,ss) (.returned (.tuple #[.agg #[v0,v1,v2],.int .i64 r])) (((W.setCell ⟨g+2,0,none⟩ v0).setCell ⟨g+2,1,none⟩ v1).setCell ⟨g+2,2,none⟩ v2):=by
 have hW:=hF.step h.bl;have h3:=ret3 hW.box.below hW.br (show g<g+2 by omega) v0 v1 v2;have:=gm hF.br.out;have:=h.hb;exact⟨h3.1,_,_,_,rfl,h.om.ZY qo qo _ _ _,by rw[hg];exact h3.2⟩
theorem TJ.aiN {w0 wn:World} (hb:Below w0.heap.size w0 wn) (hO:OM wn w0.heap.size v0 v1 v2 ps zs n1 ss):TJ wn.heap.size w0.heap.size w0 #[v0,v1,v2] v0 v1 v2 ps zs n1 ss (wn.alloc (.cells #[v0,v1,v2] 26)):=by
 have dA:=(Below.refl wn.heap.size wn).alloc (Nat.le_refl _) (.cells #[v0,v1,v2] 26);exact⟨hO.below dA,⟨iw _ _⟩,hb.trans (dA.mono hb.size),hb.size,Nat.le_refl _,Nat.le_trans hb.size dA.size⟩
end
theorem ao1 {p:Nat->Bool}:∀ {m j:Nat},lG p m=some j->j<m:=by
 intro m;induction m with
 | zero=>intro j h;cases h
 | succ m ih =>
  intro j h;unfold lG at h;split at h
  ·rename_i i hi
   have:=ih hi;injection h with h
   omega
  ·split at h
   ·injection h with h
    omega
   ·cases h
theorem adR {ss:SS} {a b:Int} (h:0<=pM ss a b):pM ss a b<ss.length:=by
 unfold pM oI at h ⊢;generalize hf:lG (lY ss a b) ss.length=f at h ⊢;cases f with
 | none=>simp at h
 | some j=>have:=ao1 hf;simp only;omega
end Go.Proofs.YtfcjnhkkfmgmpaaGreat
