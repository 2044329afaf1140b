import Derived.Test.YtcmepkhjggpmeaaGreatZuG6
import Derived.Deep.RegionHeld3
set_option linter.all false
set_option maxRecDepth 100000
set_option maxHeartbeats 8000000
namespace Go.Proofs.YtcmepkhjggpmeaaGreat
open Go.RowKit aP
theorem cell_far (w:World) (g j:Nat) (v:Value) (h o:Nat) (hne:¬ h=g):(w.setCell ⟨g,j,none⟩ v).cell? ⟨h,o,none⟩=w.cell? ⟨h,o,none⟩ :=
 World.cell?_of_block (w:=w) (Below.heap_setCell _ _ _ _ hne)
theorem ahn {w:World} {g:Nat} {l:List Int} (h:cO w g l) {o m:Nat} (ho:o+m<=l.length) (hm:m<=100000):RL w (some ⟨g,o,none⟩) (aP.part l o m):=by
 refine⟨by rw[Mn ho];omega,fun hn=>⟨_,rfl,fun j hj=>?_⟩⟩;rw[Mn ho]at hj
 rw[RY,if_pos hj];have:=h.cell (o+j) aC;unfold Addr.add;split
 ·rename_i h0;subst h0;exact this
 ·exact this
structure UH (D Q:Int) (g1 g2 g3 g4 i k1:Nat) (y2 L q:List Int) (w:World) (qt:Int) (Pr:List Int) (w1:World):Prop where
 BX:cO w1 g1 L
 zf:cO w1 g3 (q.set i qt)
 ack:cO w1 g4 Pr
 KS:RL w1 (some ⟨g2,0,none⟩) y2
 len:Pr.length=k1+1+1
 lim:aG Pr
 val:lv Pr=qt*D
 ge:Q<=qt
 bd:0<=qt/\qt<B
 below:Below w.heap.size w w1
theorem aho {h n t:Int} (hh:0<=h) (hn:0<=n/\n<B) (ht:0<t):0<=DO h n t/\DO h n t<B:=by
 unfold DO;split
 ·rw[B_eq];omega
 ·have h1:0<=h*B:=Int.mul_nonneg hh (by decide)
  refine⟨Int.ediv_nonneg aC aC,Int.ediv_lt_of_lt_mul ht ?_⟩;have h2:(h+1)*B<=t*B:=Int.mul_le_mul_of_nonneg_right aC (by decide);have h3:(h+1)*B=h*B+B:=by grind
  have h4:B*t=t*B:=Int.mul_comm _ _;omega
theorem alV {y:List Int} {k1:Nat} (hl:y.length=k1+1) (hy:aG y):lg y k1*B^k1<=lv y/\0<=lv y:=by
 have e:lv y=aK (lg y) k1+lg y k1*B^k1:=by unfold lv;rw[hl];rfl
 have b:=ig k1 hy;exact⟨by omega,(dw hy).1⟩
theorem afV {R0 D:Int} {k1 lq i:Nat} {L q:List Int} {top:Int} (h:uN R0 D (k1+1) lq (i+1) L q) (hD:top*B^k1<=D) (lI:0<top) :
  win L i (k1+1+1) / D<=DO (lg L (i+(k1+1))) (lg L (i+k1)) top:=by
 refine ahj (Bp k1) (low:=win L i k1) ?_ (jQ h.lim _ _) hD lI (h.lim _).1 (h.lim _).1 h.part.2;rw[ez,ez,Bs];grind
theorem afE {w:World} {A:Option Addr} {q:List Int} {n:Nat} (hn:q.length=n) (hr:RL w A q):pO w (.slice A (bl q n) (bl q n)) (q.take (bl q n)):=by
 subst hn;exact⟨A,_,by rw[fO],by rw[fO];exact Nat.le_refl _,hr.take _⟩
structure UI (R0 D:Int) (k lq g1 g2 g3:Nat) (y2:List Int) (w:World) (j:Nat) (L q:List Int) (w1:World):Prop where
 BX:cO w1 g1 L
 zf:cO w1 g3 q
 KS:RL w1 (some ⟨g2,0,none⟩) y2
 inv:uN R0 D k lq j L q
 below:Below w.heap.size w w1
theorem ahp (A0 A1:Option Addr) (n m c0 c1:Nat) (a b:List Int) (hn:a.length=n) (hm:b.length=m) (fW:n<=4000) (jL:m<=4000) (hc0:n<=c0) (hc1:m<=c1) (w:World) (ha:RL w A0 a) (hb:RL w A1 b) (hla:aG a) (hlb:aG b)
  (hle:lv b<=lv a) (h1:2<=bl b m) :
  Calls Tryz.prog 166 #[.slice A0 n c0,.slice A1 m c1] w (OB (lv a) (lv b) w):=by
 have hb0:Below w.heap.size w (w.alloc (.cells #[.slice A0 n c0,.slice A1 m c1] 141)):=(Below.refl _ _).alloc (Nat.le_refl _) _;have jy:=Lib.hid (ha.below hb0 (Nat.le_refl _));have bu:=Lib.hid (hb.below hb0 (Nat.le_refl _));have HN:=Lib.hid hn;have HM:=Lib.hid hm;have j7:=kI (hla.take (bl a a.length)) (hlb.take (bl b b.length)) (kA a) (kA b);rw[eo,eo,fO,fO,hn,hm]at j7
 have h2:decide (dN (lv a) (lv b)<0)=false:=by
  rcases sA (lv a) (lv b) with ⟨h,hc⟩|⟨h,hc⟩|⟨h,hc⟩ <;> rw[hc] <;> first|rfl|omega
 rw[<- j7]at h2
 have hpl:=fO a;have iz:=fO b;rw[hn]at hpl
 rw[hm]at iz
 have kM:lv (a.take (bl a n))=lv a:=by rw[<- hn];exact eo a
 have tV:lv (b.take (bl b m))=lv b:=by rw[<- hm];exact eo b
 have htb:Tr (b.take (bl b m)):=by rw[<- hm];exact kA b
 have Hy:=qb a n;have Ag:=qb b m;have Ae:bl b m<=bl a n:=by
  rw[<- hpl,<- iz];apply Nat.le_of_not_lt;intro hgt;have:=kH (hla.take (bl a n)) (hlb.take (bl b m)) htb hgt;rw[kM,tV]at this
  omega
 have oD:=hla.take (bl a n);have wF:=hlb.take (bl b m);have Cs:=Lib.hid (jy.out.take (bl a n));have VS:=bu.out.take (bl b m);generalize hx:a.take (bl a n)=x at *;generalize hy:b.take (bl b m)=y at *;generalize hp:bl a n=p at *;generalize hk:bl b m=k at *;have hz1:((k:Int)==0)=false:=beq_eq_false_iff_ne.mpr aC;have hz2:((k:Int)==1)=false:=beq_eq_false_iff_ne.mpr aC;obtain⟨k1,rfl⟩:∃ k1,k=k1+1:=⟨k-1,by omega⟩
 obtain⟨lq,rfl⟩:∃ lq,p=lq+k1:=⟨p-k1,by omega⟩
 have lI:0<lg y k1/\lg y k1<B:=by
  have:=wF k1;rcases htb with h|h
  ·omega
  ·rw[iz]at h
   exact⟨by have:lg y k1≠0:=h;omega,this.2⟩
 obtain⟨s,hs,Ei,hs1,hs2⟩:=RX (lg y k1) lI.1 lI.2;obtain⟨bd,rfl,hcb⟩:=VS.2 aC;have aAN:=hcb k1 aC;have KQ:=Lib.hid (UD (lg y k1) ⟨by omega,lI.2⟩);have HP:=Lib.hid hpl;have HQ:=Lib.hid iz;have HO:=Lib.hid h2;have Pf:=Lib.hid hp;have HTB:=Lib.hid hk;have HYR:=Lib.hid VS;have dP:=Lib.hid hs;have HS:=Lib.hid hb0;have HV:=Lib.hid (And.intro kM (And.intro tV (And.intro oD (And.intro wF (And.intro lI (And.intro hs1 hs2))))));clear ha hb hn hm hla hlb hpl iz hb0 j7 h2 kM tV htb oD wF hx hy hp hk lI hs hs1 hs2 VS hcb h1;go_enter Tryz.func166,Tryz.ntmps166;go_wp2_with fail
 refine(BM _ _ _ _ _ _ _ fW jL).mono ?_;rintro e w' ⟨rfl,rfl⟩;go_wp2_with fail
 refine(ku _ _ _ a HN.out hc0 _ jy.out).mono ?_;rintro e w5 ⟨rfl,⟨nd,rfl⟩⟩;go_wp2_with fail
 refine(ku _ _ _ b HM.out hc1 _ (bu.out.dI _)).mono ?_;rintro e w5 ⟨rfl,⟨rX,rfl⟩⟩;rw[Pf.out,HTB.out];go_wp2_with fail
 refine(Da _ _ _ _ _ _ x y HP.out HQ.out _ (Cs.out.dI _) (HYR.out.dI _)).mono ?_;rintro e w5 ⟨rfl,⟨Cm,rfl⟩⟩;have Cr:=HO.out;go_wp2_with fail
 refine(KQ.out _).mono ?_;rintro e w5 ⟨rfl,rfl⟩;rw[dP.out];clear Cr;go_wp2_with fail
 refine(XN _ (lq+k1) _ s x HP.out aC Ei _ (Cs.out.dI _) HV.out.2.2.1).mono ?_;rintro e w6 ⟨g1,L0,rfl,hg1,hk1,f_,acm,OC,OD⟩;go_wp2_with fail
 refine(XN _ (k1+1) _ s y HQ.out aC Ei _ ((HYR.out.dI _).below OD (Nat.le_refl _)) HV.out.2.2.2.1).mono ?_;rintro e w7 ⟨g2,L2,rfl,hg2,hk2,hl2,acn,OE,UJ⟩;go_wp2_with fail
 refine(ku _ _ _ L2 hl2 aC _ (hk2.RL aC)).mono ?_;rintro e w8 ⟨rfl,⟨KT,rfl⟩⟩;obtain⟨S,hS⟩:∃ S:Int,S=2^s:=⟨_,rfl⟩
 have cQ:0<S:=by rw[hS];exact Int.pow_pos (by decide)
 obtain⟨T,hT⟩:∃ T:Int,T=2^(64-s):=⟨_,rfl⟩
 have gL:S*T=B:=by
  rw[hS,hT,<- Int.pow_add,show s+(64-s)=64 by omega];rfl
 have Kb:S<=9223372036854775808:=by
  have:(2:Int)^s<=2^63:=by exact_mod_cast Nat.pow_le_pow_right (show 0<2 by omega) Ei
  rw[hS];exact this
 obtain⟨v1,v2,v3,v4,v5,v6,v7⟩:=HV.out;rw[<- hS]at OC OE v6 v7
 rw[v1]at OC
 rw[v2]at OE
 obtain⟨d1,d2⟩:=ahl HQ.out v4 cQ gL v6 v7;rw[v2]at d1 d2
 have htr:=kA L2;have hlt:=eo L2;have hle2:=fO L2;have hlb:=acn.take (bl L2 L2.length);rw[hl2]at htr hlt hle2 hlb
 rw[OE]at hlt
 have KU:=len_eq hlb htr (by rw[hlt];exact d1) (by rw[hlt];have:=Bp k1;omega);rw[hle2]at KU
 have lI:=ahi hlb (by rw[hle2];exact KU) (by rw[hlt];exact d2);have UK:=(hk2.RL aC).take (bl L2 (k1+1+1));rw[KU]at hlt hle2 hlb lI UK htr
 generalize hby:L2.take (k1+1)=y2 at *;have lS:Below w.heap.size w w7:=((gI HS.out _).trans (OD.mono (by simp))).trans (UJ.mono (by have:=OD.size;simp at this;omega));have aaI:=hk1.lt;have aco:=hk1.below UJ aaI;have aaJ:=hk2.lt;have acp:w.heap.size<g1:=by have:=hg1;simp at this;omega
 have Ct:=uN.start (R0:=S*lv a) (D:=S*lv b) (k:=k1+1) (lq:=lq) (L:=L0) (q:=List.replicate lq 0) (n:=lq+k1) (by rw[f_];omega) aC acm (by simp) (iI _) OC rfl (by
  have:=(dw v3).2;rw[HP.out,v1]at this;exact this) ⟨cQ,Kb⟩ aC (by rw[Nat.add_sub_cancel];exact d2)
 have hmk:=qX lq aC;rw[show(lq:Int)=(lq:Int)+(k1:Int)+1-((k1:Int)+1) by omega]at hmk
 rw[KU];have jw:=Lib.hid Ct;have HD:=Lib.hid (And.intro d1 (And.intro d2 (And.intro lI (And.intro hlb (And.intro hle2 (And.intro hlt (And.intro htr f_)))))));have HSS:=Lib.hid (And.intro hS (And.intro cQ (And.intro gL Kb)));have lp:=Lib.hid lS;have iA:=Lib.hid aco;have HBY:=Lib.hid UK;have kC:=Lib.hid f_;clear hS cQ hT gL Kb v1 v2 v3 v4 v5 v6 v7 OC OE d1 d2 htr hlt hle2 hlb KU lI UK hby lS hk1 aco hk2 f_ hl2 acm acn OD UJ Ct;go_wp2
 have Pg:Below w7.heap.size w7 ((w7.drewN KT).alloc (.cells (madeCells #[.int .u64 0] lq) 140)):=(gI (Below.refl _ _) KT).alloc (Nat.le_refl _) _;have hk3:=qY (w7.drewN KT) lq;have Cu:=lp.out.trans (Pg.mono lp.out.size);have acr:=iA.out.below Pg iA.out.lt;have acs:=HBY.out.below Pg (Nat.le_refl _);have acu:g1<w7.heap.size:=iA.out.lt;have acv:w.heap.size<w7.heap.size:=by omega
 generalize hw9:(w7.drewN KT).alloc (.cells (madeCells #[.int .u64 0] lq) 140)=w9 at *;rw[show(w7.drewN KT).heap.size=w7.heap.size from rfl]at hk3
 generalize hg3:w7.heap.size=g3 at *;clear hw9 Pg hmk;have oG:=Lib.hid (show UI (S*lv a) (S*lv b) (k1+1) lq g1 g2 g3 y2 w lq L0 (List.replicate lq 0) w9 from ⟨acr,hk3,acs,jw.out,Cu⟩);have acw:g1<g2:=by omega
 have HG:=Lib.hid (And.intro acp (And.intro acu (And.intro acv (And.intro acw aaJ))));clear acw acr hk3 acs Cu acp acu acv hg1 hg2 aaI aaJ hg3;go_loopw [14,15,16] (fun t _ _ w1=>∃ (j:Nat) (L q:List Int),j<=lq/\t = .int .i64 ((j:Int)-1)/\UI (S*lv a) (S*lv b) (k1+1) lq g1 g2 g3 y2 w j L q w1) (fun t _ _ _=>(intOf t+1).toNat)
 case atStart=>exact⟨lq,_,_,Nat.le_refl _,rfl,oG.out⟩
 case round =>
  obtain⟨j,L,q,hj,rfl,hW⟩:=hrel;cases j with
  | succ i =>
   have h1:decide (0<=((i+1:Nat):Int)-1)=true:=by simp
   have e1:((i+1:Nat):Int)-1=(i:Int):=by omega
   rw[e1]at h1 ⊢
   clear e1;have HW:=Lib.hid hW;have c1:=hW.BX.cell (i+(k1+1)) (by rw[hW.inv.len];omega);have c2:=hW.BX.cell (i+k1) (by rw[hW.inv.len];omega);have c3:=hW.KS.cell k1 (by rw[HD.out.2.2.2.2.1];omega);rw[Nat.zero_add]at c3
   have c4:=hW.zf.cell i (by rw[hW.inv.ze];omega);have c5:=hW.zf.free i;clear hW;have hg:=ah' (lg L (i+(k1+1))) (lg L (i+k1)) (lg y2 k1) (HW.out.inv.lim _).1 (HW.out.inv.lim _) (HD.out.2.2.2.1 k1).2;have HGU:=Lib.hid hg;clear hg;go_wp2
   rw[show i+(k1+1)+1-i=k1+1+1 by omega];have b1:(k1:Int)+1<(k1:Int)+1+1:=by omega
   have b2:(0:Int)<=(k1:Int)+1:=by omega
   have b3:IntKind.i64.wrap ((k1:Int)+1-1)=(k1:Int):=by rw[show(k1:Int)+1-1=(k1:Int) by omega];exact IntWalk.i64_in _ aC
   have b4:(k1:Int)<(k1:Int)+1+1:=by omega
   have b5:(k1:Int)<(k1:Int)+1:=by omega
   have b6:(0:Int)<=(k1:Int):=by omega
   have b7:IntKind.i64.wrap (k1:Int)=(k1:Int):=IntWalk.i64_in _ aC;have b8:(i:Int)<(lq:Int):=by omega
   have b9:(0:Int)<=(i:Int):=by omega
   have n1:¬ g1=g3:=by have:=HG.out;omega
   have n2:¬ g2=g3:=by have:=HG.out;omega
   go_region_held3 (fun w'=>w'.cell? ⟨g1,i+(k1+1),none⟩=some (.int .u64 (lg L (i+(k1+1))))/\w'.cell? ⟨g1,i+k1,none⟩=some (.int .u64 (lg L (i+k1)))/\w'.cell? ⟨g2,k1,none⟩=some (.int .u64 (lg y2 k1))) (first|go_keep|exact⟨(cell_far _ _ _ _ _ _ n1).trans c1,(cell_far _ _ _ _ _ _ n1).trans c2,(cell_far _ _ _ _ _ _ n2).trans c3⟩)
    (first|(go_at_call 179;refine(HGU.out _).mono ?_;rintro e w' ⟨rfl,⟨nd,rfl⟩⟩))
   obtain⟨qh,Ph⟩:∃ qh,DO (lg L (i+(k1+1))) (lg L (i+k1)) (lg y2 k1)=qh:=⟨_,rfl⟩
   rw[Ph];clear b1 b2 b3 b4 b5 b6 b7 b8 b9 c1 c2 c3 c4 c5;have dA:cO ((wr.drewN (1+nd)).setCell ⟨g3,i,none⟩ (.int .u64 qh)) g3 (q.set i qh):=(HW.out.zf.dI (1+nd)).set i qh;have Pj:bN g3 wr ((wr.drewN (1+nd)).setCell ⟨g3,i,none⟩ (.int .u64 qh)):=((bN.refl g3 wr).dI (1+nd)).set i _;have dX:=HW.out.BX.only Pj n1;have VT:=HW.out.KS.only Pj (fun _ ad e=>by cases e;exact n2);have hBl:=bN.below HW.out.below Pj (by have:=HG.out;omega);have hsz:g3<(((wr.drewN (1+nd)).setCell ⟨g3,i,none⟩ (.int .u64 qh))).heap.size:=dA.lt;generalize (wr.drewN (1+nd)).setCell ⟨g3,i,none⟩ (.int .u64 qh)=W1 at *;have acy:=qX (k1+1+1) aC;rw[show((k1+1+1:Nat):Int)=(k1:Int)+1+1 by omega]at acy
   have xL:Below W1.heap.size W1 (W1.alloc (.cells (madeCells #[.int .u64 0] (k1+1+1)) 140)):=(Below.refl _ _).alloc (Nat.le_refl _) _;have hk4:=qY W1 (k1+1+1);have UL:=dA.below xL dA.lt;have acz:=dX.below xL dX.lt;have acA:=VT.below xL (Nat.le_refl _);have aqe:g2<W1.heap.size:=VT.lt (by rw[HD.out.2.2.2.2.1];omega) _ rfl;have aqf:=dX.lt;have acB:=hBl.trans (xL.mono hBl.size);go_wp2
   generalize W1.alloc (.cells (madeCells #[.int .u64 0] (k1+1+1)) 140)=W2 at *;generalize hg4:W1.heap.size=g4 at *;clear acy xL dA dX VT hBl Pj;have xS:i<q.length:=by rw[HW.out.inv.ze];omega
   have c1:=UL.cell i (by rw[List.length_set];exact xS);rw[cK,if_pos ⟨rfl,xS⟩]at c1
   have Tt:=HD.out.2.2.2.2.1;have Tu:=HD.out.2.2.2.1;have VU:0<=qh/\qh<B:=by
    rw[<- Ph];exact aho (HW.out.inv.lim _).1 (HW.out.inv.lim _) (by have:=HD.out.2.2.1;omega)
   have n3:¬ g3=g4:=by omega
   have n4:¬ g2=g4:=by omega
   have n5:¬ g1=g4:=by omega
   have b1:(i:Int)<(lq:Int):=by omega
   have b2:(0:Int)<=(i:Int):=by omega
   have b3:(k1:Int)+1<(k1:Int)+1+1:=by omega
   have b4:(0:Int)<=(k1:Int)+1:=by omega
   have b5:(k1:Int)+1<=(k1:Int)+1+1:=by omega
   have aqg:=Lib.hid (fun (W:World) (c c':Nat) (hk:cO W g4 (List.replicate (k1+1+1) 0)) (hr:RL W (some ⟨g2,0,none⟩) y2)=>Xo g4 0 (k1+1) c (List.replicate (k1+1+1) 0) (some ⟨g2,0,none⟩) c' y2 qh Tt W hk (iI _) (by simp) hr Tu (fun _ ad e=>by cases e;exact n4) VU);have H4:=Lib.hid hk4;have HG4:=Lib.hid hsz;have HY4:=Lib.hid acA;have aqh:=Lib.hid UL;have aqi:=Lib.hid acz;have qI:=Lib.hid acB;have HQB:=Lib.hid VU;have Cv:=Lib.hid (And.intro Tt Tu);clear hk4 acA UL acz acB VU Tt Tu hsz xS aqe aqf
   go_region_held3 (fun w'=>w'.cell? ⟨g3,i,none⟩=some (.int .u64 qh)) (first|go_keep|exact(World.cell?_of_block (wg.block _ n3)).trans c1|exact(cell_far _ _ _ _ _ _ n3).trans ((World.cell?_of_block (wg.block _ n3)).trans c1))
    (first|(go_at_call 165;refine(aqg.out _ _ _ (by exact H4.out) (by exact HY4.out)).mono ?_;rintro e w' ⟨Pr,c,rfl,hkp,NU,aaK,amL,Pk,aaL,wg⟩;have aqj:=hkp.cell (k1+1) (by rw[NU];simp);have aqk:=hkp.free (k1+1)))
   obtain⟨Q,hQ⟩:∃ Q,win L i (k1+1+1) / (S*lv b)=Q:=⟨_,rfl⟩
   have nj:Q<=qh:=by
    rw[<- hQ,<- Ph];exact afV HW.out.inv (k1:=k1) (by rw[<- HD.out.2.2.2.2.2.1];exact(alV Cv.out.1 Cv.out.2).1) (by have:=HD.out.2.2.1;omega)
   have KV:bN g4 W2 (w'.setCell ⟨g4,k1+1,none⟩ (.int .u64 c)):=⟨(wg.set (k1+1) (.int .u64 c)).os,(wg.set (k1+1) (.int .u64 c)).tape,(wg.set (k1+1) (.int .u64 c)).output,(wg.set (k1+1) (.int .u64 c)).size,(wg.set (k1+1) (.int .u64 c)).block⟩
   have acC:Below w.heap.size w (w'.setCell ⟨g4,k1+1,none⟩ (.int .u64 c)):=bN.below (g:=g4) qI.out KV (by have h1:=HG.out;have h2:=HG4.out;omega)
   have HD0:=Lib.hid (show UH (S*lv b) Q g1 g2 g3 g4 i k1 y2 L q w qh (Pr.set (k1+1) c) (w'.setCell ⟨g4,k1+1,none⟩ (.int .u64 c)) from
    ⟨aqi.out.only KV n5,aqh.out.only KV n3,hkp.set _ _,HY4.out.only KV (fun _ ad e=>by cases e;exact n4),by rw[List.length_set,NU];simp,aaK.set _ Pk,
     (ahm (by rw[NU];simp) Cv.out.1 aaL).trans (by rw[HD.out.2.2.2.2.2.1]),nj,HQB.out,acC⟩)
   generalize w'.setCell ⟨g4,k1+1,none⟩ (.int .u64 c)=W3 at *;clear acC KV wg hkp NU aaK amL Pk aaL aqj aqk c1 b1 b2 b3 b4 b5 Ph;go_wp2
   have Pm:Hid (0<S*lv b):=Lib.hid (by have h1:=HD.out.2.1;have h2:=Bp k1;omega);have VV:=Lib.hid hQ;have Cw:=Lib.hid (Mn (l:=L) (o:=i) (m:=k1+1+1) (by rw[HW.out.inv.len];omega));have HPV:=Lib.hid (aic (l:=L) (o:=i) (m:=k1+1+1) (by rw[HW.out.inv.len];omega));have HPM:=Lib.hid (HW.out.inv.lim.part i (k1+1+1));have HIQ:=Lib.hid (show i<q.length by rw[HW.out.inv.ze];omega);clear hQ nj n1 n2;go_loopg [] (qh.toNat) (fun gk w1=>∃ (qt:Int) (Pr:List Int),Hid (gk=qt.toNat)/\UH (S*lv b) Q g1 g2 g3 g4 i k1 y2 L q w qt Pr w1)
   case atStart=>exact⟨qh,_,rfl,HD0.out⟩
   case round =>
    obtain⟨qt,Pr,nW,hd⟩:=hrel;have pE:=Lib.hid hd;have Pn:=Lib.hid (ahn hd.BX (o:=i) (m:=k1+1+1) (by rw[HW.out.inv.len];omega) aC);have JN:=Lib.hid (hd.ack.RL (by rw[hd.len];omega));have j7:=kI (HPM.out.take (bl (aP.part L i (k1+1+1)) (aP.part L i (k1+1+1)).length)) (hd.lim.take (bl Pr Pr.length)) (kA _) (kA _);rw[eo,eo,fO,fO,Cw.out,HPV.out,hd.len,hd.val]at j7
    have ht1:=fO (aP.part L i (k1+1+1));have ht2:=fO Pr;rw[Cw.out]at ht1
    rw[hd.len]at ht2
    have HO:=Lib.hid j7;have H9:=Lib.hid ht1;have wI:=Lib.hid ht2;have HL:=Lib.hid hd.len;by_cases hlt:win L i (k1+1+1)<qt*(S*lv b)
    ·have hcm:=xm hlt
     rw[hcm]at j7
     have HO':=Lib.hid j7;have Ae:0<qt:=by
      have KP:=hd.bd.1;by_cases h0:qt=0
      ·rw[h0,Int.zero_mul]at hlt
       have:=(jQ HW.out.inv.lim i (k1+1+1)).1;omega
      ·omega
     have acD:Q<=qt-1:=by
      have:Q<qt:=by rw[<- VV.out];exact Int.ediv_lt_of_lt_mul Pm.out hlt
      omega
     have hce:=hd.zf.cell i (by rw[List.length_set];exact HIQ.out);rw[cK,if_pos ⟨rfl,HIQ.out⟩]at hce
     have hfr:=hd.zf.free i;have hwq:=bR (qt-1) ⟨by omega,by have:=hd.bd.2;omega⟩;have H_:=Lib.hid (And.intro Ae acD);clear j7 ht1 ht2 hd hlt hcm Ae acD HO;go_wp2_with fail
     refine(ku _ _ _ _ Cw.out aC _ Pn.out).mono ?_;rintro e w' ⟨rfl,⟨m1,rfl⟩⟩;go_wp2_with fail
     refine(ku _ _ _ Pr HL.out aC _ (JN.out.dI _)).mono ?_;rintro e w' ⟨rfl,⟨m2,rfl⟩⟩;go_wp2_with fail
     refine(Da _ _ _ _ _ _ _ _ H9.out wI.out _ ((Pn.out.take _).dI _) ((JN.out.take _).dI _)).mono ?_;rintro e w' ⟨rfl,⟨m3,rfl⟩⟩;rw[HO'.out];go_wp2_with fail
     have KW:bN g3 wr ((wr.drewN (m1+m2+m3)).setCell ⟨g3,i,none⟩ (.int .u64 (qt-1))):=((bN.refl g3 wr).dI _).set i _;have cL:cO ((wr.drewN (m1+m2+m3)).setCell ⟨g3,i,none⟩ (.int .u64 (qt-1))) g3 (q.set i (qt-1)):=by
      have:=(pE.out.zf.dI (m1+m2+m3)).set i (qt-1);rw[List.set_set]at this
      exact this
     have KX:=pE.out.KS.only KW (fun _ ad e=>by cases e;exact(show g2≠g3 by have:=HG.out;omega));refine(SK g4 0 (k1+1+1) _ Pr (some ⟨g2,0,none⟩) (k1+1) _ y2 Cv.out.1 _ (pE.out.ack.only KW aC) pE.out.lim (by rw[HL.out];omega) aC KX Cv.out.2 (fun _ ad e=>by cases e;exact n4)).mono ?_;rintro e w' ⟨P2,bb,rfl,Cn,vZ,v_,_,JO,JP,uA⟩;have hD1:S*lv b<=qt*(S*lv b):=by
      have:1*(S*lv b)<=qt*(S*lv b):=Int.mul_le_mul_of_nonneg_right (by have:=H_.out.1;omega) (Int.le_of_lt Pm.out);omega
     have sS:=mU (n:=k1+1+1) (vZ.trans HL.out) v_ pE.out.lim HL.out Cv.out.2 (by rw[Cv.out.1];omega) JO (by rw[pE.out.val,HD.out.2.2.2.2.2.1];exact hD1) (by rw[Cv.out.1];exact JP);rw[pE.out.val,HD.out.2.2.2.2.2.1]at sS
     have acE:Below w.heap.size w w':=bN.below (g:=g4) (bN.below (g:=g3) pE.out.below KW (by have h1:=HG.out;omega)) uA (by have h1:=HG.out;have h2:=HG4.out;omega)
     have pQ:=Lib.hid (show UH (S*lv b) Q g1 g2 g3 g4 i k1 y2 L q w (qt-1) P2 w' from
      ⟨(pE.out.BX.only KW (by have h1:=HG.out;omega)).only uA n5,cL.only uA n3,Cn,KX.only uA (fun _ ad e=>by cases e;exact n4),vZ.trans HL.out,v_,
       by rw[sS,Int.sub_mul,Int.one_mul],H_.out.2,⟨by have:=H_.out.1;omega,by have:=pE.out.bd.2;omega⟩,acE⟩)
     clear KW cL KX Cn vZ v_ JO JP uA hD1 sS acE;go_wp2
     go_roundg (qt-1).toNat
     case measure=>rw[nW.out];have:=H_.out.1;omega
     case rel=>exact⟨qt-1,P2,rfl,pQ.out⟩
    ·have hge:decide (dN (win L i (k1+1+1)) (qt*(S*lv b))<0)=false:=by
      rcases sA (win L i (k1+1+1)) (qt*(S*lv b)) with ⟨h,hc⟩|⟨h,hc⟩|⟨h,hc⟩ <;> rw[hc] <;> first|rfl|omega
     rw[<- j7]at hge
     have hQe:qt=Q:=by
      have h1:qt<=Q:=by rw[<- VV.out];exact Int.le_ediv_of_mul_le Pm.out aC
      have:=hd.ge;omega
     have wJ:=Lib.hid (And.intro hQe (show qt*(S*lv b)<=win L i (k1+1+1) by omega));clear j7 ht1 ht2 hd hlt hQe;go_wp2_with fail
     refine(ku _ _ _ _ Cw.out aC _ Pn.out).mono ?_;rintro e w' ⟨rfl,⟨m1,rfl⟩⟩;go_wp2_with fail
     refine(ku _ _ _ Pr HL.out aC _ (JN.out.dI _)).mono ?_;rintro e w' ⟨rfl,⟨m2,rfl⟩⟩;go_wp2_with fail
     refine(Da _ _ _ _ _ _ _ _ H9.out wI.out _ ((Pn.out.take _).dI _) ((JN.out.take _).dI _)).mono ?_;rintro e w' ⟨rfl,⟨m3,rfl⟩⟩;go_wp2_with fail
     refine(SK g1 i (k1+1+1) _ L (some ⟨g4,0,none⟩) (k1+1+1) _ Pr HL.out _ (pE.out.BX.dI _) HW.out.inv.lim (by rw[HW.out.inv.len];omega) aC (JN.out.dI _) pE.out.lim (fun _ ad e=>by cases e;exact(show g4≠g1 by omega))).mono ?_;rintro e w' ⟨L9,bb,rfl,Cn,vZ,v_,aaM,JO,JP,uA⟩;have sS:=ahk v_ HL.out JO (by rw[pE.out.val];exact wJ.out.2) JP;rw[pE.out.val]at sS
     have EJ:=Pm.out;have hup:win L9 i (k1+1+1)<S*lv b:=by
      have h1:=Int.mul_ediv_add_emod (win L i (k1+1+1)) (S*lv b);have h2:=Int.emod_lt_of_pos (win L i (k1+1+1)) EJ;rw[VV.out,<- wJ.out.1,Int.mul_comm]at h1
      omega
     have hst:=HW.out.inv.step (L':=L9) (Q:=qt) HD.out.1 hj pE.out.bd vZ v_ aaM sS hup;have Po:bN g1 wr w':=⟨uA.os,uA.tape,uA.output,uA.size,uA.block⟩
     have HN9:=Lib.hid (show UI (S*lv a) (S*lv b) (k1+1) lq g1 g2 g3 y2 w i L9 (q.set i qt) w' from
      ⟨Cn,pE.out.zf.only Po (show g3≠g1 by have:=HG.out;omega),pE.out.KS.only Po (fun _ ad e=>by cases e;exact(show g2≠g1 by have:=HG.out;omega)),hst,bN.below (g:=g1) pE.out.below Po (by have h1:=HG.out;omega)⟩)
     clear Cn vZ v_ aaM JO JP uA sS EJ hup hst Po;go_wp2
     exact⟨⟨i,_,_,by omega,by go_num,HN9.out⟩,by simp[intOf]⟩
  | zero =>
   have h1:decide (0<=((0:Nat):Int)-1)=false:=by simp
   have EJ:0<S*lv b:=by have h1:=HD.out.2.1;have h2:=Bp k1;omega
   obtain⟨f1,f2⟩:=hW.inv.done EJ;obtain⟨hS,cQ,gL,Kb⟩:=HSS.out;rw[Int.mul_ediv_mul_of_pos _ _ cQ]at f1
   rw[Int.mul_emod_mul_of_pos _ _ cQ,Int.mul_comm,hS]at f2
   have HF:=Lib.hid f1;have jA:=Lib.hid f2;have HW:=Lib.hid hW;have hq:=Lib.hid (hW.zf.RL (by rw[hW.inv.ze];omega));have hr:=Lib.hid (hW.BX.RL (by rw[hW.inv.len];omega));have H_:=Lib.hid hW.inv.ze;have Pp:=Lib.hid (show L.length=lq+k1+1 by rw[hW.inv.len];omega);clear EJ f1 f2 hS cQ gL Kb hW;go_wp2_with fail
   refine(ku _ lq _ q H_.out (Nat.le_refl _) _ hq.out).mono ?_;rintro e w' ⟨rfl,⟨m1,rfl⟩⟩;go_wp2_with fail
   refine(afT _ (lq+k1+1) _ s L (lv a%lv b) Pp.out aC Ei _ (hr.out.dI _) HW.out.inv.lim jA.out).mono ?_;rintro e w' ⟨u,r,rfl,hr1,hr2,hr3,hr4,fB⟩;go_wp2
   go_ret3
   have iz:=HW.out.inv.ze;have t1:=fO q;have t2:=eo q;have t3:=kA q;rw[iz]at t1 t2 t3
   exact⟨_,u,q.take (bl q lq),r,rfl,afE iz ((hq.out.dI _).below fB (Nat.le_refl _)),hr1,HW.out.inv.acj.take _,t3,hr2,hr3,by rw[t2];exact HF.out,hr4,
    (gI HW.out.below _).trans (fB.mono (by have:=HW.out.below.size;simpa using this))⟩
theorem aaN (A0 A1:Option Addr) (n m c0 c1:Nat) (a b:List Int) (hn:a.length=n) (hm:b.length=m) (fW:n<=4000) (jL:m<=4000) (hc0:n<=c0) (hc1:m<=c1) (w:World) (ha:RL w A0 a) (hb:RL w A1 b) (hla:aG a) (hlb:aG b) (h0:lv b≠0) :
  Calls Tryz.prog 166 #[.slice A0 n c0,.slice A1 m c1] w (OB (lv a) (lv b) w):=by
 by_cases hlt:lv a<lv b
 ·exact Ry A0 A1 n m c0 c1 a b hn hm fW jL hc0 hc1 w ha hb hla hlb hlt
 ·have h1:bl b m≠0:=by
   intro h;apply h0;rw[<- eo b,hm,h];exact mX
  by_cases h2:bl b m=1
  ·exact div_one A0 A1 n m c0 c1 a b hn hm fW jL hc0 hc1 w ha hb hla hlb aC h2
  ·exact ahp A0 A1 n m c0 c1 a b hn hm fW jL hc0 hc1 w ha hb hla hlb aC aC
end Go.Proofs.YtcmepkhjggpmeaaGreat
