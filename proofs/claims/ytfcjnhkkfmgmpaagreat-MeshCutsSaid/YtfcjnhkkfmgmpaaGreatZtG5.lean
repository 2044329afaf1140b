import Derived.Test.YtfcjnhkkfmgmpaaGreatZtG4
import Derived.Deep.RegionHeld3
set_option linter.all false
set_option maxRecDepth 100000
set_option maxHeartbeats 8000000
namespace Go.Proofs.YtfcjnhkkfmgmpaaGreat
open Go.RowKit aS
theorem cell_far (w:World) (g j:Nat) (v:Value) (h o:Nat) (hne:¬ h=g):(w.setCell ⟨g,j,none⟩ v).cell? ⟨h,o,none⟩=w.cell? ⟨h,o,none⟩ :=
 World.cell?_of_block (w:=w) (Below.heap_setCell _ _ _ _ hne)
theorem akL {w:World} {g:Nat} {l:List Int} (h:cV w g l) {o m:Nat} (ho:o+m<=l.length) (hm:m<=100000):RL w (some ⟨g,o,none⟩) (aS.part l o m):=by
 refine⟨by rw[OD ho];omega,fun hn=>⟨_,rfl,fun j hj=>?_⟩⟩;rw[OD ho]at hj
 rw[Va,if_pos hj];have:=h.cell (o+j) aD;unfold Addr.add;split
 ·rename_i h0;subst h0;exact this
 ·exact this
structure XE (D Q:Int) (g1 g2 g3 g4 i k1:Nat) (y2 L q:List Int) (w:World) (qt:Int) (Pr:List Int) (w1:World):Prop where
 Dc:cV w1 g1 L
 Ba:cV w1 g3 (q.set i qt)
 af6:cV w1 g4 Pr
 Nh:RL w1 (some ⟨g2,0,none⟩) y2
 len:Pr.length=k1+1+1
 bL:aH Pr
 val:lv Pr=qt*D
 ge:Q<=qt
 bd:0<=qt/\qt<B
 below:Below w.heap.size w w1
theorem akM {h n t:Int} (hh:0<=h) (hn:0<=n/\n<B) (ht:0<t):0<=Fu h n t/\Fu h n t<B:=by
 unfold Fu;split
 ·rw[B_eq];omega
 ·have h1:0<=h*B:=Int.mul_nonneg hh (by decide)
  refine⟨Int.ediv_nonneg aD aD,Int.ediv_lt_of_lt_mul ht ?_⟩;have h2:(h+1)*B<=t*B:=Int.mul_le_mul_of_nonneg_right aD (by decide);have h3:(h+1)*B=h*B+B:=by grind
  have h4:B*t=t*B:=Int.mul_comm _ _;omega
theorem ao_ {y:List Int} {k1:Nat} (hl:y.length=k1+1) (hy:aH y):lg y k1*B^k1<=lv y/\0<=lv y:=by
 have e:lv y=aQ (lg y) k1+lg y k1*B^k1:=by unfold lv;rw[hl];rfl
 have b:=iX k1 hy;exact⟨by omega,(dF hy).1⟩
theorem ajB {R0 D:Int} {k1 lq i:Nat} {L q:List Int} {top:Int} (h:wB R0 D (k1+1) lq (i+1) L q) (hD:top*B^k1<=D) (mH:0<top) :
  win L i (k1+1+1) / D<=Fu (lg L (i+(k1+1))) (lg L (i+k1)) top:=by
 refine akH (Bp k1) (low:=win L i k1) ?_ (kL h.bL _ _) hD mH (h.bL _).1 (h.bL _).1 h.part.2;rw[eO,eO,Bs];grind
theorem ajj {w:World} {A:Option Addr} {q:List Int} {n:Nat} (hn:q.length=n) (hr:RL w A q):qz w (.slice A (bG q n) (bG q n)) (q.take (bG q n)):=by
 subst hn;exact⟨A,_,by rw[gK],by rw[gK];exact Nat.le_refl _,hr.take _⟩
structure XF (R0 D:Int) (k lq g1 g2 g3:Nat) (y2:List Int) (w:World) (j:Nat) (L q:List Int) (w1:World):Prop where
 Dc:cV w1 g1 L
 Ba:cV w1 g3 q
 Nh:RL w1 (some ⟨g2,0,none⟩) y2
 inv:wB R0 D k lq j L q
 below:Below w.heap.size w w1
theorem akN (A0 A1:Option Addr) (n m c0 c1:Nat) (a b:List Int) (hn:a.length=n) (hm:b.length=m) (gP:n<=4000) (kE:m<=4000) (hc0:n<=c0) (hc1:m<=c1) (w:World) (ha:RL w A0 a) (hb:RL w A1 b) (hla:aH a) (hlb:aH b)
  (hle:lv b<=lv a) (h1:2<=bG b m) :
  Calls Tryz.prog 118 #[.slice A0 n c0,.slice A1 m c1] w (Rq (lv a) (lv b) w):=by
 have hb0:Below w.heap.size w (w.alloc (.cells #[.slice A0 n c0,.slice A1 m c1] 124)):=(Below.refl _ _).alloc (Nat.le_refl _) _;have lH:=Lib.hid (ha.below hb0 (Nat.le_refl _));have bI:=Lib.hid (hb.below hb0 (Nat.le_refl _));have HN:=Lib.hid hn;have HM:=Lib.hid hm;have k7:=lN (hla.take (bG a a.length)) (hlb.take (bG b b.length)) (lF a) (lF b);rw[eH,eH,gK,gK,hn,hm]at k7
 have h2:decide (dY (lv a) (lv b)<0)=false:=by
  rcases tP (lv a) (lv b) with ⟨h,hc⟩|⟨h,hc⟩|⟨h,hc⟩ <;> rw[hc] <;> first|rfl|omega
 rw[<- k7]at h2
 have hpl:=gK a;have ju:=gK b;rw[hn]at hpl
 rw[hm]at ju
 have lU:lv (a.take (bG a n))=lv a:=by rw[<- hn];exact eH a
 have qG:lv (b.take (bG b m))=lv b:=by rw[<- hm];exact eH b
 have htb:Tr (b.take (bG b m)):=by rw[<- hm];exact lF b
 have J1:=qU a n;have BB:=qU b m;have Bz:bG b m<=bG a n:=by
  rw[<- hpl,<- ju];apply Nat.le_of_not_lt;intro hgt;have:=lM (hla.take (bG a n)) (hlb.take (bG b m)) htb hgt;rw[lU,qG]at this
  omega
 have pz:=hla.take (bG a n);have xQ:=hlb.take (bG b m);have DN:=Lib.hid (lH.out.take (bG a n));have Y7:=bI.out.take (bG b m);generalize hx:a.take (bG a n)=x at *;generalize hy:b.take (bG b m)=y at *;generalize hp:bG a n=p at *;generalize hk:bG b m=k at *;have hz1:((k:Int)==0)=false:=beq_eq_false_iff_ne.mpr aD;have hz2:((k:Int)==1)=false:=beq_eq_false_iff_ne.mpr aD;obtain⟨k1,rfl⟩:∃ k1,k=k1+1:=⟨k-1,by omega⟩
 obtain⟨lq,rfl⟩:∃ lq,p=lq+k1:=⟨p-k1,by omega⟩
 have mH:0<lg y k1/\lg y k1<B:=by
  have:=xQ k1;rcases htb with h|h
  ·omega
  ·rw[ju]at h
   exact⟨by have:lg y k1≠0:=h;omega,this.2⟩
 obtain⟨s,hs,F4,hs1,hs2⟩:=U' (lg y k1) mH.1 mH.2;obtain⟨bd,rfl,hcb⟩:=Y7.2 aD;have aB0:=hcb k1 aD;have Nf:=Lib.hid (XA (lg y k1) ⟨by omega,mH.2⟩);have HP:=Lib.hid hpl;have HQ:=Lib.hid ju;have HO:=Lib.hid h2;have Sc:=Lib.hid hp;have HTB:=Lib.hid hk;have HYR:=Lib.hid Y7;have ew:=Lib.hid hs;have HS:=Lib.hid hb0;have HV:=Lib.hid (And.intro lU (And.intro qG (And.intro pz (And.intro xQ (And.intro mH (And.intro hs1 hs2))))));clear ha hb hn hm hla hlb hpl ju hb0 k7 h2 lU qG htb pz xQ hx hy hp hk mH hs hs1 hs2 Y7 hcb h1;go_enter Tryz.func118,Tryz.ntmps118;go_wp2_with fail
 refine(CX _ _ _ _ _ _ _ gP kE).mono ?_;rintro e w' ⟨rfl,rfl⟩;go_wp2_with fail
 refine(lD _ _ _ a HN.out hc0 _ lH.out).mono ?_;rintro e w5 ⟨rfl,⟨nd,rfl⟩⟩;go_wp2_with fail
 refine(lD _ _ _ b HM.out hc1 _ (bI.out.dP _)).mono ?_;rintro e w5 ⟨rfl,⟨tA,rfl⟩⟩;rw[Sc.out,HTB.out];go_wp2_with fail
 refine(Ez _ _ _ _ _ _ x y HP.out HQ.out _ (DN.out.dP _) (HYR.out.dP _)).mono ?_;rintro e w5 ⟨rfl,⟨DG,rfl⟩⟩;have DM:=HO.out;go_wp2_with fail
 refine(Nf.out _).mono ?_;rintro e w5 ⟨rfl,rfl⟩;rw[ew.out];clear DM;go_wp2_with fail
 refine(aaI _ (lq+k1) _ s x HP.out aD F4 _ (DN.out.dP _) HV.out.2.2.1).mono ?_;rintro e w6 ⟨g1,L0,rfl,jE,hk1,fJ,af7,Rs,Rt⟩;go_wp2_with fail
 refine(aaI _ (k1+1) _ s y HQ.out aD F4 _ ((HYR.out.dP _).below Rt (Nat.le_refl _)) HV.out.2.2.2.1).mono ?_;rintro e w7 ⟨g2,L2,rfl,hg2,hk2,hl2,af8,Ru,XG⟩;go_wp2_with fail
 refine(lD _ _ _ L2 hl2 aD _ (hk2.RL aD)).mono ?_;rintro e w8 ⟨rfl,⟨Nk,rfl⟩⟩;obtain⟨S,hS⟩:∃ S:Int,S=2^s:=⟨_,rfl⟩
 have dI:0<S:=by rw[hS];exact Int.pow_pos (by decide)
 obtain⟨T,hT⟩:∃ T:Int,T=2^(64-s):=⟨_,rfl⟩
 have iF:S*T=B:=by
  rw[hS,hT,<- Int.pow_add,show s+(64-s)=64 by omega];rfl
 have Mr:S<=9223372036854775808:=by
  have:(2:Int)^s<=2^63:=by exact_mod_cast Nat.pow_le_pow_right (show 0<2 by omega) F4
  rw[hS];exact this
 obtain⟨v1,v2,v3,v4,v5,v6,v7⟩:=HV.out;rw[<- hS]at Rs Ru v6 v7
 rw[v1]at Rs
 rw[v2]at Ru
 obtain⟨d1,d2⟩:=akJ HQ.out v4 dI iF v6 v7;rw[v2]at d1 d2
 have dD:=lF L2;have hlt:=eH L2;have JM:=gK L2;have hlb:=af8.take (bG L2 L2.length);rw[hl2]at dD hlt JM hlb
 rw[Ru]at hlt
 have Nl:=len_eq hlb dD (by rw[hlt];exact d1) (by rw[hlt];have:=Bp k1;omega);rw[JM]at Nl
 have mH:=akG hlb (by rw[JM];exact Nl) (by rw[hlt];exact d2);have XH:=(hk2.RL aD).take (bG L2 (k1+1+1));rw[Nl]at hlt JM hlb mH XH dD
 generalize hby:L2.take (k1+1)=y2 at *;have mM:Below w.heap.size w w7:=((iy HS.out _).trans (Rt.mono (by simp))).trans (XG.mono (by have:=Rt.size;simp at this;omega));have ad3:=hk1.lt;have af9:=hk1.below XG ad3;have ad4:=hk2.lt;have af_:w.heap.size<g1:=by have:=jE;simp at this;omega
 have DO:=wB.start (R0:=S*lv a) (D:=S*lv b) (k:=k1+1) (lq:=lq) (L:=L0) (q:=List.replicate lq 0) (n:=lq+k1) (by rw[fJ];omega) aD af7 (by simp) (jd _) Rs rfl (by
  have:=(dF v3).2;rw[HP.out,v1]at this;exact this) ⟨dI,Mr⟩ aD (by rw[Nat.add_sub_cancel];exact d2)
 have hmk:=r_ lq aD;rw[show(lq:Int)=(lq:Int)+(k1:Int)+1-((k1:Int)+1) by omega]at hmk
 rw[Nl];have j5:=Lib.hid DO;have HD:=Lib.hid (And.intro d1 (And.intro d2 (And.intro mH (And.intro hlb (And.intro JM (And.intro hlt (And.intro dD fJ)))))));have HSS:=Lib.hid (And.intro hS (And.intro dI (And.intro iF Mr)));have kS:=Lib.hid mM;have fL:=Lib.hid af9;have HBY:=Lib.hid XH;have lI:=Lib.hid fJ;clear hS dI hT iF Mr v1 v2 v3 v4 v5 v6 v7 Rs Ru d1 d2 dD hlt JM hlb Nl mH XH hby mM hk1 af9 hk2 fJ hl2 af7 af8 Rt XG DO;go_wp2
 have Sd:Below w7.heap.size w7 ((w7.drewN Nk).alloc (.cells (madeCells #[.int .u64 0] lq) 122)):=(iy (Below.refl _ _) Nk).alloc (Nat.le_refl _) _;have hk3:=sj (w7.drewN Nk) lq;have DR:=kS.out.trans (Sd.mono kS.out.size);have af':=fL.out.below Sd fL.out.lt;have aga:=HBY.out.below Sd (Nat.le_refl _);have agb:g1<w7.heap.size:=fL.out.lt;have agc:w.heap.size<w7.heap.size:=by omega
 generalize hw9:(w7.drewN Nk).alloc (.cells (madeCells #[.int .u64 0] lq) 122)=w9 at *;rw[show(w7.drewN Nk).heap.size=w7.heap.size from rfl]at hk3
 generalize hg3:w7.heap.size=g3 at *;clear hw9 Sd hmk;have n_:=Lib.hid (show XF (S*lv a) (S*lv b) (k1+1) lq g1 g2 g3 y2 w lq L0 (List.replicate lq 0) w9 from ⟨af',hk3,aga,j5.out,DR⟩);have agd:g1<g2:=by omega
 have HG:=Lib.hid (And.intro af_ (And.intro agb (And.intro agc (And.intro agd ad4))));clear agd af' hk3 aga DR af_ agb agc jE hg2 ad3 ad4 hg3;go_loopw [14,15,16] (fun t _ _ w1=>∃ (j:Nat) (L q:List Int),j<=lq/\t = .int .i64 ((j:Int)-1)/\XF (S*lv a) (S*lv b) (k1+1) lq g1 g2 g3 y2 w j L q w1) (fun t _ _ _=>(intOf t+1).toNat)
 case atStart=>exact⟨lq,_,_,Nat.le_refl _,rfl,n_.out⟩
 case round =>
  obtain⟨j,L,q,hj,rfl,hW⟩:=hrel;cases j with
  | succ i =>
   have h1:decide (0<=((i+1:Nat):Int)-1)=true:=by simp
   have e1:((i+1:Nat):Int)-1=(i:Int):=by omega
   rw[e1]at h1 ⊢
   clear e1;have HW:=Lib.hid hW;have c1:=hW.Dc.cell (i+(k1+1)) (by rw[hW.inv.len];omega);have c2:=hW.Dc.cell (i+k1) (by rw[hW.inv.len];omega);have c3:=hW.Nh.cell k1 (by rw[HD.out.2.2.2.2.1];omega);rw[Nat.zero_add]at c3
   have c4:=hW.Ba.cell i (by rw[hW.inv.A_];omega);have c5:=hW.Ba.free i;clear hW;have hg:=alq (lg L (i+(k1+1))) (lg L (i+k1)) (lg y2 k1) (HW.out.inv.bL _).1 (HW.out.inv.bL _) (HD.out.2.2.2.1 k1).2;have HGU:=Lib.hid hg;clear hg;go_wp2
   rw[show i+(k1+1)+1-i=k1+1+1 by omega];have b1:(k1:Int)+1<(k1:Int)+1+1:=by omega
   have b2:(0:Int)<=(k1:Int)+1:=by omega
   have b3:IntKind.i64.wrap ((k1:Int)+1-1)=(k1:Int):=by rw[show(k1:Int)+1-1=(k1:Int) by omega];exact IntWalk.i64_in _ aD
   have b4:(k1:Int)<(k1:Int)+1+1:=by omega
   have b5:(k1:Int)<(k1:Int)+1:=by omega
   have b6:(0:Int)<=(k1:Int):=by omega
   have b7:IntKind.i64.wrap (k1:Int)=(k1:Int):=IntWalk.i64_in _ aD;have b8:(i:Int)<(lq:Int):=by omega
   have b9:(0:Int)<=(i:Int):=by omega
   have n1:¬ g1=g3:=by have:=HG.out;omega
   have n2:¬ g2=g3:=by have:=HG.out;omega
   go_region_held3 (fun w'=>w'.cell? ⟨g1,i+(k1+1),none⟩=some (.int .u64 (lg L (i+(k1+1))))/\w'.cell? ⟨g1,i+k1,none⟩=some (.int .u64 (lg L (i+k1)))/\w'.cell? ⟨g2,k1,none⟩=some (.int .u64 (lg y2 k1))) (first|go_keep|exact⟨(cell_far _ _ _ _ _ _ n1).trans c1,(cell_far _ _ _ _ _ _ n1).trans c2,(cell_far _ _ _ _ _ _ n2).trans c3⟩)
    (first|(go_at_call 131;refine(HGU.out _).mono ?_;rintro e w' ⟨rfl,⟨nd,rfl⟩⟩))
   obtain⟨qh,Se⟩:∃ qh,Fu (lg L (i+(k1+1))) (lg L (i+k1)) (lg y2 k1)=qh:=⟨_,rfl⟩
   rw[Se];clear b1 b2 b3 b4 b5 b6 b7 b8 b9 c1 c2 c3 c4 c5;have cY:cV ((wr.drewN (1+nd)).setCell ⟨g3,i,none⟩ (.int .u64 qh)) g3 (q.set i qh):=(HW.out.Ba.dP (1+nd)).set i qh;have Sf:bW g3 wr ((wr.drewN (1+nd)).setCell ⟨g3,i,none⟩ (.int .u64 qh)):=((bW.refl g3 wr).dP (1+nd)).set i _;have ey:=HW.out.Dc.only Sf n1;have Y8:=HW.out.Nh.only Sf (fun _ ad e=>by cases e;exact n2);have hBl:=bW.below HW.out.below Sf (by have:=HG.out;omega);have hsz:g3<(((wr.drewN (1+nd)).setCell ⟨g3,i,none⟩ (.int .u64 qh))).heap.size:=cY.lt;generalize (wr.drewN (1+nd)).setCell ⟨g3,i,none⟩ (.int .u64 qh)=W1 at *;have age:=r_ (k1+1+1) aD;rw[show((k1+1+1:Nat):Int)=(k1:Int)+1+1 by omega]at age
   have zu:Below W1.heap.size W1 (W1.alloc (.cells (madeCells #[.int .u64 0] (k1+1+1)) 122)):=(Below.refl _ _).alloc (Nat.le_refl _) _;have hk4:=sj W1 (k1+1+1);have XI:=cY.below zu cY.lt;have agf:=ey.below zu ey.lt;have agh:=Y8.below zu (Nat.le_refl _);have atI:g2<W1.heap.size:=Y8.lt (by rw[HD.out.2.2.2.2.1];omega) _ rfl;have atJ:=ey.lt;have agi:=hBl.trans (zu.mono hBl.size);go_wp2
   generalize W1.alloc (.cells (madeCells #[.int .u64 0] (k1+1+1)) 122)=W2 at *;generalize hg4:W1.heap.size=g4 at *;clear age zu cY ey Y8 hBl Sf;have z_:i<q.length:=by rw[HW.out.inv.A_];omega
   have c1:=XI.cell i (by rw[List.length_set];exact z_);rw[cO,if_pos ⟨rfl,z_⟩]at c1
   have Wr:=HD.out.2.2.2.2.1;have Ws:=HD.out.2.2.2.1;have Y9:0<=qh/\qh<B:=by
    rw[<- Se];exact akM (HW.out.inv.bL _).1 (HW.out.inv.bL _) (by have:=HD.out.2.2.1;omega)
   have n3:¬ g3=g4:=by omega
   have n4:¬ g2=g4:=by omega
   have n5:¬ g1=g4:=by omega
   have b1:(i:Int)<(lq:Int):=by omega
   have b2:(0:Int)<=(i:Int):=by omega
   have b3:(k1:Int)+1<(k1:Int)+1+1:=by omega
   have b4:(0:Int)<=(k1:Int)+1:=by omega
   have b5:(k1:Int)+1<=(k1:Int)+1+1:=by omega
   have atK:=Lib.hid (fun (W:World) (c c':Nat) (hk:cV W g4 (List.replicate (k1+1+1) 0)) (hr:RL W (some ⟨g2,0,none⟩) y2)=>aah g4 0 (k1+1) c (List.replicate (k1+1+1) 0) (some ⟨g2,0,none⟩) c' y2 qh Wr W hk (jd _) (by simp) hr Ws (fun _ ad e=>by cases e;exact n4) Y9);have H4:=Lib.hid hk4;have HG4:=Lib.hid hsz;have HY4:=Lib.hid agh;have atL:=Lib.hid XI;have atM:=Lib.hid agf;have rC:=Lib.hid agi;have HQB:=Lib.hid Y9;have DS:=Lib.hid (And.intro Wr Ws);clear hk4 agh XI agf agi Y9 Wr Ws hsz z_ atI atJ
   go_region_held3 (fun w'=>w'.cell? ⟨g3,i,none⟩=some (.int .u64 qh)) (first|go_keep|exact(World.cell?_of_block (xB.block _ n3)).trans c1|exact(cell_far _ _ _ _ _ _ n3).trans ((World.cell?_of_block (xB.block _ n3)).trans c1))
    (first|(go_at_call 132;refine(atK.out _ _ _ (by exact H4.out) (by exact HY4.out)).mono ?_;rintro e w' ⟨Pr,c,rfl,hkp,Qz,ad5,ap1,Sg,ad6,xB⟩;have atN:=hkp.cell (k1+1) (by rw[Qz];simp);have atO:=hkp.free (k1+1)))
   obtain⟨Q,hQ⟩:∃ Q,win L i (k1+1+1) / (S*lv b)=Q:=⟨_,rfl⟩
   have oa:Q<=qh:=by
    rw[<- hQ,<- Se];exact ajB HW.out.inv (k1:=k1) (by rw[<- HD.out.2.2.2.2.2.1];exact(ao_ DS.out.1 DS.out.2).1) (by have:=HD.out.2.2.1;omega)
   have Nn:bW g4 W2 (w'.setCell ⟨g4,k1+1,none⟩ (.int .u64 c)):=⟨(xB.set (k1+1) (.int .u64 c)).os,(xB.set (k1+1) (.int .u64 c)).tape,(xB.set (k1+1) (.int .u64 c)).output,(xB.set (k1+1) (.int .u64 c)).size,(xB.set (k1+1) (.int .u64 c)).block⟩
   have agj:Below w.heap.size w (w'.setCell ⟨g4,k1+1,none⟩ (.int .u64 c)):=bW.below (g:=g4) rC.out Nn (by have h1:=HG.out;have h2:=HG4.out;omega)
   have HD0:=Lib.hid (show XE (S*lv b) Q g1 g2 g3 g4 i k1 y2 L q w qh (Pr.set (k1+1) c) (w'.setCell ⟨g4,k1+1,none⟩ (.int .u64 c)) from
    ⟨atM.out.only Nn n5,atL.out.only Nn n3,hkp.set _ _,HY4.out.only Nn (fun _ ad e=>by cases e;exact n4),by rw[List.length_set,Qz];simp,ad5.set _ Sg,
     (akK (by rw[Qz];simp) DS.out.1 ad6).trans (by rw[HD.out.2.2.2.2.2.1]),oa,HQB.out,agj⟩)
   generalize w'.setCell ⟨g4,k1+1,none⟩ (.int .u64 c)=W3 at *;clear agj Nn xB hkp Qz ad5 ap1 Sg ad6 atN atO c1 b1 b2 b3 b4 b5 Se;go_wp2
   have Sh:Hid (0<S*lv b):=Lib.hid (by have h1:=HD.out.2.1;have h2:=Bp k1;omega);have Y_:=Lib.hid hQ;have Si:=Lib.hid (OD (l:=L) (o:=i) (m:=k1+1+1) (by rw[HW.out.inv.len];omega));have HPV:=Lib.hid (alu (l:=L) (o:=i) (m:=k1+1+1) (by rw[HW.out.inv.len];omega));have HPM:=Lib.hid (HW.out.inv.bL.part i (k1+1+1));have HIQ:=Lib.hid (show i<q.length by rw[HW.out.inv.A_];omega);clear hQ oa n1 n2;go_loopg [] (qh.toNat) (fun gk w1=>∃ (qt:Int) (Pr:List Int),Hid (gk=qt.toNat)/\XE (S*lv b) Q g1 g2 g3 g4 i k1 y2 L q w qt Pr w1)
   case atStart=>exact⟨qh,_,rfl,HD0.out⟩
   case round =>
    obtain⟨qt,Pr,rD,hd⟩:=hrel;have qc:=Lib.hid hd;have Sj:=Lib.hid (akL hd.Dc (o:=i) (m:=k1+1+1) (by rw[HW.out.inv.len];omega) aD);have LQ:=Lib.hid (hd.af6.RL (by rw[hd.len];omega));have k7:=lN (HPM.out.take (bG (aS.part L i (k1+1+1)) (aS.part L i (k1+1+1)).length)) (hd.bL.take (bG Pr Pr.length)) (lF _) (lF _);rw[eH,eH,gK,gK,Si.out,HPV.out,hd.len,hd.val]at k7
    have kT:=gK (aS.part L i (k1+1+1));have ig:=gK Pr;rw[Si.out]at kT
    rw[hd.len]at ig
    have HO:=Lib.hid k7;have xU:=Lib.hid kT;have tC:=Lib.hid ig;have HL:=Lib.hid hd.len;by_cases hlt:win L i (k1+1+1)<qt*(S*lv b)
    ·have hcm:=yL hlt
     rw[hcm]at k7
     have HO':=Lib.hid k7;have Bz:0<qt:=by
      have Nd:=hd.bd.1;by_cases h0:qt=0
      ·rw[h0,Int.zero_mul]at hlt
       have:=(kL HW.out.inv.bL i (k1+1+1)).1;omega
      ·omega
     have agk:Q<=qt-1:=by
      have:Q<qt:=by rw[<- Y_.out];exact Int.ediv_lt_of_lt_mul Sh.out hlt
      omega
     have hce:=hd.Ba.cell i (by rw[List.length_set];exact HIQ.out);rw[cO,if_pos ⟨rfl,HIQ.out⟩]at hce
     have hfr:=hd.Ba.free i;have hwq:=cJ (qt-1) ⟨by omega,by have:=hd.bd.2;omega⟩;have J4:=Lib.hid (And.intro Bz agk);clear k7 kT ig hd hlt hcm Bz agk HO;go_wp2_with fail
     refine(lD _ _ _ _ Si.out aD _ Sj.out).mono ?_;rintro e w' ⟨rfl,⟨m1,rfl⟩⟩;go_wp2_with fail
     refine(lD _ _ _ Pr HL.out aD _ (LQ.out.dP _)).mono ?_;rintro e w' ⟨rfl,⟨m2,rfl⟩⟩;go_wp2_with fail
     refine(Ez _ _ _ _ _ _ _ _ xU.out tC.out _ ((Sj.out.take _).dP _) ((LQ.out.take _).dP _)).mono ?_;rintro e w' ⟨rfl,⟨m3,rfl⟩⟩;rw[HO'.out];go_wp2_with fail
     have Np:bW g3 wr ((wr.drewN (m1+m2+m3)).setCell ⟨g3,i,none⟩ (.int .u64 (qt-1))):=((bW.refl g3 wr).dP _).set i _;have cQ:cV ((wr.drewN (m1+m2+m3)).setCell ⟨g3,i,none⟩ (.int .u64 (qt-1))) g3 (q.set i (qt-1)):=by
      have:=(qc.out.Ba.dP (m1+m2+m3)).set i (qt-1);rw[List.set_set]at this
      exact this
     have Sk:=qc.out.Nh.only Np (fun _ ad e=>by cases e;exact(show g2≠g3 by have:=HG.out;omega));refine(VW g4 0 (k1+1+1) _ Pr (some ⟨g2,0,none⟩) (k1+1) _ y2 DS.out.1 _ (qc.out.af6.only Np aD) qc.out.bL (by rw[HL.out];omega) aD Sk DS.out.2 (fun _ ad e=>by cases e;exact n4)).mono ?_;rintro e w' ⟨P2,bb,rfl,DI,xz,xA,_,LR,LS,v_⟩;have hD1:S*lv b<=qt*(S*lv b):=by
      have:1*(S*lv b)<=qt*(S*lv b):=Int.mul_le_mul_of_nonneg_right (by have:=J4.out.1;omega) (Int.le_of_lt Sh.out);omega
     have uo:=nW (n:=k1+1+1) (xz.trans HL.out) xA qc.out.bL HL.out DS.out.2 (by rw[DS.out.1];omega) LR (by rw[qc.out.val,HD.out.2.2.2.2.2.1];exact hD1) (by rw[DS.out.1];exact LS);rw[qc.out.val,HD.out.2.2.2.2.2.1]at uo
     have agl:Below w.heap.size w w':=bW.below (g:=g4) (bW.below (g:=g3) qc.out.below Np (by have h1:=HG.out;omega)) v_ (by have h1:=HG.out;have h2:=HG4.out;omega)
     have mz:=Lib.hid (show XE (S*lv b) Q g1 g2 g3 g4 i k1 y2 L q w (qt-1) P2 w' from
      ⟨(qc.out.Dc.only Np (by have h1:=HG.out;omega)).only v_ n5,cQ.only v_ n3,DI,Sk.only v_ (fun _ ad e=>by cases e;exact n4),xz.trans HL.out,xA,
       by rw[uo,Int.sub_mul,Int.one_mul],J4.out.2,⟨by have:=J4.out.1;omega,by have:=qc.out.bd.2;omega⟩,agl⟩)
     clear Np cQ Sk DI xz xA LR LS v_ hD1 uo agl;go_wp2
     go_roundg (qt-1).toNat
     case measure=>rw[rD.out];have:=J4.out.1;omega
     case rel=>exact⟨qt-1,P2,rfl,mz.out⟩
    ·have hge:decide (dY (win L i (k1+1+1)) (qt*(S*lv b))<0)=false:=by
      rcases tP (win L i (k1+1+1)) (qt*(S*lv b)) with ⟨h,hc⟩|⟨h,hc⟩|⟨h,hc⟩ <;> rw[hc] <;> first|rfl|omega
     rw[<- k7]at hge
     have hQe:qt=Q:=by
      have h1:qt<=Q:=by rw[<- Y_.out];exact Int.le_ediv_of_mul_le Sh.out aD
      have:=hd.ge;omega
     have xV:=Lib.hid (And.intro hQe (show qt*(S*lv b)<=win L i (k1+1+1) by omega));clear k7 kT ig hd hlt hQe;go_wp2_with fail
     refine(lD _ _ _ _ Si.out aD _ Sj.out).mono ?_;rintro e w' ⟨rfl,⟨m1,rfl⟩⟩;go_wp2_with fail
     refine(lD _ _ _ Pr HL.out aD _ (LQ.out.dP _)).mono ?_;rintro e w' ⟨rfl,⟨m2,rfl⟩⟩;go_wp2_with fail
     refine(Ez _ _ _ _ _ _ _ _ xU.out tC.out _ ((Sj.out.take _).dP _) ((LQ.out.take _).dP _)).mono ?_;rintro e w' ⟨rfl,⟨m3,rfl⟩⟩;go_wp2_with fail
     refine(VW g1 i (k1+1+1) _ L (some ⟨g4,0,none⟩) (k1+1+1) _ Pr HL.out _ (qc.out.Dc.dP _) HW.out.inv.bL (by rw[HW.out.inv.len];omega) aD (LQ.out.dP _) qc.out.bL (fun _ ad e=>by cases e;exact(show g4≠g1 by omega))).mono ?_;rintro e w' ⟨L9,bb,rfl,DI,xz,xA,ad7,LR,LS,v_⟩;have uo:=akI xA HL.out LR (by rw[qc.out.val];exact xV.out.2) LS;rw[qc.out.val]at uo
     have GH:=Sh.out;have hup:win L9 i (k1+1+1)<S*lv b:=by
      have h1:=Int.mul_ediv_add_emod (win L i (k1+1+1)) (S*lv b);have h2:=Int.emod_lt_of_pos (win L i (k1+1+1)) GH;rw[Y_.out,<- xV.out.1,Int.mul_comm]at h1
      omega
     have hst:=HW.out.inv.step (L':=L9) (Q:=qt) HD.out.1 hj qc.out.bd xz xA ad7 uo hup;have Sl:bW g1 wr w':=⟨v_.os,v_.tape,v_.output,v_.size,v_.block⟩
     have Nq:=Lib.hid (show XF (S*lv a) (S*lv b) (k1+1) lq g1 g2 g3 y2 w i L9 (q.set i qt) w' from
      ⟨DI,qc.out.Ba.only Sl (show g3≠g1 by have:=HG.out;omega),qc.out.Nh.only Sl (fun _ ad e=>by cases e;exact(show g2≠g1 by have:=HG.out;omega)),hst,bW.below (g:=g1) qc.out.below Sl (by have h1:=HG.out;omega)⟩)
     clear DI xz xA ad7 LR LS v_ uo GH hup hst Sl;go_wp2
     exact⟨⟨i,_,_,by omega,by go_num,Nq.out⟩,by simp[intOf]⟩
  | zero =>
   have h1:decide (0<=((0:Nat):Int)-1)=false:=by simp
   have GH:0<S*lv b:=by have h1:=HD.out.2.1;have h2:=Bp k1;omega
   obtain⟨f1,f2⟩:=hW.inv.done GH;obtain⟨hS,dI,iF,Mr⟩:=HSS.out;rw[Int.mul_ediv_mul_of_pos _ _ dI]at f1
   rw[Int.mul_emod_mul_of_pos _ _ dI,Int.mul_comm,hS]at f2
   have HF:=Lib.hid f1;have gY:=Lib.hid f2;have HW:=Lib.hid hW;have hq:=Lib.hid (hW.Ba.RL (by rw[hW.inv.A_];omega));have hr:=Lib.hid (hW.Dc.RL (by rw[hW.inv.len];omega));have J4:=Lib.hid hW.inv.A_;have HLL:=Lib.hid (show L.length=lq+k1+1 by rw[hW.inv.len];omega);clear GH f1 f2 hS dI iF Mr hW;go_wp2_with fail
   refine(lD _ lq _ q J4.out (Nat.le_refl _) _ hq.out).mono ?_;rintro e w' ⟨rfl,⟨m1,rfl⟩⟩;go_wp2_with fail
   refine(ajz _ (lq+k1+1) _ s L (lv a%lv b) HLL.out aD F4 _ (hr.out.dP _) HW.out.inv.bL gY.out).mono ?_;rintro e w' ⟨u,r,rfl,hr1,hr2,hr3,hr4,gu⟩;go_wp2
   go_ret3
   have ju:=HW.out.inv.A_;have t1:=gK q;have t2:=eH q;have t3:=lF q;rw[ju]at t1 t2 t3
   exact⟨_,u,q.take (bG q lq),r,rfl,ajj ju ((hq.out.dP _).below gu (Nat.le_refl _)),hr1,HW.out.inv.af5.take _,t3,hr2,hr3,by rw[t2];exact HF.out,hr4,
    (iy HW.out.below _).trans (gu.mono (by have:=HW.out.below.size;simpa using this))⟩
theorem ad8 (A0 A1:Option Addr) (n m c0 c1:Nat) (a b:List Int) (hn:a.length=n) (hm:b.length=m) (gP:n<=4000) (kE:m<=4000) (hc0:n<=c0) (hc1:m<=c1) (w:World) (ha:RL w A0 a) (hb:RL w A1 b) (hla:aH a) (hlb:aH b) (h0:lv b≠0) :
  Calls Tryz.prog 118 #[.slice A0 n c0,.slice A1 m c1] w (Rq (lv a) (lv b) w):=by
 by_cases hlt:lv a<lv b
 ·exact UR A0 A1 n m c0 c1 a b hn hm gP kE hc0 hc1 w ha hb hla hlb hlt
 ·have h1:bG b m≠0:=by
   intro h;apply h0;rw[<- eH b,hm,h];exact nZ
  by_cases h2:bG b m=1
  ·exact div_one A0 A1 n m c0 c1 a b hn hm gP kE hc0 hc1 w ha hb hla hlb aD h2
  ·exact akN A0 A1 n m c0 c1 a b hn hm gP kE hc0 hc1 w ha hb hla hlb aD aD
end Go.Proofs.YtfcjnhkkfmgmpaaGreat
