import Derived.Test.YtfcjnhkkfmgmpaaGreatZsG5
import Derived.Deep.RegionHeld3
set_option linter.all false
set_option maxRecDepth 100000
set_option maxHeartbeats 8000000
namespace Go.Proofs.YtfcjnhkkfmgmpaaGreat
open Go.RowKit aR
theorem cell_far (w:World) (g j:Nat) (v:Value) (h o:Nat) (hne:¬ h=g):(w.setCell ⟨g,j,none⟩ v).cell? ⟨h,o,none⟩=w.cell? ⟨h,o,none⟩ :=
 World.cell?_of_block (w:=w) (Below.heap_setCell _ _ _ _ hne)
theorem agh {w:World} {g:Nat} {l:List Int} (h:cK w g l) {o m:Nat} (ho:o+m≤l.length) (hm:m≤100000):RL w (some ⟨g,o,none⟩) (aR.part l o m):=by
 refine⟨by rw[Mh ho];omega,fun hn=>⟨_,rfl,fun j hj=>?_⟩⟩;rw[Mh ho]at hj
 rw[Rj,if_pos hj];have:=h.cell (o+j) (by omega);unfold Addr.add;split
 ·rename_i h0;subst h0;exact this
 ·exact this
structure Ua (D Q:Int) (g1 g2 g3 g4 i k1:Nat) (y2 L q:List Int) (w:World) (qt:Int) (Pr:List Int) (w1:World):Prop where
 AI:cK w1 g1 L
 ym:cK w1 g3 (q.set i qt)
 acD:cK w1 g4 Pr
 KE:RL w1 (some ⟨g2,0,none⟩) y2
 len:Pr.length=k1+1+1
 bF:aJ Pr
 val:lv Pr=qt*D
 ge:Q≤qt
 bd:0≤qt∧qt<B
 below:Below w.heap.size w w1
theorem agi {h n t:Int} (hh:0≤h) (hn:0≤n∧n<B) (ht:0<t):0≤CW h n t∧CW h n t<B:=by
 unfold CW;split
 ·rw[B_eq];omega
 ·have h1:0≤h*B:=Int.mul_nonneg hh (by decide)
  refine⟨Int.ediv_nonneg (by omega) (by omega),Int.ediv_lt_of_lt_mul ht ?_⟩;have h2:(h+1)*B≤t*B:=Int.mul_le_mul_of_nonneg_right (by omega) (by decide);have h3:(h+1)*B=h*B+B:=by grind
  have h4:B*t=t*B:=Int.mul_comm _ _;omega
theorem akE {y:List Int} {k1:Nat} (hl:y.length=k1+1) (hy:aJ y):lg y k1*B^k1≤lv y∧0≤lv y:=by
 have e:lv y=aL (lg y) k1+lg y k1*B^k1:=by unfold lv;rw[hl];rfl
 have b:=ij k1 hy;exact⟨by omega,(dG hy).1⟩
theorem ae8 {R0 D:Int} {k1 lq i:Nat} {L q:List Int} {top:Int} (h:tV R0 D (k1+1) lq (i+1) L q) (hD:top*B^k1≤D) (lQ:0<top) :
  win L i (k1+1+1) / D≤CW (lg L (i+(k1+1))) (lg L (i+k1)) top:=by
 refine agc (Bp k1) (low:=win L i k1) ?_ (jW h.bF _ _) hD lQ (h.bF _).1 (h.bF _).1 h.part.2;rw[eH,eH,Bs];grind
theorem aeP {w:World} {A:Option Addr} {q:List Int} {n:Nat} (hn:q.length=n) (hr:RL w A q):oT w (.slice A (bn q n) (bn q n)) (q.take (bn q n)):=by
 subst hn;exact⟨A,_,by rw[f_],by rw[f_];exact Nat.le_refl _,hr.take _⟩
structure Ub (R0 D:Int) (k lq g1 g2 g3:Nat) (y2:List Int) (w:World) (j:Nat) (L q:List Int) (w1:World):Prop where
 AI:cK w1 g1 L
 ym:cK w1 g3 q
 KE:RL w1 (some ⟨g2,0,none⟩) y2
 inv:tV R0 D k lq j L q
 below:Below w.heap.size w w1
theorem agj (A0 A1:Option Addr) (n m c0 c1:Nat) (a b:List Int) (hn:a.length=n) (hm:b.length=m) (gp:n≤4000) (jU:m≤4000) (hc0:n≤c0) (hc1:m≤c1) (w:World) (ha:RL w A0 a) (hb:RL w A1 b) (hla:aJ a) (hlb:aJ b)
  (hle:lv b≤lv a) (h1:2≤bn b m) :
  Calls Tryz.prog 118 #[.slice A0 n c0,.slice A1 m c1] w (Ob (lv a) (lv b) w):=by
 have hb0:Below w.heap.size w (w.alloc (.cells #[.slice A0 n c0,.slice A1 m c1] 124)):=(Below.refl _ _).alloc (Nat.le_refl _) _;have kO:=Lib.hid (ha.below hb0 (Nat.le_refl _));have bD:=Lib.hid (hb.below hb0 (Nat.le_refl _));have HN:=Lib.hid hn;have HM:=Lib.hid hm;have kC:=kU (hla.take (bn a a.length)) (hlb.take (bn b b.length)) (kM a) (kM b);rw[eB,eB,f_,f_,hn,hm]at kC
 have h2:decide (dX (lv a) (lv b)<0)=false:=by
  rcases qY (lv a) (lv b) with ⟨h,hc⟩|⟨h,hc⟩|⟨h,hc⟩ <;> rw[hc] <;> first|rfl|omega
 rw[← kC]at h2
 have hpl:=f_ a;have iZ:=f_ b;rw[hn]at hpl
 rw[hm]at iZ
 have kY:lv (a.take (bn a n))=lv a:=by rw[← hn];exact eB a
 have sW:lv (b.take (bn b m))=lv b:=by rw[← hm];exact eB b
 have htb:Tr (b.take (bn b m)):=by rw[← hm];exact kM b
 have GR:=pH a n;have yL:=pH b m;have yJ:bn b m≤bn a n:=by
  rw[← hpl,← iZ];apply Nat.le_of_not_lt;intro hgt;have:=kS (hla.take (bn a n)) (hlb.take (bn b m)) htb hgt;rw[kY,sW]at this
  omega
 have n_:=hla.take (bn a n);have vN:=hlb.take (bn b m);have Bl:=Lib.hid (kO.out.take (bn a n));have Vt:=bD.out.take (bn b m);generalize hx:a.take (bn a n)=x at *;generalize hy:b.take (bn b m)=y at *;generalize hp:bn a n=p at *;generalize hk:bn b m=k at *;have hz1:((k:Int)==0)=false:=beq_eq_false_iff_ne.mpr (by omega);have hz2:((k:Int)==1)=false:=beq_eq_false_iff_ne.mpr (by omega);obtain⟨k1,rfl⟩:∃ k1,k=k1+1:=⟨k-1,by omega⟩
 obtain⟨lq,rfl⟩:∃ lq,p=lq+k1:=⟨p-k1,by omega⟩
 have lQ:0<lg y k1∧lg y k1<B:=by
  have:=vN k1;rcases htb with h|h
  ·omega
  ·rw[iZ]at h
   exact⟨by have:lg y k1≠0:=h;omega,this.2⟩
 obtain⟨s,hs,Dv,hs1,hs2⟩:=Ri (lg y k1) lQ.1 lQ.2;obtain⟨bd,rfl,hcb⟩:=Vt.2 (by omega);have azz:=hcb k1 (by omega);have KC:=Lib.hid (T5 (lg y k1) ⟨by omega,lQ.2⟩);have HP:=Lib.hid hpl;have HQ:=Lib.hid iZ;have HO:=Lib.hid h2;have O_:=Lib.hid hp;have HTB:=Lib.hid hk;have HYR:=Lib.hid Vt;have eR:=Lib.hid hs;have HS:=Lib.hid hb0;have HV:=Lib.hid (And.intro kY (And.intro sW (And.intro n_ (And.intro vN (And.intro lQ (And.intro hs1 hs2))))));clear ha hb hn hm hla hlb hpl iZ hb0 kC h2 kY sW htb n_ vN hx hy hp hk lQ hs hs1 hs2 Vt hcb h1;go_enter Tryz.func118,Tryz.ntmps118;go_wp2_with fail
 refine(Au _ _ _ _ _ _ _ gp jU).mono ?_;rintro e w' ⟨rfl,rfl⟩;go_wp2_with fail
 refine(kL _ _ _ a HN.out hc0 _ kO.out).mono ?_;rintro e w5 ⟨rfl,⟨nd,rfl⟩⟩;go_wp2_with fail
 refine(kL _ _ _ b HM.out hc1 _ (bD.out.dO _)).mono ?_;rintro e w5 ⟨rfl,⟨qK,rfl⟩⟩;rw[O_.out,HTB.out];go_wp2_with fail
 refine(Cj _ _ _ _ _ _ x y HP.out HQ.out _ (Bl.out.dO _) (HYR.out.dO _)).mono ?_;rintro e w5 ⟨rfl,⟨Bf,rfl⟩⟩;have Bk:=HO.out;go_wp2_with fail
 refine(KC.out _).mono ?_;rintro e w5 ⟨rfl,rfl⟩;rw[eR.out];clear Bk;go_wp2_with fail
 refine(XM _ (lq+k1) _ s x HP.out (by omega) Dv _ (Bl.out.dO _) HV.out.2.2.1).mono ?_;rintro e w6 ⟨g1,L0,rfl,j5,hk1,fy,acE,Oc,Od⟩;go_wp2_with fail
 refine(XM _ (k1+1) _ s y HQ.out (by omega) Dv _ ((HYR.out.dO _).below Od (Nat.le_refl _)) HV.out.2.2.2.1).mono ?_;rintro e w7 ⟨g2,L2,rfl,hg2,hk2,hl2,acF,Oe,Uc⟩;go_wp2_with fail
 refine(kL _ _ _ L2 hl2 (by omega) _ (hk2.RL (by omega))).mono ?_;rintro e w8 ⟨rfl,⟨KF,rfl⟩⟩;obtain⟨S,hS⟩:∃ S:Int,S=2^s:=⟨_,rfl⟩
 have dR:0<S:=by rw[hS];exact Int.pow_pos (by decide)
 obtain⟨T,hT⟩:∃ T:Int,T=2^(64-s):=⟨_,rfl⟩
 have gU:S*T=B:=by
  rw[hS,hT,← Int.pow_add,show s+(64-s)=64 by omega];rfl
 have JX:S≤9223372036854775808:=by
  have:(2:Int)^s≤2^63:=by exact_mod_cast Nat.pow_le_pow_right (show 0<2 by omega) Dv
  rw[hS];exact this
 obtain⟨v1,v2,v3,v4,v5,v6,v7⟩:=HV.out;rw[← hS]at Oc Oe v6 v7
 rw[v1]at Oc
 rw[v2]at Oe
 obtain⟨d1,d2⟩:=age HQ.out v4 dR gU v6 v7;rw[v2]at d1 d2
 have dM:=kM L2;have hlt:=eB L2;have Gv:=f_ L2;have hlb:=acF.take (bn L2 L2.length);rw[hl2]at dM hlt Gv hlb
 rw[Oe]at hlt
 have KG:=len_eq hlb dM (by rw[hlt];exact d1) (by rw[hlt];have:=Bp k1;omega);rw[Gv]at KG
 have lQ:=agb hlb (by rw[Gv];exact KG) (by rw[hlt];exact d2);have Ud:=(hk2.RL (by omega)).take (bn L2 (k1+1+1));rw[KG]at hlt Gv hlb lQ Ud dM
 generalize hby:L2.take (k1+1)=y2 at *;have lU:Below w.heap.size w w7:=((gR HS.out _).trans (Od.mono (by simp))).trans (Uc.mono (by have:=Od.size;simp at this;omega));have aaR:=hk1.lt;have acG:=hk1.below Uc aaR;have aaS:=hk2.lt;have acH:w.heap.size<g1:=by have:=j5;simp at this;omega
 have Bn:=tV.start (R0:=S*lv a) (D:=S*lv b) (k:=k1+1) (lq:=lq) (L:=L0) (q:=List.replicate lq 0) (n:=lq+k1) (by rw[fy];omega) (by omega) acE (by simp) (iN _) Oc rfl (by
  have:=(dG v3).2;rw[HP.out,v1]at this;exact this) ⟨dR,JX⟩ (by omega) (by rw[Nat.add_sub_cancel];exact d2)
 have hmk:=qm lq (by omega);rw[show(lq:Int)=(lq:Int)+(k1:Int)+1-((k1:Int)+1) by omega]at hmk
 rw[KG];have jK:=Lib.hid Bn;have HD:=Lib.hid (And.intro d1 (And.intro d2 (And.intro lQ (And.intro hlb (And.intro Gv (And.intro hlt (And.intro dM fy)))))));have HSS:=Lib.hid (And.intro hS (And.intro dR (And.intro gU JX)));have j6:=Lib.hid lU;have fY:=Lib.hid acG;have HBY:=Lib.hid Ud;have ng:=Lib.hid fy;clear hS dR hT gU JX v1 v2 v3 v4 v5 v6 v7 Oc Oe d1 d2 dM hlt Gv hlb KG lQ Ud hby lU hk1 acG hk2 fy hl2 acE acF Od Uc Bn;go_wp2
 have Pa:Below w7.heap.size w7 ((w7.drewN KF).alloc (.cells (madeCells #[.int .u64 0] lq) 122)):=(gR (Below.refl _ _) KF).alloc (Nat.le_refl _) _;have hk3:=qo (w7.drewN KF) lq;have Bo:=j6.out.trans (Pa.mono j6.out.size);have acI:=fY.out.below Pa fY.out.lt;have acJ:=HBY.out.below Pa (Nat.le_refl _);have acK:g1<w7.heap.size:=fY.out.lt;have acL:w.heap.size<w7.heap.size:=by omega
 generalize hw9:(w7.drewN KF).alloc (.cells (madeCells #[.int .u64 0] lq) 122)=w9 at *;rw[show(w7.drewN KF).heap.size=w7.heap.size from rfl]at hk3
 generalize hg3:w7.heap.size=g3 at *;clear hw9 Pa hmk;have qM:=Lib.hid (show Ub (S*lv a) (S*lv b) (k1+1) lq g1 g2 g3 y2 w lq L0 (List.replicate lq 0) w9 from ⟨acI,hk3,acJ,jK.out,Bo⟩);have acM:g1<g2:=by omega
 have HG:=Lib.hid (And.intro acH (And.intro acK (And.intro acL (And.intro acM aaS))));clear acM acI hk3 acJ Bo acH acK acL j5 hg2 aaR aaS hg3;go_loopw [14,15,16] (fun t _ _ w1=>∃ (j:Nat) (L q:List Int),j≤lq∧t = .int .i64 ((j:Int)-1)∧Ub (S*lv a) (S*lv b) (k1+1) lq g1 g2 g3 y2 w j L q w1) (fun t _ _ _=>(intOf t+1).toNat)
 case atStart=>exact⟨lq,_,_,Nat.le_refl _,rfl,qM.out⟩
 case round =>
  obtain⟨j,L,q,hj,rfl,hW⟩:=hrel;cases j with
  | succ i =>
   have h1:decide (0≤((i+1:Nat):Int)-1)=true:=by simp
   have e1:((i+1:Nat):Int)-1=(i:Int):=by omega
   rw[e1]at h1 ⊢
   clear e1;have HW:=Lib.hid hW;have c1:=hW.AI.cell (i+(k1+1)) (by rw[hW.inv.len];omega);have c2:=hW.AI.cell (i+k1) (by rw[hW.inv.len];omega);have c3:=hW.KE.cell k1 (by rw[HD.out.2.2.2.2.1];omega);rw[Nat.zero_add]at c3
   have c4:=hW.ym.cell i (by rw[hW.inv.yl];omega);have c5:=hW.ym.free i;clear hW;have hg:=ag0 (lg L (i+(k1+1))) (lg L (i+k1)) (lg y2 k1) (HW.out.inv.bF _).1 (HW.out.inv.bF _) (HD.out.2.2.2.1 k1).2;have HGU:=Lib.hid hg;clear hg;go_wp2
   rw[show i+(k1+1)+1-i=k1+1+1 by omega];have b1:(k1:Int)+1<(k1:Int)+1+1:=by omega
   have b2:(0:Int)≤(k1:Int)+1:=by omega
   have b3:IntKind.i64.wrap ((k1:Int)+1-1)=(k1:Int):=by rw[show(k1:Int)+1-1=(k1:Int) by omega];exact IntWalk.i64_in _ (by omega)
   have b4:(k1:Int)<(k1:Int)+1+1:=by omega
   have b5:(k1:Int)<(k1:Int)+1:=by omega
   have b6:(0:Int)≤(k1:Int):=by omega
   have b7:IntKind.i64.wrap (k1:Int)=(k1:Int):=IntWalk.i64_in _ (by omega);have b8:(i:Int)<(lq:Int):=by omega
   have b9:(0:Int)≤(i:Int):=by omega
   have n1:¬ g1=g3:=by have:=HG.out;omega
   have n2:¬ g2=g3:=by have:=HG.out;omega
   go_region_held3 (fun w'=>w'.cell? ⟨g1,i+(k1+1),none⟩=some (.int .u64 (lg L (i+(k1+1))))∧w'.cell? ⟨g1,i+k1,none⟩=some (.int .u64 (lg L (i+k1)))∧w'.cell? ⟨g2,k1,none⟩=some (.int .u64 (lg y2 k1))) (first|go_keep|exact⟨(cell_far _ _ _ _ _ _ n1).trans c1,(cell_far _ _ _ _ _ _ n1).trans c2,(cell_far _ _ _ _ _ _ n2).trans c3⟩)
    (first|(go_at_call 131;refine(HGU.out _).mono ?_;rintro e w' ⟨rfl,⟨nd,rfl⟩⟩))
   obtain⟨qh,Pb⟩:∃ qh,CW (lg L (i+(k1+1))) (lg L (i+k1)) (lg y2 k1)=qh:=⟨_,rfl⟩
   rw[Pb];clear b1 b2 b3 b4 b5 b6 b7 b8 b9 c1 c2 c3 c4 c5;have cQ:cK ((wr.drewN (1+nd)).setCell ⟨g3,i,none⟩ (.int .u64 qh)) g3 (q.set i qh):=(HW.out.ym.dO (1+nd)).set i qh;have Pc:bU g3 wr ((wr.drewN (1+nd)).setCell ⟨g3,i,none⟩ (.int .u64 qh)):=((bU.refl g3 wr).dO (1+nd)).set i _;have gu:=HW.out.AI.only Pc n1;have Vu:=HW.out.KE.only Pc (fun _ ad e=>by cases e;exact n2);have hBl:=bU.below HW.out.below Pc (by have:=HG.out;omega);have hsz:g3<(((wr.drewN (1+nd)).setCell ⟨g3,i,none⟩ (.int .u64 qh))).heap.size:=cQ.lt;generalize (wr.drewN (1+nd)).setCell ⟨g3,i,none⟩ (.int .u64 qh)=W1 at *;have acN:=qm (k1+1+1) (by omega);rw[show((k1+1+1:Nat):Int)=(k1:Int)+1+1 by omega]at acN
   have wW:Below W1.heap.size W1 (W1.alloc (.cells (madeCells #[.int .u64 0] (k1+1+1)) 122)):=(Below.refl _ _).alloc (Nat.le_refl _) _;have hk4:=qo W1 (k1+1+1);have Ue:=cQ.below wW cQ.lt;have acO:=gu.below wW gu.lt;have acP:=Vu.below wW (Nat.le_refl _);have aoN:g2<W1.heap.size:=Vu.lt (by rw[HD.out.2.2.2.2.1];omega) _ rfl;have aoO:=gu.lt;have acQ:=hBl.trans (wW.mono hBl.size);go_wp2
   generalize W1.alloc (.cells (madeCells #[.int .u64 0] (k1+1+1)) 122)=W2 at *;generalize hg4:W1.heap.size=g4 at *;clear acN wW cQ gu Vu hBl Pc;have xh:i<q.length:=by rw[HW.out.inv.yl];omega
   have c1:=Ue.cell i (by rw[List.length_set];exact xh);rw[cG,if_pos ⟨rfl,xh⟩]at c1
   have SX:=HD.out.2.2.2.2.1;have SY:=HD.out.2.2.2.1;have Vv:0≤qh∧qh<B:=by
    rw[← Pb];exact agi (HW.out.inv.bF _).1 (HW.out.inv.bF _) (by have:=HD.out.2.2.1;omega)
   have n3:¬ g3=g4:=by omega
   have n4:¬ g2=g4:=by omega
   have n5:¬ g1=g4:=by omega
   have b1:(i:Int)<(lq:Int):=by omega
   have b2:(0:Int)≤(i:Int):=by omega
   have b3:(k1:Int)+1<(k1:Int)+1+1:=by omega
   have b4:(0:Int)≤(k1:Int)+1:=by omega
   have b5:(k1:Int)+1≤(k1:Int)+1+1:=by omega
   have aoP:=Lib.hid (fun (W:World) (c c':Nat) (hk:cK W g4 (List.replicate (k1+1+1) 0)) (hr:RL W (some ⟨g2,0,none⟩) y2)=>Xq g4 0 (k1+1) c (List.replicate (k1+1+1) 0) (some ⟨g2,0,none⟩) c' y2 qh SX W hk (iN _) (by simp) hr SY (fun _ ad e=>by cases e;exact n4) Vv);have H4:=Lib.hid hk4;have HG4:=Lib.hid hsz;have HY4:=Lib.hid acP;have aoQ:=Lib.hid Ue;have aoR:=Lib.hid acO;have pP:=Lib.hid acQ;have HQB:=Lib.hid Vv;have Bq:=Lib.hid (And.intro SX SY);clear hk4 acP Ue acO acQ Vv SX SY hsz xh aoN aoO
   go_region_held3 (fun w'=>w'.cell? ⟨g3,i,none⟩=some (.int .u64 qh)) (first|go_keep|exact(World.cell?_of_block (uS.block _ n3)).trans c1|exact(cell_far _ _ _ _ _ _ n3).trans ((World.cell?_of_block (uS.block _ n3)).trans c1))
    (first|(go_at_call 132;refine(aoP.out _ _ _ (by exact H4.out) (by exact HY4.out)).mono ?_;rintro e w' ⟨Pr,c,rfl,hkp,Nv,aaT,alu,Pd,aaU,uS⟩;have aoS:=hkp.cell (k1+1) (by rw[Nv];simp);have aoT:=hkp.free (k1+1)))
   obtain⟨Q,hQ⟩:∃ Q,win L i (k1+1+1) / (S*lv b)=Q:=⟨_,rfl⟩
   have nh:Q≤qh:=by
    rw[← hQ,← Pb];exact ae8 HW.out.inv (k1:=k1) (by rw[← HD.out.2.2.2.2.2.1];exact(akE Bq.out.1 Bq.out.2).1) (by have:=HD.out.2.2.1;omega)
   have KH:bU g4 W2 (w'.setCell ⟨g4,k1+1,none⟩ (.int .u64 c)):=⟨(uS.set (k1+1) (.int .u64 c)).os,(uS.set (k1+1) (.int .u64 c)).tape,(uS.set (k1+1) (.int .u64 c)).output,(uS.set (k1+1) (.int .u64 c)).size,(uS.set (k1+1) (.int .u64 c)).block⟩
   have acR:Below w.heap.size w (w'.setCell ⟨g4,k1+1,none⟩ (.int .u64 c)):=bU.below (g:=g4) pP.out KH (by have h1:=HG.out;have h2:=HG4.out;omega)
   have HD0:=Lib.hid (show Ua (S*lv b) Q g1 g2 g3 g4 i k1 y2 L q w qh (Pr.set (k1+1) c) (w'.setCell ⟨g4,k1+1,none⟩ (.int .u64 c)) from
    ⟨aoR.out.only KH n5,aoQ.out.only KH n3,hkp.set _ _,HY4.out.only KH (fun _ ad e=>by cases e;exact n4),by rw[List.length_set,Nv];simp,aaT.set _ Pd,
     (agf (by rw[Nv];simp) Bq.out.1 aaU).trans (by rw[HD.out.2.2.2.2.2.1]),nh,HQB.out,acR⟩)
   generalize w'.setCell ⟨g4,k1+1,none⟩ (.int .u64 c)=W3 at *;clear acR KH uS hkp Nv aaT alu Pd aaU aoS aoT c1 b1 b2 b3 b4 b5 Pb;go_wp2
   have Pe:Hid (0<S*lv b):=Lib.hid (by have h1:=HD.out.2.1;have h2:=Bp k1;omega);have Vw:=Lib.hid hQ;have Pf:=Lib.hid (Mh (l:=L) (o:=i) (m:=k1+1+1) (by rw[HW.out.inv.len];omega));have HPV:=Lib.hid (ag3 (l:=L) (o:=i) (m:=k1+1+1) (by rw[HW.out.inv.len];omega));have HPM:=Lib.hid (HW.out.inv.bF.part i (k1+1+1));have HIQ:=Lib.hid (show i<q.length by rw[HW.out.inv.yl];omega);clear hQ nh n1 n2;go_loopg [] (qh.toNat) (fun gk w1=>∃ (qt:Int) (Pr:List Int),Hid (gk=qt.toNat)∧Ua (S*lv b) Q g1 g2 g3 g4 i k1 y2 L q w qt Pr w1)
   case atStart=>exact⟨qh,_,rfl,HD0.out⟩
   case round =>
    obtain⟨qt,Pr,pQ,hd⟩:=hrel;have oM:=Lib.hid hd;have Pg:=Lib.hid (agh hd.AI (o:=i) (m:=k1+1+1) (by rw[HW.out.inv.len];omega) (by omega));have Jv:=Lib.hid (hd.acD.RL (by rw[hd.len];omega));have kC:=kU (HPM.out.take (bn (aR.part L i (k1+1+1)) (aR.part L i (k1+1+1)).length)) (hd.bF.take (bn Pr Pr.length)) (kM _) (kM _);rw[eB,eB,f_,f_,Pf.out,HPV.out,hd.len,hd.val]at kC
    have j7:=f_ (aR.part L i (k1+1+1));have gM:=f_ Pr;rw[Pf.out]at j7
    rw[hd.len]at gM
    have HO:=Lib.hid kC;have vR:=Lib.hid j7;have qN:=Lib.hid gM;have HL:=Lib.hid hd.len;by_cases hlt:win L i (k1+1+1)<qt*(S*lv b)
    ·have hcm:=wF hlt
     rw[hcm]at kC
     have HO':=Lib.hid kC;have yJ:0<qt:=by
      have KB:=hd.bd.1;by_cases h0:qt=0
      ·rw[h0,Int.zero_mul]at hlt
       have:=(jW HW.out.inv.bF i (k1+1+1)).1;omega
      ·omega
     have acS:Q≤qt-1:=by
      have:Q<qt:=by rw[← Vw.out];exact Int.ediv_lt_of_lt_mul Pe.out hlt
      omega
     have hce:=hd.ym.cell i (by rw[List.length_set];exact HIQ.out);rw[cG,if_pos ⟨rfl,HIQ.out⟩]at hce
     have hfr:=hd.ym.free i;have hwq:=cm (qt-1) ⟨by omega,by have:=hd.bd.2;omega⟩;have GY:=Lib.hid (And.intro yJ acS);clear kC j7 gM hd hlt hcm yJ acS HO;go_wp2_with fail
     refine(kL _ _ _ _ Pf.out (by omega) _ Pg.out).mono ?_;rintro e w' ⟨rfl,⟨m1,rfl⟩⟩;go_wp2_with fail
     refine(kL _ _ _ Pr HL.out (by omega) _ (Jv.out.dO _)).mono ?_;rintro e w' ⟨rfl,⟨m2,rfl⟩⟩;go_wp2_with fail
     refine(Cj _ _ _ _ _ _ _ _ vR.out qN.out _ ((Pg.out.take _).dO _) ((Jv.out.take _).dO _)).mono ?_;rintro e w' ⟨rfl,⟨m3,rfl⟩⟩;rw[HO'.out];go_wp2_with fail
     have KI:bU g3 wr ((wr.drewN (m1+m2+m3)).setCell ⟨g3,i,none⟩ (.int .u64 (qt-1))):=((bU.refl g3 wr).dO _).set i _;have cH:cK ((wr.drewN (m1+m2+m3)).setCell ⟨g3,i,none⟩ (.int .u64 (qt-1))) g3 (q.set i (qt-1)):=by
      have:=(oM.out.ym.dO (m1+m2+m3)).set i (qt-1);rw[List.set_set]at this
      exact this
     have Ph:=oM.out.KE.only KI (fun _ ad e=>by cases e;exact(show g2≠g3 by have:=HG.out;omega));refine(Ss g4 0 (k1+1+1) _ Pr (some ⟨g2,0,none⟩) (k1+1) _ y2 Bq.out.1 _ (oM.out.acD.only KI (by omega)) oM.out.bF (by rw[HL.out];omega) (by omega) Ph Bq.out.2 (fun _ ad e=>by cases e;exact n4)).mono ?_;rintro e w' ⟨P2,bb,rfl,Bg,uQ,uR,_,Jw,Jx,tO⟩;have hD1:S*lv b≤qt*(S*lv b):=by
      have:1*(S*lv b)≤qt*(S*lv b):=Int.mul_le_mul_of_nonneg_right (by have:=GY.out.1;omega) (Int.le_of_lt Pe.out);omega
     have rJ:=mS (n:=k1+1+1) (uQ.trans HL.out) uR oM.out.bF HL.out Bq.out.2 (by rw[Bq.out.1];omega) Jw (by rw[oM.out.val,HD.out.2.2.2.2.2.1];exact hD1) (by rw[Bq.out.1];exact Jx);rw[oM.out.val,HD.out.2.2.2.2.2.1]at rJ
     have acT:Below w.heap.size w w':=bU.below (g:=g4) (bU.below (g:=g3) oM.out.below KI (by have h1:=HG.out;omega)) tO (by have h1:=HG.out;have h2:=HG4.out;omega)
     have lG:=Lib.hid (show Ua (S*lv b) Q g1 g2 g3 g4 i k1 y2 L q w (qt-1) P2 w' from
      ⟨(oM.out.AI.only KI (by have h1:=HG.out;omega)).only tO n5,cH.only tO n3,Bg,Ph.only tO (fun _ ad e=>by cases e;exact n4),uQ.trans HL.out,uR,
       by rw[rJ,Int.sub_mul,Int.one_mul],GY.out.2,⟨by have:=GY.out.1;omega,by have:=oM.out.bd.2;omega⟩,acT⟩)
     clear KI cH Ph Bg uQ uR Jw Jx tO hD1 rJ acT;go_wp2
     go_roundg (qt-1).toNat
     case measure=>rw[pQ.out];have:=GY.out.1;omega
     case rel=>exact⟨qt-1,P2,rfl,lG.out⟩
    ·have hge:decide (dX (win L i (k1+1+1)) (qt*(S*lv b))<0)=false:=by
      rcases qY (win L i (k1+1+1)) (qt*(S*lv b)) with ⟨h,hc⟩|⟨h,hc⟩|⟨h,hc⟩ <;> rw[hc] <;> first|rfl|omega
     rw[← kC]at hge
     have hQe:qt=Q:=by
      have h1:qt≤Q:=by rw[← Vw.out];exact Int.le_ediv_of_mul_le Pe.out (by omega)
      have:=hd.ge;omega
     have vS:=Lib.hid (And.intro hQe (show qt*(S*lv b)≤win L i (k1+1+1) by omega));clear kC j7 gM hd hlt hQe;go_wp2_with fail
     refine(kL _ _ _ _ Pf.out (by omega) _ Pg.out).mono ?_;rintro e w' ⟨rfl,⟨m1,rfl⟩⟩;go_wp2_with fail
     refine(kL _ _ _ Pr HL.out (by omega) _ (Jv.out.dO _)).mono ?_;rintro e w' ⟨rfl,⟨m2,rfl⟩⟩;go_wp2_with fail
     refine(Cj _ _ _ _ _ _ _ _ vR.out qN.out _ ((Pg.out.take _).dO _) ((Jv.out.take _).dO _)).mono ?_;rintro e w' ⟨rfl,⟨m3,rfl⟩⟩;go_wp2_with fail
     refine(Ss g1 i (k1+1+1) _ L (some ⟨g4,0,none⟩) (k1+1+1) _ Pr HL.out _ (oM.out.AI.dO _) HW.out.inv.bF (by rw[HW.out.inv.len];omega) (by omega) (Jv.out.dO _) oM.out.bF (fun _ ad e=>by cases e;exact(show g4≠g1 by omega))).mono ?_;rintro e w' ⟨L9,bb,rfl,Bg,uQ,uR,aaV,Jw,Jx,tO⟩;have rJ:=agd uR HL.out Jw (by rw[oM.out.val];exact vS.out.2) Jx;rw[oM.out.val]at rJ
     have Ee:=Pe.out;have hup:win L9 i (k1+1+1)<S*lv b:=by
      have h1:=Int.mul_ediv_add_emod (win L i (k1+1+1)) (S*lv b);have h2:=Int.emod_lt_of_pos (win L i (k1+1+1)) Ee;rw[Vw.out,← vS.out.1,Int.mul_comm]at h1
      omega
     have hst:=HW.out.inv.step (L':=L9) (Q:=qt) HD.out.1 hj oM.out.bd uQ uR aaV rJ hup;have Pj:bU g1 wr w':=⟨tO.os,tO.tape,tO.output,tO.size,tO.block⟩
     have KJ:=Lib.hid (show Ub (S*lv a) (S*lv b) (k1+1) lq g1 g2 g3 y2 w i L9 (q.set i qt) w' from
      ⟨Bg,oM.out.ym.only Pj (show g3≠g1 by have:=HG.out;omega),oM.out.KE.only Pj (fun _ ad e=>by cases e;exact(show g2≠g1 by have:=HG.out;omega)),hst,bU.below (g:=g1) oM.out.below Pj (by have h1:=HG.out;omega)⟩)
     clear Bg uQ uR aaV Jw Jx tO rJ Ee hup hst Pj;go_wp2
     exact⟨⟨i,_,_,by omega,by go_num,KJ.out⟩,by simp[intOf]⟩
  | zero =>
   have h1:decide (0≤((0:Nat):Int)-1)=false:=by simp
   have Ee:0<S*lv b:=by have h1:=HD.out.2.1;have h2:=Bp k1;omega
   obtain⟨f1,f2⟩:=hW.inv.done Ee;obtain⟨hS,dR,gU,JX⟩:=HSS.out;rw[Int.mul_ediv_mul_of_pos _ _ dR]at f1
   rw[Int.mul_emod_mul_of_pos _ _ dR,Int.mul_comm,hS]at f2
   have HF:=Lib.hid f1;have gI:=Lib.hid f2;have HW:=Lib.hid hW;have hq:=Lib.hid (hW.ym.RL (by rw[hW.inv.yl];omega));have hr:=Lib.hid (hW.AI.RL (by rw[hW.inv.len];omega));have GY:=Lib.hid hW.inv.yl;have HLL:=Lib.hid (show L.length=lq+k1+1 by rw[hW.inv.len];omega);clear Ee f1 f2 hS dR gU JX hW;go_wp2_with fail
   refine(kL _ lq _ q GY.out (Nat.le_refl _) _ hq.out).mono ?_;rintro e w' ⟨rfl,⟨m1,rfl⟩⟩;go_wp2_with fail
   refine(ae6 _ (lq+k1+1) _ s L (lv a%lv b) HLL.out (by omega) Dv _ (hr.out.dO _) HW.out.inv.bF gI.out).mono ?_;rintro e w' ⟨u,r,rfl,hr1,hr2,hr3,hr4,fO⟩;go_wp2
   go_ret3
   have iZ:=HW.out.inv.yl;have t1:=f_ q;have t2:=eB q;have t3:=kM q;rw[iZ]at t1 t2 t3
   exact⟨_,u,q.take (bn q lq),r,rfl,aeP iZ ((hq.out.dO _).below fO (Nat.le_refl _)),hr1,HW.out.inv.acC.take _,t3,hr2,hr3,by rw[t2];exact HF.out,hr4,
    (gR HW.out.below _).trans (fO.mono (by have:=HW.out.below.size;simpa using this))⟩
theorem aaW (A0 A1:Option Addr) (n m c0 c1:Nat) (a b:List Int) (hn:a.length=n) (hm:b.length=m) (gp:n≤4000) (jU:m≤4000) (hc0:n≤c0) (hc1:m≤c1) (w:World) (ha:RL w A0 a) (hb:RL w A1 b) (hla:aJ a) (hlb:aJ b) (h0:lv b≠0) :
  Calls Tryz.prog 118 #[.slice A0 n c0,.slice A1 m c1] w (Ob (lv a) (lv b) w):=by
 by_cases hlt:lv a<lv b
 ·exact Q5 A0 A1 n m c0 c1 a b hn hm gp jU hc0 hc1 w ha hb hla hlb hlt
 ·have h1:bn b m≠0:=by
   intro h;apply h0;rw[← eB b,hm,h];exact mW
  by_cases h2:bn b m=1
  ·exact div_one A0 A1 n m c0 c1 a b hn hm gp jU hc0 hc1 w ha hb hla hlb (by omega) h2
  ·exact agj A0 A1 n m c0 c1 a b hn hm gp jU hc0 hc1 w ha hb hla hlb (by omega) (by omega)
end Go.Proofs.YtfcjnhkkfmgmpaaGreat
