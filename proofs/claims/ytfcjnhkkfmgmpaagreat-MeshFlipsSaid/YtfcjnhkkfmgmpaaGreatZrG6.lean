import Derived.Test.YtfcjnhkkfmgmpaaGreatZrG5
import Derived.Deep.RegionHeld3
set_option linter.all false
set_option maxRecDepth 100000
set_option maxHeartbeats 8000000
namespace Go.Proofs.YtfcjnhkkfmgmpaaGreat
open Go.RowKit Num
theorem cell_far (w:World) (g j:Nat) (v:Value) (h o:Nat) (hne:¬ h=g):(w.setCell ⟨g,j,none⟩ v).cell? ⟨h,o,none⟩=w.cell? ⟨h,o,none⟩ :=
 World.cell?_of_block (w:=w) (Below.heap_setCell _ _ _ _ hne)
theorem blk_part {w:World} {g:Nat} {l:List Int} (h:Blk w g l) {o m:Nat} (ho:o+m≤l.length) (hm:m≤100000):RL w (some ⟨g,o,none⟩) (Num.part l o m):=by
 refine⟨by rw[part_len ho];omega,fun hn=>⟨_,rfl,fun j hj=>?_⟩⟩;rw[part_len ho]at hj
 rw[lg_part,if_pos hj];have:=h.cell (o+j) (by omega);unfold Addr.add;split
 ·rename_i h0;subst h0;exact this
 ·exact this
structure DigI (D Q:Int) (g1 g2 g3 g4 i k1:Nat) (y2 L q:List Int) (w:World) (qt:Int) (Pr:List Int) (w1:World):Prop where
 blk1:Blk w1 g1 L
 blk3:Blk w1 g3 (q.set i qt)
 blk4:Blk w1 g4 Pr
 by_:RL w1 (some ⟨g2,0,none⟩) y2
 len:Pr.length=k1+1+1
 lim:Lim Pr
 val:lv Pr=qt*D
 ge:Q≤qt
 bd:0≤qt∧qt<B
 below:Below w.heap.size w w1
theorem guess_bd {h n t:Int} (hh:0≤h) (hn:0≤n∧n<B) (ht:0<t):0≤guessI h n t∧guessI h n t<B:=by
 unfold guessI;split
 ·rw[B_eq];omega
 ·have h1:0≤h*B:=Int.mul_nonneg hh (by decide)
  refine⟨Int.ediv_nonneg (by omega) (by omega),Int.ediv_lt_of_lt_mul ht ?_⟩;have h2:(h+1)*B≤t*B:=Int.mul_le_mul_of_nonneg_right (by omega) (by decide);have h3:(h+1)*B=h*B+B:=by grind
  have h4:B*t=t*B:=Int.mul_comm _ _;omega
theorem lv_top {y:List Int} {k1:Nat} (hl:y.length=k1+1) (hy:Lim y):lg y k1*B^k1≤lv y∧0≤lv y:=by
 have e:lv y=sumB (lg y) k1+lg y k1*B^k1:=by unfold lv;rw[hl];rfl
 have b:=sumB_bd k1 hy;exact⟨by omega,(lv_bd hy).1⟩
theorem guess_win {R0 D:Int} {k1 lq i:Nat} {L q:List Int} {top:Int} (h:DivI R0 D (k1+1) lq (i+1) L q) (hD:top*B^k1≤D) (htop:0<top) :
  win L i (k1+1+1) / D≤guessI (lg L (i+(k1+1))) (lg L (i+k1)) top:=by
 refine guess_ge (Bp k1) (low:=win L i k1) ?_ (win_bd h.lim _ _) hD htop (h.lim _).1 (h.lim _).1 h.part.2;rw[win_s,win_s,Bs];grind
theorem isrow_trim {w:World} {A:Option Addr} {q:List Int} {n:Nat} (hn:q.length=n) (hr:RL w A q):IsRow w (.slice A (trimN q n) (trimN q n)) (q.take (trimN q n)):=by
 subst hn;exact⟨A,_,by rw[take_trim_len],by rw[take_trim_len];exact Nat.le_refl _,hr.take _⟩
structure DivW (R0 D:Int) (k lq g1 g2 g3:Nat) (y2:List Int) (w:World) (j:Nat) (L q:List Int) (w1:World):Prop where
 blk1:Blk w1 g1 L
 blk3:Blk w1 g3 q
 by_:RL w1 (some ⟨g2,0,none⟩) y2
 inv:DivI R0 D k lq j L q
 below:Below w.heap.size w w1
theorem div_many (A0 A1:Option Addr) (n m c0 c1:Nat) (a b:List Int) (hn:a.length=n) (hm:b.length=m) (hn4:n≤4000) (hm4:m≤4000) (hc0:n≤c0) (hc1:m≤c1) (w:World) (ha:RL w A0 a) (hb:RL w A1 b) (hla:Lim a) (hlb:Lim b)
  (hle:lv b≤lv a) (h1:2≤trimN b m) :
  Calls Tryz.prog 118 #[.slice A0 n c0,.slice A1 m c1] w (DivP (lv a) (lv b) w):=by
 have hb0:Below w.heap.size w (w.alloc (.cells #[.slice A0 n c0,.slice A1 m c1] 124)):=(Below.refl _ _).alloc (Nat.le_refl _) _;have HA1:=Lib.hid (ha.below hb0 (Nat.le_refl _));have HB1:=Lib.hid (hb.below hb0 (Nat.le_refl _));have HN:=Lib.hid hn;have HM:=Lib.hid hm;have hord:=ordL_val (hla.take (trimN a a.length)) (hlb.take (trimN b b.length)) (Tr_trim a) (Tr_trim b);rw[lv_trim,lv_trim,take_trim_len,take_trim_len,hn,hm]at hord
 have h2:decide (cmpI (lv a) (lv b)<0)=false:=by
  rcases cmpI_cases (lv a) (lv b) with ⟨h,hc⟩|⟨h,hc⟩|⟨h,hc⟩ <;> rw[hc] <;> first|rfl|omega
 rw[← hord]at h2
 have hpl:=take_trim_len a;have hql:=take_trim_len b;rw[hn]at hpl
 rw[hm]at hql
 have hva:lv (a.take (trimN a n))=lv a:=by rw[← hn];exact lv_trim a
 have hvb:lv (b.take (trimN b m))=lv b:=by rw[← hm];exact lv_trim b
 have htb:Tr (b.take (trimN b m)):=by rw[← hm];exact Tr_trim b
 have hp4:=trimN_le a n;have hq4:=trimN_le b m;have hqp:trimN b m≤trimN a n:=by
  rw[← hpl,← hql];apply Nat.le_of_not_lt;intro hgt;have:=lv_lt_of_len (hla.take (trimN a n)) (hlb.take (trimN b m)) htb hgt;rw[hva,hvb]at this
  omega
 have hlx:=hla.take (trimN a n);have hly:=hlb.take (trimN b m);have HXR:=Lib.hid (HA1.out.take (trimN a n));have hyr:=HB1.out.take (trimN b m);generalize hx:a.take (trimN a n)=x at *;generalize hy:b.take (trimN b m)=y at *;generalize hp:trimN a n=p at *;generalize hk:trimN b m=k at *;have hz1:((k:Int)==0)=false:=beq_eq_false_iff_ne.mpr (by omega);have hz2:((k:Int)==1)=false:=beq_eq_false_iff_ne.mpr (by omega);obtain⟨k1,rfl⟩:∃ k1,k=k1+1:=⟨k-1,by omega⟩
 obtain⟨lq,rfl⟩:∃ lq,p=lq+k1:=⟨p-k1,by omega⟩
 have htop:0<lg y k1∧lg y k1<B:=by
  have:=hly k1;rcases htb with h|h
  ·omega
  ·rw[hql]at h
   exact⟨by have:lg y k1≠0:=h;omega,this.2⟩
 obtain⟨s,hs,hs63,hs1,hs2⟩:=lz_spec (lg y k1) htop.1 htop.2;obtain⟨bd,rfl,hcb⟩:=hyr.2 (by omega);have hcbt:=hcb k1 (by omega);have HLZ:=Lib.hid (lz_c (lg y k1) ⟨by omega,htop.2⟩);have HP:=Lib.hid hpl;have HQ:=Lib.hid hql;have HO:=Lib.hid h2;have HTA:=Lib.hid hp;have HTB:=Lib.hid hk;have HYR:=Lib.hid hyr;have HSZ:=Lib.hid hs;have HS:=Lib.hid hb0;have HV:=Lib.hid (And.intro hva (And.intro hvb (And.intro hlx (And.intro hly (And.intro htop (And.intro hs1 hs2))))));clear ha hb hn hm hla hlb hpl hql hb0 hord h2 hva hvb htb hlx hly hx hy hp hk htop hs hs1 hs2 hyr hcb h1;go_enter Tryz.func118,Tryz.ntmps118;go_wp2_with fail
 refine(long2 _ _ _ _ _ _ _ hn4 hm4).mono ?_;rintro e w' ⟨rfl,rfl⟩;go_wp2_with fail
 refine(trimmed_c _ _ _ a HN.out hc0 _ HA1.out).mono ?_;rintro e w5 ⟨rfl,⟨nd,rfl⟩⟩;go_wp2_with fail
 refine(trimmed_c _ _ _ b HM.out hc1 _ (HB1.out.drN _)).mono ?_;rintro e w5 ⟨rfl,⟨nd2,rfl⟩⟩;rw[HTA.out,HTB.out];go_wp2_with fail
 refine(order_c _ _ _ _ _ _ x y HP.out HQ.out _ (HXR.out.drN _) (HYR.out.drN _)).mono ?_;rintro e w5 ⟨rfl,⟨nd3,rfl⟩⟩;have HO2:=HO.out;go_wp2_with fail
 refine(HLZ.out _).mono ?_;rintro e w5 ⟨rfl,rfl⟩;rw[HSZ.out];clear HO2;go_wp2_with fail
 refine(shifted_c _ (lq+k1) _ s x HP.out (by omega) hs63 _ (HXR.out.drN _) HV.out.2.2.1).mono ?_;rintro e w6 ⟨g1,L0,rfl,hg1,hk1,hl1,hli1,hlv1,hbw1⟩;go_wp2_with fail
 refine(shifted_c _ (k1+1) _ s y HQ.out (by omega) hs63 _ ((HYR.out.drN _).below hbw1 (Nat.le_refl _)) HV.out.2.2.2.1).mono ?_;rintro e w7 ⟨g2,L2,rfl,hg2,hk2,hl2,hli2,hlv2,hbw2⟩;go_wp2_with fail
 refine(trimmed_c _ _ _ L2 hl2 (by omega) _ (hk2.RL (by omega))).mono ?_;rintro e w8 ⟨rfl,⟨nd8,rfl⟩⟩;obtain⟨S,hS⟩:∃ S:Int,S=2^s:=⟨_,rfl⟩
 have hS0:0<S:=by rw[hS];exact Int.pow_pos (by decide)
 obtain⟨T,hT⟩:∃ T:Int,T=2^(64-s):=⟨_,rfl⟩
 have hST:S*T=B:=by
  rw[hS,hT,← Int.pow_add,show s+(64-s)=64 by omega];rfl
 have hS63:S≤9223372036854775808:=by
  have:(2:Int)^s≤2^63:=by exact_mod_cast Nat.pow_le_pow_right (show 0<2 by omega) hs63
  rw[hS];exact this
 obtain⟨v1,v2,v3,v4,v5,v6,v7⟩:=HV.out;rw[← hS]at hlv1 hlv2 v6 v7
 rw[v1]at hlv1
 rw[v2]at hlv2
 obtain⟨d1,d2⟩:=norm_div HQ.out v4 hS0 hST v6 v7;rw[v2]at d1 d2
 have htr:=Tr_trim L2;have hlt:=lv_trim L2;have hle2:=take_trim_len L2;have hlb:=hli2.take (trimN L2 L2.length);rw[hl2]at htr hlt hle2 hlb
 rw[hlv2]at hlt
 have hky:=len_eq hlb htr (by rw[hlt];exact d1) (by rw[hlt];have:=Bp k1;omega);rw[hle2]at hky
 have htop:=top_half hlb (by rw[hle2];exact hky) (by rw[hlt];exact d2);have hbyr:=(hk2.RL (by omega)).take (trimN L2 (k1+1+1));rw[hky]at hlt hle2 hlb htop hbyr htr
 generalize hby:L2.take (k1+1)=y2 at *;have hb7:Below w.heap.size w w7:=((bdrN HS.out _).trans (hbw1.mono (by simp))).trans (hbw2.mono (by have:=hbw1.size;simp at this;omega));have hg1lt:=hk1.lt;have hk1':=hk1.below hbw2 hg1lt;have hg2lt:=hk2.lt;have hg1s:w.heap.size<g1:=by have:=hg1;simp at this;omega
 have hi0:=DivI.start (R0:=S*lv a) (D:=S*lv b) (k:=k1+1) (lq:=lq) (L:=L0) (q:=List.replicate lq 0) (n:=lq+k1) (by rw[hl1];omega) (by omega) hli1 (by simp) (Lim_zero _) hlv1 rfl (by
  have:=(lv_bd v3).2;rw[HP.out,v1]at this;exact this) ⟨hS0,hS63⟩ (by omega) (by rw[Nat.add_sub_cancel];exact d2)
 have hmk:=make_run lq (by omega);rw[show(lq:Int)=(lq:Int)+(k1:Int)+1-((k1:Int)+1) by omega]at hmk
 rw[hky];have HI0:=Lib.hid hi0;have HD:=Lib.hid (And.intro d1 (And.intro d2 (And.intro htop (And.intro hlb (And.intro hle2 (And.intro hlt (And.intro htr hl1)))))));have HSS:=Lib.hid (And.intro hS (And.intro hS0 (And.intro hST hS63)));have HB7:=Lib.hid hb7;have HK1:=Lib.hid hk1';have HBY:=Lib.hid hbyr;have HL1:=Lib.hid hl1;clear hS hS0 hT hST hS63 v1 v2 v3 v4 v5 v6 v7 hlv1 hlv2 d1 d2 htr hlt hle2 hlb hky htop hbyr hby hb7 hk1 hk1' hk2 hl1 hl2 hli1 hli2 hbw1 hbw2 hi0;go_wp2
 have hb8:Below w7.heap.size w7 ((w7.drewN nd8).alloc (.cells (madeCells #[.int .u64 0] lq) 122)):=(bdrN (Below.refl _ _) nd8).alloc (Nat.le_refl _) _;have hk3:=made_blk (w7.drewN nd8) lq;have hb9:=HB7.out.trans (hb8.mono HB7.out.size);have hk1b:=HK1.out.below hb8 HK1.out.lt;have hbyb:=HBY.out.below hb8 (Nat.le_refl _);have hg31:g1<w7.heap.size:=HK1.out.lt;have hg3s:w.heap.size<w7.heap.size:=by omega
 generalize hw9:(w7.drewN nd8).alloc (.cells (madeCells #[.int .u64 0] lq) 122)=w9 at *;rw[show(w7.drewN nd8).heap.size=w7.heap.size from rfl]at hk3
 generalize hg3:w7.heap.size=g3 at *;clear hw9 hb8 hmk;have HW0:=Lib.hid (show DivW (S*lv a) (S*lv b) (k1+1) lq g1 g2 g3 y2 w lq L0 (List.replicate lq 0) w9 from ⟨hk1b,hk3,hbyb,HI0.out,hb9⟩);have hg12:g1<g2:=by omega
 have HG:=Lib.hid (And.intro hg1s (And.intro hg31 (And.intro hg3s (And.intro hg12 hg2lt))));clear hg12 hk1b hk3 hbyb hb9 hg1s hg31 hg3s hg1 hg2 hg1lt hg2lt hg3;go_loopw [14,15,16] (fun t _ _ w1=>∃ (j:Nat) (L q:List Int),j≤lq∧t = .int .i64 ((j:Int)-1)∧DivW (S*lv a) (S*lv b) (k1+1) lq g1 g2 g3 y2 w j L q w1) (fun t _ _ _=>(intOf t+1).toNat)
 case atStart=>exact⟨lq,_,_,Nat.le_refl _,rfl,HW0.out⟩
 case round =>
  obtain⟨j,L,q,hj,rfl,hW⟩:=hrel;cases j with
  | succ i =>
   have h1:decide (0≤((i+1:Nat):Int)-1)=true:=by simp
   have e1:((i+1:Nat):Int)-1=(i:Int):=by omega
   rw[e1]at h1 ⊢
   clear e1;have HW:=Lib.hid hW;have c1:=hW.blk1.cell (i+(k1+1)) (by rw[hW.inv.len];omega);have c2:=hW.blk1.cell (i+k1) (by rw[hW.inv.len];omega);have c3:=hW.by_.cell k1 (by rw[HD.out.2.2.2.2.1];omega);rw[Nat.zero_add]at c3
   have c4:=hW.blk3.cell i (by rw[hW.inv.qlen];omega);have c5:=hW.blk3.free i;clear hW;have hg:=guess_c (lg L (i+(k1+1))) (lg L (i+k1)) (lg y2 k1) (HW.out.inv.lim _).1 (HW.out.inv.lim _) (HD.out.2.2.2.1 k1).2;have HGU:=Lib.hid hg;clear hg;go_wp2
   rw[show i+(k1+1)+1-i=k1+1+1 by omega];have b1:(k1:Int)+1<(k1:Int)+1+1:=by omega
   have b2:(0:Int)≤(k1:Int)+1:=by omega
   have b3:IntKind.i64.wrap ((k1:Int)+1-1)=(k1:Int):=by rw[show(k1:Int)+1-1=(k1:Int) by omega];exact IntWalk.i64_in _ (by omega)
   have b4:(k1:Int)<(k1:Int)+1+1:=by omega
   have b5:(k1:Int)<(k1:Int)+1:=by omega
   have b6:(0:Int)≤(k1:Int):=by omega
   have b7:IntKind.i64.wrap (k1:Int)=(k1:Int):=IntWalk.i64_in _ (by omega);have b8:(i:Int)<(lq:Int):=by omega
   have b9:(0:Int)≤(i:Int):=by omega
   have n1:¬ g1=g3:=by have:=HG.out;omega
   have n2:¬ g2=g3:=by have:=HG.out;omega
   go_region_held3 (fun w'=>w'.cell? ⟨g1,i+(k1+1),none⟩=some (.int .u64 (lg L (i+(k1+1))))∧w'.cell? ⟨g1,i+k1,none⟩=some (.int .u64 (lg L (i+k1)))∧w'.cell? ⟨g2,k1,none⟩=some (.int .u64 (lg y2 k1))) (first|go_keep|exact⟨(cell_far _ _ _ _ _ _ n1).trans c1,(cell_far _ _ _ _ _ _ n1).trans c2,(cell_far _ _ _ _ _ _ n2).trans c3⟩)
    (first|(go_at_call 131;refine(HGU.out _).mono ?_;rintro e w' ⟨rfl,⟨nd,rfl⟩⟩))
   obtain⟨qh,hqh⟩:∃ qh,guessI (lg L (i+(k1+1))) (lg L (i+k1)) (lg y2 k1)=qh:=⟨_,rfl⟩
   rw[hqh];clear b1 b2 b3 b4 b5 b6 b7 b8 b9 c1 c2 c3 c4 c5;have hB3:Blk ((wr.drewN (1+nd)).setCell ⟨g3,i,none⟩ (.int .u64 qh)) g3 (q.set i qh):=(HW.out.blk3.drN (1+nd)).set i qh;have hO3:Only g3 wr ((wr.drewN (1+nd)).setCell ⟨g3,i,none⟩ (.int .u64 qh)):=((Only.refl g3 wr).drN (1+nd)).set i _;have hB1:=HW.out.blk1.only hO3 n1;have hBy:=HW.out.by_.only hO3 (fun _ ad e=>by cases e;exact n2);have hBl:=Only.below HW.out.below hO3 (by have:=HG.out;omega);have hsz:g3<(((wr.drewN (1+nd)).setCell ⟨g3,i,none⟩ (.int .u64 qh))).heap.size:=hB3.lt;generalize (wr.drewN (1+nd)).setCell ⟨g3,i,none⟩ (.int .u64 qh)=W1 at *;have hmk2:=make_run (k1+1+1) (by omega);rw[show((k1+1+1:Nat):Int)=(k1:Int)+1+1 by omega]at hmk2
   have hb10:Below W1.heap.size W1 (W1.alloc (.cells (madeCells #[.int .u64 0] (k1+1+1)) 122)):=(Below.refl _ _).alloc (Nat.le_refl _) _;have hk4:=made_blk W1 (k1+1+1);have hB3':=hB3.below hb10 hB3.lt;have hB1':=hB1.below hb10 hB1.lt;have hBy':=hBy.below hb10 (Nat.le_refl _);have hg2':g2<W1.heap.size:=hBy.lt (by rw[HD.out.2.2.2.2.1];omega) _ rfl;have hg1':=hB1.lt;have hBl':=hBl.trans (hb10.mono hBl.size);go_wp2
   generalize W1.alloc (.cells (madeCells #[.int .u64 0] (k1+1+1)) 122)=W2 at *;generalize hg4:W1.heap.size=g4 at *;clear hmk2 hb10 hB3 hB1 hBy hBl hO3;have hq3:i<q.length:=by rw[HW.out.inv.qlen];omega
   have c1:=hB3'.cell i (by rw[List.length_set];exact hq3);rw[lg_set,if_pos ⟨rfl,hq3⟩]at c1
   have hlen2:=HD.out.2.2.2.2.1;have hlim2:=HD.out.2.2.2.1;have hqB:0≤qh∧qh<B:=by
    rw[← hqh];exact guess_bd (HW.out.inv.lim _).1 (HW.out.inv.lim _) (by have:=HD.out.2.2.1;omega)
   have n3:¬ g3=g4:=by omega
   have n4:¬ g2=g4:=by omega
   have n5:¬ g1=g4:=by omega
   have b1:(i:Int)<(lq:Int):=by omega
   have b2:(0:Int)≤(i:Int):=by omega
   have b3:(k1:Int)+1<(k1:Int)+1+1:=by omega
   have b4:(0:Int)≤(k1:Int)+1:=by omega
   have b5:(k1:Int)+1≤(k1:Int)+1+1:=by omega
   have HADD:=Lib.hid (fun (W:World) (c c':Nat) (hk:Blk W g4 (List.replicate (k1+1+1) 0)) (hr:RL W (some ⟨g2,0,none⟩) y2)=>addProduct_c g4 0 (k1+1) c (List.replicate (k1+1+1) 0) (some ⟨g2,0,none⟩) c' y2 qh hlen2 W hk (Lim_zero _) (by simp) hr hlim2 (fun _ ad e=>by cases e;exact n4) hqB);have H4:=Lib.hid hk4;have HG4:=Lib.hid hsz;have HY4:=Lib.hid hBy';have HB34:=Lib.hid hB3';have HB14:=Lib.hid hB1';have HBL:=Lib.hid hBl';have HQB:=Lib.hid hqB;have H22:=Lib.hid (And.intro hlen2 hlim2);clear hk4 hBy' hB3' hB1' hBl' hqB hlen2 hlim2 hsz hq3 hg2' hg1'
   go_region_held3 (fun w'=>w'.cell? ⟨g3,i,none⟩=some (.int .u64 qh)) (first|go_keep|exact(World.cell?_of_block (honly.block _ n3)).trans c1|exact(cell_far _ _ _ _ _ _ n3).trans ((World.cell?_of_block (honly.block _ n3)).trans c1))
    (first|(go_at_call 132;refine(HADD.out _ _ _ (by exact H4.out) (by exact HY4.out)).mono ?_;rintro e w' ⟨Pr,c,rfl,hkp,hlenp,hlimp,hfarp,hcp,hvalp,honly⟩;have hcep:=hkp.cell (k1+1) (by rw[hlenp];simp);have hfrp:=hkp.free (k1+1)))
   obtain⟨Q,hQ⟩:∃ Q,win L i (k1+1+1) / (S*lv b)=Q:=⟨_,rfl⟩
   have HGE:Q≤qh:=by
    rw[← hQ,← hqh];exact guess_win HW.out.inv (k1:=k1) (by rw[← HD.out.2.2.2.2.2.1];exact(lv_top H22.out.1 H22.out.2).1) (by have:=HD.out.2.2.1;omega)
   have hO4:Only g4 W2 (w'.setCell ⟨g4,k1+1,none⟩ (.int .u64 c)):=⟨(honly.set (k1+1) (.int .u64 c)).os,(honly.set (k1+1) (.int .u64 c)).tape,(honly.set (k1+1) (.int .u64 c)).output,(honly.set (k1+1) (.int .u64 c)).size,(honly.set (k1+1) (.int .u64 c)).block⟩
   have hbl3:Below w.heap.size w (w'.setCell ⟨g4,k1+1,none⟩ (.int .u64 c)):=Only.below (g:=g4) HBL.out hO4 (by have h1:=HG.out;have h2:=HG4.out;omega)
   have HD0:=Lib.hid (show DigI (S*lv b) Q g1 g2 g3 g4 i k1 y2 L q w qh (Pr.set (k1+1) c) (w'.setCell ⟨g4,k1+1,none⟩ (.int .u64 c)) from
    ⟨HB14.out.only hO4 n5,HB34.out.only hO4 n3,hkp.set _ _,HY4.out.only hO4 (fun _ ad e=>by cases e;exact n4),by rw[List.length_set,hlenp];simp,hlimp.set _ hcp,
     (prod_val (by rw[hlenp];simp) H22.out.1 hvalp).trans (by rw[HD.out.2.2.2.2.2.1]),HGE,HQB.out,hbl3⟩)
   generalize w'.setCell ⟨g4,k1+1,none⟩ (.int .u64 c)=W3 at *;clear hbl3 hO4 honly hkp hlenp hlimp hfarp hcp hvalp hcep hfrp c1 b1 b2 b3 b4 b5 hqh;go_wp2
   have HDp:Hid (0<S*lv b):=Lib.hid (by have h1:=HD.out.2.1;have h2:=Bp k1;omega);have HQQ:=Lib.hid hQ;have HPL:=Lib.hid (part_len (l:=L) (o:=i) (m:=k1+1+1) (by rw[HW.out.inv.len];omega));have HPV:=Lib.hid (lv_part (l:=L) (o:=i) (m:=k1+1+1) (by rw[HW.out.inv.len];omega));have HPM:=Lib.hid (HW.out.inv.lim.part i (k1+1+1));have HIQ:=Lib.hid (show i<q.length by rw[HW.out.inv.qlen];omega);clear hQ HGE n1 n2;go_loopg [] (qh.toNat) (fun gk w1=>∃ (qt:Int) (Pr:List Int),Hid (gk=qt.toNat)∧DigI (S*lv b) Q g1 g2 g3 g4 i k1 y2 L q w qt Pr w1)
   case atStart=>exact⟨qh,_,rfl,HD0.out⟩
   case round =>
    obtain⟨qt,Pr,hgk,hd⟩:=hrel;have HDD:=Lib.hid hd;have hpr:=Lib.hid (blk_part hd.blk1 (o:=i) (m:=k1+1+1) (by rw[HW.out.inv.len];omega) (by omega));have hprod:=Lib.hid (hd.blk4.RL (by rw[hd.len];omega));have hord:=ordL_val (HPM.out.take (trimN (Num.part L i (k1+1+1)) (Num.part L i (k1+1+1)).length)) (hd.lim.take (trimN Pr Pr.length)) (Tr_trim _) (Tr_trim _);rw[lv_trim,lv_trim,take_trim_len,take_trim_len,HPL.out,HPV.out,hd.len,hd.val]at hord
    have ht1:=take_trim_len (Num.part L i (k1+1+1));have ht2:=take_trim_len Pr;rw[HPL.out]at ht1
    rw[hd.len]at ht2
    have HO:=Lib.hid hord;have HT1:=Lib.hid ht1;have HT2:=Lib.hid ht2;have HL:=Lib.hid hd.len;by_cases hlt:win L i (k1+1+1)<qt*(S*lv b)
    ·have hcm:=cmpI_lt hlt
     rw[hcm]at hord
     have HO':=Lib.hid hord;have hqp:0<qt:=by
      have hq0:=hd.bd.1;by_cases h0:qt=0
      ·rw[h0,Int.zero_mul]at hlt
       have:=(win_bd HW.out.inv.lim i (k1+1+1)).1;omega
      ·omega
     have hQlt:Q≤qt-1:=by
      have:Q<qt:=by rw[← HQQ.out];exact Int.ediv_lt_of_lt_mul HDp.out hlt
      omega
     have hce:=hd.blk3.cell i (by rw[List.length_set];exact HIQ.out);rw[lg_set,if_pos ⟨rfl,HIQ.out⟩]at hce
     have hfr:=hd.blk3.free i;have hwq:=wrap_u (qt-1) ⟨by omega,by have:=hd.bd.2;omega⟩;have HQL:=Lib.hid (And.intro hqp hQlt);clear hord ht1 ht2 hd hlt hcm hqp hQlt HO;go_wp2_with fail
     refine(trimmed_c _ _ _ _ HPL.out (by omega) _ hpr.out).mono ?_;rintro e w' ⟨rfl,⟨m1,rfl⟩⟩;go_wp2_with fail
     refine(trimmed_c _ _ _ Pr HL.out (by omega) _ (hprod.out.drN _)).mono ?_;rintro e w' ⟨rfl,⟨m2,rfl⟩⟩;go_wp2_with fail
     refine(order_c _ _ _ _ _ _ _ _ HT1.out HT2.out _ ((hpr.out.take _).drN _) ((hprod.out.take _).drN _)).mono ?_;rintro e w' ⟨rfl,⟨m3,rfl⟩⟩;rw[HO'.out];go_wp2_with fail
     have hO5:Only g3 wr ((wr.drewN (m1+m2+m3)).setCell ⟨g3,i,none⟩ (.int .u64 (qt-1))):=((Only.refl g3 wr).drN _).set i _;have hb5:Blk ((wr.drewN (m1+m2+m3)).setCell ⟨g3,i,none⟩ (.int .u64 (qt-1))) g3 (q.set i (qt-1)):=by
      have:=(HDD.out.blk3.drN (m1+m2+m3)).set i (qt-1);rw[List.set_set]at this
      exact this
     have hy5:=HDD.out.by_.only hO5 (fun _ ad e=>by cases e;exact(show g2≠g3 by have:=HG.out;omega));refine(take_c g4 0 (k1+1+1) _ Pr (some ⟨g2,0,none⟩) (k1+1) _ y2 H22.out.1 _ (HDD.out.blk4.only hO5 (by omega)) HDD.out.lim (by rw[HL.out];omega) (by omega) hy5 H22.out.2 (fun _ ad e=>by cases e;exact n4)).mono ?_;rintro e w' ⟨P2,bb,rfl,hk6,hlen6,hlim6,_,hbit6,hval6,honly6⟩;have hD1:S*lv b≤qt*(S*lv b):=by
      have:1*(S*lv b)≤qt*(S*lv b):=Int.mul_le_mul_of_nonneg_right (by have:=HQL.out.1;omega) (Int.le_of_lt HDp.out);omega
     have hfin:=take_end (n:=k1+1+1) (hlen6.trans HL.out) hlim6 HDD.out.lim HL.out H22.out.2 (by rw[H22.out.1];omega) hbit6 (by rw[HDD.out.val,HD.out.2.2.2.2.2.1];exact hD1) (by rw[H22.out.1];exact hval6);rw[HDD.out.val,HD.out.2.2.2.2.2.1]at hfin
     have hbl6:Below w.heap.size w w':=Only.below (g:=g4) (Only.below (g:=g3) HDD.out.below hO5 (by have h1:=HG.out;omega)) honly6 (by have h1:=HG.out;have h2:=HG4.out;omega)
     have HN5:=Lib.hid (show DigI (S*lv b) Q g1 g2 g3 g4 i k1 y2 L q w (qt-1) P2 w' from
      ⟨(HDD.out.blk1.only hO5 (by have h1:=HG.out;omega)).only honly6 n5,hb5.only honly6 n3,hk6,hy5.only honly6 (fun _ ad e=>by cases e;exact n4),hlen6.trans HL.out,hlim6,
       by rw[hfin,Int.sub_mul,Int.one_mul],HQL.out.2,⟨by have:=HQL.out.1;omega,by have:=HDD.out.bd.2;omega⟩,hbl6⟩)
     clear hO5 hb5 hy5 hk6 hlen6 hlim6 hbit6 hval6 honly6 hD1 hfin hbl6;go_wp2
     go_roundg (qt-1).toNat
     case measure=>rw[hgk.out];have:=HQL.out.1;omega
     case rel=>exact⟨qt-1,P2,rfl,HN5.out⟩
    ·have hge:decide (cmpI (win L i (k1+1+1)) (qt*(S*lv b))<0)=false:=by
      rcases cmpI_cases (win L i (k1+1+1)) (qt*(S*lv b)) with ⟨h,hc⟩|⟨h,hc⟩|⟨h,hc⟩ <;> rw[hc] <;> first|rfl|omega
     rw[← hord]at hge
     have hQe:qt=Q:=by
      have h1:qt≤Q:=by rw[← HQQ.out];exact Int.le_ediv_of_mul_le HDp.out (by omega)
      have:=hd.ge;omega
     have HQE:=Lib.hid (And.intro hQe (show qt*(S*lv b)≤win L i (k1+1+1) by omega));clear hord ht1 ht2 hd hlt hQe;go_wp2_with fail
     refine(trimmed_c _ _ _ _ HPL.out (by omega) _ hpr.out).mono ?_;rintro e w' ⟨rfl,⟨m1,rfl⟩⟩;go_wp2_with fail
     refine(trimmed_c _ _ _ Pr HL.out (by omega) _ (hprod.out.drN _)).mono ?_;rintro e w' ⟨rfl,⟨m2,rfl⟩⟩;go_wp2_with fail
     refine(order_c _ _ _ _ _ _ _ _ HT1.out HT2.out _ ((hpr.out.take _).drN _) ((hprod.out.take _).drN _)).mono ?_;rintro e w' ⟨rfl,⟨m3,rfl⟩⟩;go_wp2_with fail
     refine(take_c g1 i (k1+1+1) _ L (some ⟨g4,0,none⟩) (k1+1+1) _ Pr HL.out _ (HDD.out.blk1.drN _) HW.out.inv.lim (by rw[HW.out.inv.len];omega) (by omega) (hprod.out.drN _) HDD.out.lim (fun _ ad e=>by cases e;exact(show g4≠g1 by omega))).mono ?_;rintro e w' ⟨L9,bb,rfl,hk6,hlen6,hlim6,hfar6,hbit6,hval6,honly6⟩;have hfin:=take_win hlim6 HL.out hbit6 (by rw[HDD.out.val];exact HQE.out.2) hval6;rw[HDD.out.val]at hfin
     have hDp:=HDp.out;have hup:win L9 i (k1+1+1)<S*lv b:=by
      have h1:=Int.mul_ediv_add_emod (win L i (k1+1+1)) (S*lv b);have h2:=Int.emod_lt_of_pos (win L i (k1+1+1)) hDp;rw[HQQ.out,← HQE.out.1,Int.mul_comm]at h1
      omega
     have hst:=HW.out.inv.step (L':=L9) (Q:=qt) HD.out.1 hj HDD.out.bd hlen6 hlim6 hfar6 hfin hup;have ho7:Only g1 wr w':=⟨honly6.os,honly6.tape,honly6.output,honly6.size,honly6.block⟩
     have HN9:=Lib.hid (show DivW (S*lv a) (S*lv b) (k1+1) lq g1 g2 g3 y2 w i L9 (q.set i qt) w' from
      ⟨hk6,HDD.out.blk3.only ho7 (show g3≠g1 by have:=HG.out;omega),HDD.out.by_.only ho7 (fun _ ad e=>by cases e;exact(show g2≠g1 by have:=HG.out;omega)),hst,Only.below (g:=g1) HDD.out.below ho7 (by have h1:=HG.out;omega)⟩)
     clear hk6 hlen6 hlim6 hfar6 hbit6 hval6 honly6 hfin hDp hup hst ho7;go_wp2
     exact⟨⟨i,_,_,by omega,by go_num,HN9.out⟩,by simp[intOf]⟩
  | zero =>
   have h1:decide (0≤((0:Nat):Int)-1)=false:=by simp
   have hDp:0<S*lv b:=by have h1:=HD.out.2.1;have h2:=Bp k1;omega
   obtain⟨f1,f2⟩:=hW.inv.done hDp;obtain⟨hS,hS0,hST,hS63⟩:=HSS.out;rw[Int.mul_ediv_mul_of_pos _ _ hS0]at f1
   rw[Int.mul_emod_mul_of_pos _ _ hS0,Int.mul_comm,hS]at f2
   have HF:=Lib.hid f1;have HF2:=Lib.hid f2;have HW:=Lib.hid hW;have hq:=Lib.hid (hW.blk3.RL (by rw[hW.inv.qlen];omega));have hr:=Lib.hid (hW.blk1.RL (by rw[hW.inv.len];omega));have HQL:=Lib.hid hW.inv.qlen;have HLL:=Lib.hid (show L.length=lq+k1+1 by rw[hW.inv.len];omega);clear hDp f1 f2 hS hS0 hST hS63 hW;go_wp2_with fail
   refine(trimmed_c _ lq _ q HQL.out (Nat.le_refl _) _ hq.out).mono ?_;rintro e w' ⟨rfl,⟨m1,rfl⟩⟩;go_wp2_with fail
   refine(lowered_c _ (lq+k1+1) _ s L (lv a%lv b) HLL.out (by omega) hs63 _ (hr.out.drN _) HW.out.inv.lim HF2.out).mono ?_;rintro e w' ⟨u,r,rfl,hr1,hr2,hr3,hr4,hr5⟩;go_wp2
   go_ret3
   have hql:=HW.out.inv.qlen;have t1:=take_trim_len q;have t2:=lv_trim q;have t3:=Tr_trim q;rw[hql]at t1 t2 t3
   exact⟨_,u,q.take (trimN q lq),r,rfl,isrow_trim hql ((hq.out.drN _).below hr5 (Nat.le_refl _)),hr1,HW.out.inv.qlim.take _,t3,hr2,hr3,by rw[t2];exact HF.out,hr4,
    (bdrN HW.out.below _).trans (hr5.mono (by have:=HW.out.below.size;simpa using this))⟩
theorem div_c (A0 A1:Option Addr) (n m c0 c1:Nat) (a b:List Int) (hn:a.length=n) (hm:b.length=m) (hn4:n≤4000) (hm4:m≤4000) (hc0:n≤c0) (hc1:m≤c1) (w:World) (ha:RL w A0 a) (hb:RL w A1 b) (hla:Lim a) (hlb:Lim b) (h0:lv b≠0) :
  Calls Tryz.prog 118 #[.slice A0 n c0,.slice A1 m c1] w (DivP (lv a) (lv b) w):=by
 by_cases hlt:lv a<lv b
 ·exact div_less A0 A1 n m c0 c1 a b hn hm hn4 hm4 hc0 hc1 w ha hb hla hlb hlt
 ·have h1:trimN b m≠0:=by
   intro h;apply h0;rw[← lv_trim b,hm,h];exact lv_nil
  by_cases h2:trimN b m=1
  ·exact div_one A0 A1 n m c0 c1 a b hn hm hn4 hm4 hc0 hc1 w ha hb hla hlb (by omega) h2
  ·exact div_many A0 A1 n m c0 c1 a b hn hm hn4 hm4 hc0 hc1 w ha hb hla hlb (by omega) (by omega)
end Go.Proofs.YtfcjnhkkfmgmpaaGreat
