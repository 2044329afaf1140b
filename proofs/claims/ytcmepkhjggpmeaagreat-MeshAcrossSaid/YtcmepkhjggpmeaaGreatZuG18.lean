import Derived.Test.YtcmepkhjggpmeaaGreatZuG17
set_option linter.all false
set_option maxRecDepth 100000
set_option maxHeartbeats 8000000
namespace Go.Proofs.YtcmepkhjggpmeaaGreat
open Go.RowKit
open aP hiding B B_eq aG aK win jD Bp Bs ig fA eU sub_one fE iK add_one ez fH nC mul_one mL lv jc jR dw mX eo iI eH mR j3 mW gH mS kH kI mU gO mV jF jQ l8 YB l_ gM mY
open lG
theorem I2 (neg:Bool) (A0:Option Addr) (n c0:Nat) (l:List Int) (hn:l.length=n) (fW:n<=20000) (hc0:n<=c0) (w:World) (ha:RL w A0 l) (hla:aG l) :
  Calls Tryz.prog 105 #[.bool neg,.slice A0 n c0] w fun e w'=>e = .returned (.agg #[.bool (decide (bk neg (lv l)<0)),.string (dW ((bk neg (lv l)).natAbs:Int))])/\Below w.heap.size w w':=R5 neg A0 n c0 l hn fW hc0 w ha hla
theorem YN {n1 n2:Bool} (a b:Int) (h:n1≠n2):bk n1 (a-b)=bk n1 a+bk n2 b/\bk n2 (b-a)=bk n1 a+bk n2 b:=by
 cases n1 <;> cases n2 <;> simp[bk] at*<;> omega
theorem sL {r:List Int} {s:ByteArray} {k:Nat} (hl:aG r) (ht:Tr r) (hv:lv r=nv s) (h:s.size<=4*k):r.length<=k:=by
 apply gH ht hl;rw[hv,<- YB];exact nE h
theorem IE {r:List Int} {k:Nat} {v:Int} (hl:aG r) (ht:Tr r) (hv:lv r=v) (h:(v.natAbs:Int)<256^(4*k)):r.length<=k:=by
 apply gH ht hl;have:=(dw hl).1;rw[hv,<- YB];omega
theorem am1 (n1:Bool) (s1:ByteArray) (n2:Bool) (s2:ByteArray) (h1:s1.size<=4000) (h2:s2.size<=4000) (w:World) :
  Calls Tryz.prog 69 #[.agg #[.bool n1,.string s1],.agg #[.bool n2,.string s2]] w fun e w'=>e = .returned (o_ (ival n1 s1+ival n2 s2))/\Below w.heap.size w w':=by
 obtain⟨w3,hw3⟩:∃ w3,w3=((w.alloc (.cells #[.bool n1,.string s1] 38)).alloc (.cells #[.bool n2,.string s2] 38)).alloc (.cells #[.bool false,.string ⟨#[]⟩] 38):=⟨_,rfl⟩
 have hb3:Below w.heap.size w w3:=by rw[hw3];exact(((Below.refl _ _).alloc (Nat.le_refl _) _).alloc (by simp) _).alloc (by simp;omega) _
 have d0:w3.cell? ⟨w.heap.size,0,none⟩=some (.bool n1):=by rw[hw3];simp[go_sem]
 have d1:w3.cell? ⟨w.heap.size,1,none⟩=some (.string s1):=by rw[hw3];simp[go_sem]
 have d2:w3.cell? ⟨w.heap.size+1,0,none⟩=some (.bool n2):=by rw[hw3];simp[go_sem]
 have d3:w3.cell? ⟨w.heap.size+1,1,none⟩=some (.string s2):=by rw[hw3];simp[go_sem]
 have d4:w3.cell? ⟨w.heap.size+2,0,none⟩=some (.bool false):=by rw[hw3];simp[go_sem]
 have d5:w3.cell? ⟨w.heap.size+2,1,none⟩=some (.string ⟨#[]⟩):=by rw[hw3];simp[go_sem]
 have d6:w3.frozen? ⟨w.heap.size+2,0,none⟩=false:=by rw[hw3];simp[go_sem]
 have d7:w3.frozen? ⟨w.heap.size+2,1,none⟩=false:=by rw[hw3];simp[go_sem]
 have hsz:w3.heap.size=w.heap.size+3:=by rw[hw3];simp
 have HW:=Lib.hid hw3;have HS:=Lib.hid hb3;have dP:=Lib.hid hsz
 have HK:=Lib.hid (show ∀ (w':World) (h:Below w3.heap.size w3 w'),w'.cell? ⟨w.heap.size,0,none⟩=some (.bool n1)/\w'.cell? ⟨w.heap.size,1,none⟩=some (.string s1)/\w'.cell? ⟨w.heap.size+1,0,none⟩=some (.bool n2)/\w'.cell? ⟨w.heap.size+1,1,none⟩=some (.string s2)/\w'.cell? ⟨w.heap.size+2,0,none⟩=some (.bool false)/\w'.cell? ⟨w.heap.size+2,1,none⟩=some (.string ⟨#[]⟩)/\w'.frozen? ⟨w.heap.size+2,0,none⟩=false/\w'.frozen? ⟨w.heap.size+2,1,none⟩=false from
  fun w' h=>⟨(h.cell (by simp[hsz];try omega)).trans d0,(h.cell (by simp[hsz];try omega)).trans d1,(h.cell (by simp[hsz];try omega)).trans d2,(h.cell (by simp[hsz];try omega)).trans d3,(h.cell (by simp[hsz];try omega)).trans d4,(h.cell (by simp[hsz];try omega)).trans d5,(h.frozen (by simp[hsz];try omega)).trans d6,(h.frozen (by simp[hsz];try omega)).trans d7⟩)
 have Ap:=Lib.hid (uw s1 (by omega));have Aq:=Lib.hid (uw s2 (by omega));have HZ:=Lib.hid (And.intro h1 h2);clear hw3 hb3 hsz d4 d5 d6 d7 h1 h2;go_enter Tryz.func69,Tryz.ntmps69;go_wp2_with fail
 rw[<- HW.out];refine(Ap.out _).mono ?_;rintro e w4 ⟨_,r1,rfl,⟨g1,c1,rfl,hg1,hc1,hr1⟩,f_,ht1,jV,hb4⟩;obtain⟨e0,e1,e2,e3,e4,e5,e6,e7⟩:=HK.out _ hb4;have nZ:=Lib.hid hb4;have ud:=Lib.hid (And.intro hr1 (And.intro f_ (And.intro ht1 (And.intro jV hc1))));obtain⟨m1,hm1⟩:∃ m1,r1.length=m1:=⟨_,rfl⟩
 have gU:=Lib.hid (And.intro hm1 (show m1<=1000 by rw[<- hm1];exact sL f_ ht1 jV (by have:=HZ.out.1;omega)));rw[hm1];clear hb4 hr1 f_ ht1 jV hc1 hg1 d0 d1 d2 d3 hm1;go_wp2_with fail
 refine(Aq.out _).mono ?_;rintro e w5 ⟨_,r2,rfl,⟨g2,c2,rfl,hg2,hc2,hr2⟩,hl2,ht2,hv2,cL⟩;clear e0 e1 e2 e3 e4 e5 e6 e7;have Hj:=nZ.out.trans (cL.mono nZ.out.size);obtain⟨e0,e1,e2,e3,e4,e5,e6,e7⟩:=HK.out _ Hj;have HR:=Lib.hid (HS.out.trans (Hj.mono (by rw[dP.out];omega)));have oJ:=Lib.hid (show w.heap.size+2<w5.heap.size by have:=Hj.size;rw[dP.out]at this;omega);have oH:=Lib.hid (show ∀ w6:World,w6.heap=w5.heap->RL w6 (some ⟨g1,0,none⟩) r1/\RL w6 (some ⟨g2,0,none⟩) r2 from fun w6 h6=>⟨(iJ cL ud.out.1 (Nat.le_refl _)).heap h6,hr2.heap h6⟩);have gy:=Lib.hid (And.intro hl2 (And.intro ht2 (And.intro hv2 hc2)));obtain⟨m2,hm2⟩:∃ m2,r2.length=m2:=⟨_,rfl⟩
 have eE:=Lib.hid (And.intro hm2 (show m2<=1000 by rw[<- hm2];exact sL hl2 ht2 hv2 (by have:=HZ.out.2;omega)));rw[hm2];have HP:=Lib.hid (And.intro (jg s1).1 (jg s2).1);have Cz:=Lib.hid (And.intro (nE (k:=4000) HZ.out.1) (nE (k:=4000) HZ.out.2));clear cL hr2 hl2 ht2 hv2 hc2 hg2 hm2;by_cases hn:n1=n2
 ·subst hn
  have hvl:bk n1 (nv s1+nv s2)=ival n1 s1+ival n1 s2:=by unfold ival bk;split <;> omega
  have vn:=Lib.hid (show(((nv s1+nv s2).natAbs:Nat):Int)<256^(4*1001) by
   have h3:=qz (show 4001<=4*1001 by omega);have h4:=Ys 4000;obtain⟨a1,a2⟩:=HP.out;obtain⟨b1,b2⟩:=Cz.out;generalize (256:Int)^(4*1001)=u at *;generalize (256:Int)^4001=u2 at *;generalize (256:Int)^4000=u3 at *;omega)
  have OH:=Lib.hid (show 1001<=20000 by omega);have sV:=Lib.hid hvl;have pP:=Lib.hid (show w.heap.size<w5.heap.size by have:=oJ.out;omega);have vo:=Lib.hid (fun (w6:World) (h6:w6.heap=w5.heap)=>amZ (some ⟨g1,0,none⟩) (some ⟨g2,0,none⟩) m1 m2 c1 c2 r1 r2 gU.out.1 eE.out.1 (by have:=gU.out.2;omega) (by have:=eE.out.2;omega) w6 (oH.out w6 h6).1 (oH.out w6 h6).2 ud.out.2.1 gy.out.1);rw[ud.out.2.2.2.1,gy.out.2.2.1]at vo
  have hne:¬ w.heap.size=w.heap.size+1+1:=by omega
  clear hvl Hj;go_wp2
  go_region_held3 (fun w'=>w'.cell? ⟨w.heap.size,0,none⟩=some (.bool n1)) (first|go_keep|exact y0|exact(cell_far _ _ _ _ _ _ hne).trans ((cell_far _ _ _ _ _ _ hne).trans y0)|exact z0) (first|(go_at_call 108;go_must (refine(vo.out _ (by rfl)).mono ?_;rintro e w7 ⟨_,r,rfl,⟨g7,c7,rfl,hg7,K8,K9⟩,CA,K_,CB,hbr⟩;have z0:=(hbr.cell (p:=⟨w.heap.size,0,none⟩) pP.out).trans e0;have p0:=(hbr.cell (p:=⟨w.heap.size+2,0,none⟩) oJ.out).trans e4;have p1:=(hbr.cell (p:=⟨w.heap.size+2,1,none⟩) oJ.out).trans e5;have p2:=(hbr.frozen (p:=⟨w.heap.size+2,0,none⟩) oJ.out).trans e6;have p3:=(hbr.frozen (p:=⟨w.heap.size+2,1,none⟩) oJ.out).trans e7;have lp:=eL HR.out hbr HR.out.size rfl rfl rfl rfl;have hlb:=Nat.lt_of_lt_of_le pP.out hbr.size;have hlr:=Nat.lt_of_lt_of_le oJ.out hbr.size;have wC:=Nat.le_trans (IE CA K_ CB vn.out) OH.out;clear hbr))|(go_at_call 105;go_must (refine(I2 _ _ _ _ r rfl wC K8 _ (by exact K9) CA).mono ?_;rintro e w8 ⟨rfl,bI⟩;have y0:=(bI.cell (p:=⟨w.heap.size,0,none⟩) hlb).trans z0;have q0:=(bI.cell (p:=⟨w.heap.size+2,0,none⟩) hlr).trans p0;have q1:=(bI.cell (p:=⟨w.heap.size+2,1,none⟩) hlr).trans p1;have q2:=(bI.frozen (p:=⟨w.heap.size+2,0,none⟩) hlr).trans p2;have q3:=(bI.frozen (p:=⟨w.heap.size+2,1,none⟩) hlr).trans p3;have r9:=eL lp bI lp.size rfl rfl rfl rfl;clear bI)))
  go_wp2
  refine bodyPost_ret (by simp[results,Tryz.results69,go_sem,q0,q1];try rfl) rfl ?_;exact⟨by first|(rw[<- sV.out];rfl)|(rw[CB,<- sV.out];rfl),(r9.setCell (by simp;try omega) _).setCell (by simp;try omega) _⟩
 ·have q:(n1==n2)=false:=beq_eq_false_iff_ne.mpr hn
  have wD:=Lib.hid hn;have qK:=Lib.hid (N0 (some ⟨g1,0,none⟩) (some ⟨g2,0,none⟩) m1 m2 c1 c2 r1 r2 gU.out.1 eE.out.1 (by have:=gU.out.2;omega) (by have:=eE.out.2;omega) w5 (oH.out w5 rfl).1 (oH.out w5 rfl).2 ud.out.2.1 gy.out.1 ud.out.2.2.1 gy.out.2.1);rw[ud.out.2.2.2.1,gy.out.2.2.1]at qK
  have acT:=Lib.hid (show Below w3.heap.size w3 w5 from Hj);obtain⟨cv,hcv⟩:∃ cv,dN (nv s1) (nv s2)=cv:=⟨_,rfl⟩
  rw[hcv]at qK
  have xW:=Lib.hid hcv;clear hn hcv Hj;go_wp2_with fail
  refine(qK.out).mono ?_;rintro e w6 ⟨rfl,kD⟩;clear e0 e1 e2 e3 e4 e5 e6 e7;have OJ:=acT.out.trans (kD.mono acT.out.size);obtain⟨e0,e1,e2,e3,e4,e5,e6,e7⟩:=HK.out _ OJ;have HR:=Lib.hid (HS.out.trans (OJ.mono (by rw[dP.out];omega)));have oJ:=Lib.hid (show w.heap.size+2<w6.heap.size by have:=OJ.size;rw[dP.out]at this;omega);have oH:=Lib.hid (show ∀ w7:World,w7.heap=w6.heap->RL w7 (some ⟨g1,0,none⟩) r1/\RL w7 (some ⟨g2,0,none⟩) r2 from fun w7 h7=>⟨(iJ kD (oH.out w5 rfl).1 (Nat.le_refl _)).heap h7,(iJ kD (oH.out w5 rfl).2 (Nat.le_refl _)).heap h7⟩);clear kD OJ;have OH:=Lib.hid (show 1000<=20000 by omega);by_cases hge:0<=cv
  ·have t1:decide ((0:Int)<=cv)=true:=decide_eq_true hge
   have hle:nv s2<=nv s1:=by
    have h:=xW.out;rcases sA (nv s1) (nv s2) with ⟨h3,h4⟩|⟨h3,h4⟩|⟨h3,h4⟩ <;> omega
   have hvl:bk n1 (nv s1-nv s2)=ival n1 s1+ival n2 s2:=(YN _ _ wD.out).1;have vn:=Lib.hid (show(((nv s1-nv s2).natAbs:Nat):Int)<256^(4*1000) by
    obtain⟨a1,a2⟩:=HP.out;obtain⟨b1,b2⟩:=Cz.out;rw[show 4*1000=4000 from rfl];generalize (256:Int)^4000=u3 at *;omega)
   have sV:=Lib.hid hvl;have pP:=Lib.hid (show w.heap.size<w6.heap.size by have:=oJ.out;omega);have vo:=Lib.hid (fun (w7:World) (h7:w7.heap=w6.heap)=>JS (some ⟨g1,0,none⟩) (some ⟨g2,0,none⟩) m1 m2 c1 c2 r1 r2 gU.out.1 eE.out.1 (by have:=gU.out.2;omega) (by have:=eE.out.2;omega) w7 (oH.out w7 h7).1 (oH.out w7 h7).2 ud.out.2.1 gy.out.1 gy.out.2.1 (by rw[ud.out.2.2.2.1,gy.out.2.2.1];exact hle));rw[ud.out.2.2.2.1,gy.out.2.2.1]at vo
   have hne:¬ w.heap.size=w.heap.size+1+1:=by omega
   clear hvl hle hge;go_wp2
   go_region_held3 (fun w'=>w'.cell? ⟨w.heap.size,0,none⟩=some (.bool n1)) (first|go_keep|exact y0|exact(cell_far _ _ _ _ _ _ hne).trans ((cell_far _ _ _ _ _ _ hne).trans y0)|exact z0) (first|(go_at_call 110;go_must (refine(vo.out _ (by rfl)).mono ?_;rintro e w7 ⟨_,r,rfl,⟨g7,c7,rfl,hg7,K8,K9⟩,CA,K_,CB,hbr⟩;have z0:=(hbr.cell (p:=⟨w.heap.size,0,none⟩) pP.out).trans e0;have p0:=(hbr.cell (p:=⟨w.heap.size+2,0,none⟩) oJ.out).trans e4;have p1:=(hbr.cell (p:=⟨w.heap.size+2,1,none⟩) oJ.out).trans e5;have p2:=(hbr.frozen (p:=⟨w.heap.size+2,0,none⟩) oJ.out).trans e6;have p3:=(hbr.frozen (p:=⟨w.heap.size+2,1,none⟩) oJ.out).trans e7;have lp:=eL HR.out hbr HR.out.size rfl rfl rfl rfl;have hlb:=Nat.lt_of_lt_of_le pP.out hbr.size;have hlr:=Nat.lt_of_lt_of_le oJ.out hbr.size;have wC:=Nat.le_trans (IE CA K_ CB vn.out) OH.out;clear hbr))|(go_at_call 105;go_must (refine(I2 _ _ _ _ r rfl wC K8 _ (by exact K9) CA).mono ?_;rintro e w8 ⟨rfl,bI⟩;have y0:=(bI.cell (p:=⟨w.heap.size,0,none⟩) hlb).trans z0;have q0:=(bI.cell (p:=⟨w.heap.size+2,0,none⟩) hlr).trans p0;have q1:=(bI.cell (p:=⟨w.heap.size+2,1,none⟩) hlr).trans p1;have q2:=(bI.frozen (p:=⟨w.heap.size+2,0,none⟩) hlr).trans p2;have q3:=(bI.frozen (p:=⟨w.heap.size+2,1,none⟩) hlr).trans p3;have r9:=eL lp bI lp.size rfl rfl rfl rfl;clear bI)))
   go_wp2
   refine bodyPost_ret (by simp[results,Tryz.results69,go_sem,q0,q1];try rfl) rfl ?_;exact⟨by first|(rw[<- sV.out];rfl)|(rw[CB,<- sV.out];rfl),(r9.setCell (by simp;try omega) _).setCell (by simp;try omega) _⟩
  ·have t1:decide ((0:Int)<=cv)=false:=decide_eq_false hge
   have hle:nv s1<=nv s2:=by
    have h:=xW.out;rcases sA (nv s1) (nv s2) with ⟨h3,h4⟩|⟨h3,h4⟩|⟨h3,h4⟩ <;> omega
   have hvl:bk n2 (nv s2-nv s1)=ival n1 s1+ival n2 s2:=(YN _ _ wD.out).2;have vn:=Lib.hid (show(((nv s2-nv s1).natAbs:Nat):Int)<256^(4*1000) by
    obtain⟨a1,a2⟩:=HP.out;obtain⟨b1,b2⟩:=Cz.out;rw[show 4*1000=4000 from rfl];generalize (256:Int)^4000=u3 at *;omega)
   have sV:=Lib.hid hvl;have pP:=Lib.hid (show w.heap.size+1<w6.heap.size by have:=oJ.out;omega);have vo:=Lib.hid (fun (w7:World) (h7:w7.heap=w6.heap)=>JS (some ⟨g2,0,none⟩) (some ⟨g1,0,none⟩) m2 m1 c2 c1 r2 r1 eE.out.1 gU.out.1 (by have:=eE.out.2;omega) (by have:=gU.out.2;omega) w7 (oH.out w7 h7).2 (oH.out w7 h7).1 gy.out.1 ud.out.2.1 ud.out.2.2.1 (by rw[ud.out.2.2.2.1,gy.out.2.2.1];exact hle));rw[ud.out.2.2.2.1,gy.out.2.2.1]at vo
   have hne:¬ w.heap.size+1=w.heap.size+1+1:=by omega
   clear hvl hle hge;go_wp2
   go_region_held3 (fun w'=>w'.cell? ⟨w.heap.size+1,0,none⟩=some (.bool n2)) (first|go_keep|exact y0|exact(cell_far _ _ _ _ _ _ hne).trans ((cell_far _ _ _ _ _ _ hne).trans y0)|exact z0) (first|(go_at_call 110;go_must (refine(vo.out _ (by rfl)).mono ?_;rintro e w7 ⟨_,r,rfl,⟨g7,c7,rfl,hg7,K8,K9⟩,CA,K_,CB,hbr⟩;have z0:=(hbr.cell (p:=⟨w.heap.size+1,0,none⟩) pP.out).trans e2;have p0:=(hbr.cell (p:=⟨w.heap.size+2,0,none⟩) oJ.out).trans e4;have p1:=(hbr.cell (p:=⟨w.heap.size+2,1,none⟩) oJ.out).trans e5;have p2:=(hbr.frozen (p:=⟨w.heap.size+2,0,none⟩) oJ.out).trans e6;have p3:=(hbr.frozen (p:=⟨w.heap.size+2,1,none⟩) oJ.out).trans e7;have lp:=eL HR.out hbr HR.out.size rfl rfl rfl rfl;have hlb:=Nat.lt_of_lt_of_le pP.out hbr.size;have hlr:=Nat.lt_of_lt_of_le oJ.out hbr.size;have wC:=Nat.le_trans (IE CA K_ CB vn.out) OH.out;clear hbr))|(go_at_call 105;go_must (refine(I2 _ _ _ _ r rfl wC K8 _ (by exact K9) CA).mono ?_;rintro e w8 ⟨rfl,bI⟩;have y0:=(bI.cell (p:=⟨w.heap.size+1,0,none⟩) hlb).trans z0;have q0:=(bI.cell (p:=⟨w.heap.size+2,0,none⟩) hlr).trans p0;have q1:=(bI.cell (p:=⟨w.heap.size+2,1,none⟩) hlr).trans p1;have q2:=(bI.frozen (p:=⟨w.heap.size+2,0,none⟩) hlr).trans p2;have q3:=(bI.frozen (p:=⟨w.heap.size+2,1,none⟩) hlr).trans p3;have r9:=eL lp bI lp.size rfl rfl rfl rfl;clear bI)))
   go_wp2
   refine bodyPost_ret (by simp[results,Tryz.results69,go_sem,q0,q1];try rfl) rfl ?_;exact⟨by first|(rw[<- sV.out];rfl)|(rw[CB,<- sV.out];rfl),(r9.setCell (by simp;try omega) _).setCell (by simp;try omega) _⟩
theorem aio (n1:Bool) (s1:ByteArray) (n2:Bool) (s2:ByteArray) (h1:s1.size<=4000) (h2:s2.size<=4000) (w:World) :
  Calls Tryz.prog 70 #[.agg #[.bool n1,.string s1],.agg #[.bool n2,.string s2]] w fun e w'=>e = .returned (o_ (ival n1 s1*ival n2 s2))/\Below w.heap.size w w':=by
 obtain⟨w3,hw3⟩:∃ w3,w3=((w.alloc (.cells #[.bool n1,.string s1] 38)).alloc (.cells #[.bool n2,.string s2] 38)).alloc (.cells #[.bool false,.string ⟨#[]⟩] 38):=⟨_,rfl⟩
 have hb3:Below w.heap.size w w3:=by rw[hw3];exact(((Below.refl _ _).alloc (Nat.le_refl _) _).alloc (by simp) _).alloc (by simp;omega) _
 have d0:w3.cell? ⟨w.heap.size,0,none⟩=some (.bool n1):=by rw[hw3];simp[go_sem]
 have d1:w3.cell? ⟨w.heap.size,1,none⟩=some (.string s1):=by rw[hw3];simp[go_sem]
 have d2:w3.cell? ⟨w.heap.size+1,0,none⟩=some (.bool n2):=by rw[hw3];simp[go_sem]
 have d3:w3.cell? ⟨w.heap.size+1,1,none⟩=some (.string s2):=by rw[hw3];simp[go_sem]
 have d4:w3.cell? ⟨w.heap.size+2,0,none⟩=some (.bool false):=by rw[hw3];simp[go_sem]
 have d5:w3.cell? ⟨w.heap.size+2,1,none⟩=some (.string ⟨#[]⟩):=by rw[hw3];simp[go_sem]
 have d6:w3.frozen? ⟨w.heap.size+2,0,none⟩=false:=by rw[hw3];simp[go_sem]
 have d7:w3.frozen? ⟨w.heap.size+2,1,none⟩=false:=by rw[hw3];simp[go_sem]
 have hsz:w3.heap.size=w.heap.size+3:=by rw[hw3];simp
 have HW:=Lib.hid hw3;have HS:=Lib.hid hb3;have dP:=Lib.hid hsz
 have HK:=Lib.hid (show ∀ (w':World) (h:Below w3.heap.size w3 w'),w'.cell? ⟨w.heap.size,0,none⟩=some (.bool n1)/\w'.cell? ⟨w.heap.size,1,none⟩=some (.string s1)/\w'.cell? ⟨w.heap.size+1,0,none⟩=some (.bool n2)/\w'.cell? ⟨w.heap.size+1,1,none⟩=some (.string s2)/\w'.cell? ⟨w.heap.size+2,0,none⟩=some (.bool false)/\w'.cell? ⟨w.heap.size+2,1,none⟩=some (.string ⟨#[]⟩)/\w'.frozen? ⟨w.heap.size+2,0,none⟩=false/\w'.frozen? ⟨w.heap.size+2,1,none⟩=false from
  fun w' h=>⟨(h.cell (by simp[hsz];try omega)).trans d0,(h.cell (by simp[hsz];try omega)).trans d1,(h.cell (by simp[hsz];try omega)).trans d2,(h.cell (by simp[hsz];try omega)).trans d3,(h.cell (by simp[hsz];try omega)).trans d4,(h.cell (by simp[hsz];try omega)).trans d5,(h.frozen (by simp[hsz];try omega)).trans d6,(h.frozen (by simp[hsz];try omega)).trans d7⟩)
 have Ap:=Lib.hid (uw s1 (by omega));have Aq:=Lib.hid (uw s2 (by omega));have HZ:=Lib.hid (And.intro h1 h2);have sV:=Lib.hid (show bk (n1 != n2) (nv s1*nv s2)=ival n1 s1*ival n2 s2 by
  unfold ival bk;cases n1 <;> cases n2 <;> simp[Int.neg_mul,Int.mul_neg])
 have vn:=Lib.hid (show((((nv s1*nv s2).natAbs:Nat):Int)<256^(4*2000)) from uB (k:=4000) (l:=4000) (by have:=nE h1;have:=(jg s1).1;omega) (by have:=nE h2;have:=(jg s2).1;omega) (by omega));clear h1 h2;have L0:w.heap.size<w3.heap.size:=by rw[hsz];omega
 have L1:w.heap.size+1<w3.heap.size:=by rw[hsz];omega
 have L2:w.heap.size+2<w3.heap.size:=by rw[hsz];omega
 have hne:¬ w.heap.size=w.heap.size+1+1:=by omega
 have gK:¬ w.heap.size+1=w.heap.size+1+1:=by omega
 have La:=HS.out;clear HK hw3 hb3 hsz;go_enter Tryz.func70,Tryz.ntmps70;go_upto_region 1 with fail
 rw[<- HW.out];clear HW;go_region_held3 (fun w'=>w'.cell? ⟨w.heap.size,0,none⟩=some (.bool n1)/\w'.cell? ⟨w.heap.size,1,none⟩=some (.string s1)/\w'.cell? ⟨w.heap.size+1,0,none⟩=some (.bool n2)/\w'.cell? ⟨w.heap.size+1,1,none⟩=some (.string s2)) (first|exact⟨v0,v1,v2,v3⟩|exact⟨x0,x1,x2,x3⟩|exact⟨y0,y1,y2,y3⟩|exact⟨z0,z1,z2,z3⟩|exact⟨d0,d1,d2,d3⟩|exact⟨(cell_far _ _ _ _ _ _ hne).trans ((cell_far _ _ _ _ _ _ hne).trans v0),(cell_far _ _ _ _ _ _ hne).trans ((cell_far _ _ _ _ _ _ hne).trans v1),(cell_far _ _ _ _ _ _ gK).trans ((cell_far _ _ _ _ _ _ gK).trans v2),(cell_far _ _ _ _ _ _ gK).trans ((cell_far _ _ _ _ _ _ gK).trans v3)⟩|(refine⟨?_,?_,?_,?_⟩;go_keep;go_keep;go_keep;go_keep)) (first|(go_at_call 107;have gz:=z0;clear gz;go_must (refine(Aq.out _).mono ?_;rintro e wy ⟨_,r2,rfl,⟨g2,c2,rfl,hg2,hc2,hr2⟩,hl2,ht2,hv2,hbr⟩;have y0:=(hbr.cell (p:=⟨w.heap.size,0,none⟩) (lT)).trans z0;have y1:=(hbr.cell (p:=⟨w.heap.size,1,none⟩) (lT)).trans z1;have y2:=(hbr.cell (p:=⟨w.heap.size+1,0,none⟩) (lU)).trans z2;have y3:=(hbr.cell (p:=⟨w.heap.size+1,1,none⟩) (lU)).trans z3;have y4:=(hbr.cell (p:=⟨w.heap.size+2,0,none⟩) (wN)).trans z4;have y5:=(hbr.cell (p:=⟨w.heap.size+2,1,none⟩) (wN)).trans z5;have y6:=(hbr.frozen (p:=⟨w.heap.size+2,0,none⟩) (wN)).trans z6;have y7:=(hbr.frozen (p:=⟨w.heap.size+2,1,none⟩) (wN)).trans z7;have lV:=Nat.lt_of_lt_of_le lT hbr.size;have lW:=Nat.lt_of_lt_of_le lU hbr.size;have wO:=Nat.lt_of_lt_of_le wN hbr.size;have rH:=iJ hbr hr1 (Nat.le_refl _);have j8:=eL nu hbr nu.size rfl rfl rfl rfl;clear hbr))|(go_at_call 107;go_must (refine(Ap.out _).mono ?_;rintro e wz ⟨_,r1,rfl,⟨g1,c1,rfl,hg1,hc1,hr1⟩,f_,ht1,jV,hbr⟩;have z0:=(hbr.cell (p:=⟨w.heap.size,0,none⟩) (L0)).trans d0;have z1:=(hbr.cell (p:=⟨w.heap.size,1,none⟩) (L0)).trans d1;have z2:=(hbr.cell (p:=⟨w.heap.size+1,0,none⟩) (L1)).trans d2;have z3:=(hbr.cell (p:=⟨w.heap.size+1,1,none⟩) (L1)).trans d3;have z4:=(hbr.cell (p:=⟨w.heap.size+2,0,none⟩) (L2)).trans d4;have z5:=(hbr.cell (p:=⟨w.heap.size+2,1,none⟩) (L2)).trans d5;have z6:=(hbr.frozen (p:=⟨w.heap.size+2,0,none⟩) (L2)).trans d6;have z7:=(hbr.frozen (p:=⟨w.heap.size+2,1,none⟩) (L2)).trans d7;have lT:=Nat.lt_of_lt_of_le L0 hbr.size;have lU:=Nat.lt_of_lt_of_le L1 hbr.size;have wN:=Nat.lt_of_lt_of_le L2 hbr.size;have nu:=eL La hbr La.size rfl rfl rfl rfl;clear hbr))|(go_at_call 111;go_must (refine(am0 (some ⟨g1,0,none⟩) (some ⟨g2,0,none⟩) _ _ c1 c2 r1 r2 rfl rfl (Nat.le_trans (sL (k:=1000) f_ ht1 jV HZ.out.1) (by decide)) (Nat.le_trans (sL (k:=1000) hl2 ht2 hv2 HZ.out.2) (by decide)) _ (by exact rH) (by exact hr2) f_ hl2).mono ?_;rintro e wx ⟨_,r3,rfl,⟨g3,c3,rfl,hg3,hc3,hr3⟩,gw,ht3,hv3,hbr⟩;have x0:=(hbr.cell (p:=⟨w.heap.size,0,none⟩) (lV)).trans y0;have x1:=(hbr.cell (p:=⟨w.heap.size,1,none⟩) (lV)).trans y1;have x2:=(hbr.cell (p:=⟨w.heap.size+1,0,none⟩) (lW)).trans y2;have x3:=(hbr.cell (p:=⟨w.heap.size+1,1,none⟩) (lW)).trans y3;have x4:=(hbr.cell (p:=⟨w.heap.size+2,0,none⟩) (wO)).trans y4;have x5:=(hbr.cell (p:=⟨w.heap.size+2,1,none⟩) (wO)).trans y5;have x6:=(hbr.frozen (p:=⟨w.heap.size+2,0,none⟩) (wO)).trans y6;have x7:=(hbr.frozen (p:=⟨w.heap.size+2,1,none⟩) (wO)).trans y7;have nw:=Nat.lt_of_lt_of_le lV hbr.size;have ny:=Nat.lt_of_lt_of_le lW hbr.size;have Ar:=Nat.lt_of_lt_of_le wO hbr.size;have ji:=eL j8 hbr j8.size rfl rfl rfl rfl;rw[jV,hv2]at hv3;have wC:=Nat.le_trans (IE gw ht3 hv3 vn.out) (by decide:2000<=20000);clear hbr))|(go_at_call 105;go_must (refine(I2 _ _ _ _ r3 rfl wC hc3 _ (by exact hr3) gw).mono ?_;rintro e wv ⟨rfl,hbr⟩;have v0:=(hbr.cell (p:=⟨w.heap.size,0,none⟩) (nw)).trans x0;have v1:=(hbr.cell (p:=⟨w.heap.size,1,none⟩) (nw)).trans x1;have v2:=(hbr.cell (p:=⟨w.heap.size+1,0,none⟩) (ny)).trans x2;have v3:=(hbr.cell (p:=⟨w.heap.size+1,1,none⟩) (ny)).trans x3;have v4:=(hbr.cell (p:=⟨w.heap.size+2,0,none⟩) (Ar)).trans x4;have v5:=(hbr.cell (p:=⟨w.heap.size+2,1,none⟩) (Ar)).trans x5;have v6:=(hbr.frozen (p:=⟨w.heap.size+2,0,none⟩) (Ar)).trans x6;have v7:=(hbr.frozen (p:=⟨w.heap.size+2,1,none⟩) (Ar)).trans x7;have kP:=eL ji hbr ji.size rfl rfl rfl rfl;clear hbr)))
 all_goals go_wp2
 all_goals refine bodyPost_ret (by simp[results,Tryz.results70,go_sem,v4,v5];try rfl) rfl ?_
 all_goals exact⟨by first|(rw[<- sV.out];rfl)|(rw[hv3,<- sV.out];rfl),(kP.setCell (by simp;try omega) _).setCell (by simp;try omega) _⟩
structure S5 (g N:Nat) (x:List Int) (b0:Int) (w:World) (k:Nat) (c:Int) (L':List Int) (w1:World):Prop where
 blk:cO w1 g L'
 len:L'.length=N
 lim:aG L'
 bit:c=0\/c=1
 val:win L' 0 k+c*B^k=2*aK (lg x) k+b0
 only:bN g w w1
theorem ahE {L' x:List Int} {k:Nat} {c b0:Int} (hk:k<L'.length) (hL:aG L') (hx:aG x) (hc:c=0\/c=1)
  (hv:win L' 0 k+c*B^k=2*aK (lg x) k+b0) {T:Int} (hT:T=2*lg x k+c) :
  let L2:=L'.set k (T%4294967296);let c2:=T / 4294967296
  aG L2/\(c2=0\/c2=1)/\win L2 0 (k+1)+c2*B^(k+1)=2*aK (lg x) (k+1)+b0:=by
 intro L2 c2;have hB:(B:Int)=4294967296:=rfl;have h1:=hx k;rw[hB]at h1
 refine⟨hL.set _ (by rw[hB];omega),by show T / 4294967296=0\/T / 4294967296=1;omega,?_⟩;have e1:win L2 0 k=win L' 0 k:=fH fun j hj=>by
  show lg (L'.set k _) _=_;rw[cK,if_neg (by omega)]
 have e2:lg L2 (0+k)=T%4294967296:=by
  show lg (L'.set k _) _=_;rw[cK,if_pos ⟨by omega,hk⟩]
 have hd:T%4294967296+T / 4294967296*4294967296=T:=by omega
 rw[ez,e1,e2,show aK (lg x) (k+1)=aK (lg x) k+lg x k*B^k from rfl,Bs];have hv2:win L' 0 k=2*aK (lg x) k+b0-c*B^k:=by omega
 rw[hv2];show _+T / 4294967296*(B^k*B)=_;have e3:T%4294967296*B^k+T / 4294967296*(B^k*B)=T*B^k:=by
  rw[<- hd];generalize T%4294967296=u;generalize T / 4294967296=v;generalize B^k=p;rw[hB];grind
 have e4:2*aK (lg x) k+b0-c*B^k+T%4294967296*B^k+T / 4294967296*(B^k*B)=2*aK (lg x) k+b0-c*B^k+T*B^k:=by
  rw[<- e3];omega
 rw[e4,hT];generalize B^k=p;grind
theorem aip {L x:List Int} {n:Nat} {c b0:Int} (hL:L.length=n+1) (hx:x.length=n) (hc:c=0\/c=1) (hv:win L 0 n+c*B^n=2*aK (lg x) n+b0):lv (L.set n c)=2*lv x+b0:=by
 have e:lv (L.set n c)=win (L.set n c) 0 (n+1):=by
  have:=eH (L.set n c);rw[List.length_set,hL]at this
  exact this.symm
 rw[e,ez];have e1:win (L.set n c) 0 n=win L 0 n:=fH fun j hj=>by rw[cK,if_neg (by omega)]
 have e2:lg (L.set n c) (0+n)=c:=by rw[cK,if_pos ⟨by omega,by omega⟩]
 rw[e1,e2,hv,show lv x=aK (lg x) n from by unfold lv;rw[hx]]
theorem Ye (A0:Option Addr) (n c0:Nat) (a:List Int) (b0:Int) (hb0:b0=0\/b0=1) (hn:a.length=n) (fW:n<=60000) (w:World) (ha:RL w A0 a) (hla:aG a) :
  Calls Tryz.prog 145 #[.slice A0 n c0,.int .u64 b0] w (Em (2*lv a+b0) w):=by
 have hmk:=qX (n+1) (by omega);rw[show((n+1:Nat):Int)=(n:Int)+1 by omega]at hmk
 have HA:=Lib.hid (And.intro ha (And.intro hn hla));have HBT:=Lib.hid hb0;clear ha hn hla hb0;go_enter Tryz.func145,Tryz.ntmps145;go_wp2
 have hb1:Below w.heap.size w (w.alloc (.cells (madeCells #[.int .u64 0] (n+1)) 140)):=(Below.refl _ _).alloc (Nat.le_refl _) _;have dn:=qY w (n+1);have hx1:=HA.out.1.below hb1 (Nat.le_refl _);have iM:0<a.length->∀ ad,A0=some ad->ad.block≠w.heap.size:=fun h ad e=>Nat.ne_of_lt (HA.out.1.lt h ad e);generalize hw3:w.alloc (.cells (madeCells #[.int .u64 0] (n+1)) 140)=w3 at *;obtain⟨g,hg⟩:∃ g,w.heap.size=g:=⟨_,rfl⟩
 have bu:=Lib.hid (And.intro hb1 hg);rw[hg]at dn iM ⊢
 have jw:=Lib.hid (show S5 g (n+1) a b0 w3 0 b0 (List.replicate (n+1) 0) w3 from ⟨dn,by simp,iI _,HBT.out,by simp[win,aK],bN.refl _ _⟩);have HX:=Lib.hid hx1;have pg:=Lib.hid iM;clear dn hx1 iM hb1 hw3 hmk hg;go_loopw [1,6] (fun cv t w4=>∃ (k:Nat) (c:Int) (L':List Int),k<=n/\t = .int .i64 k/\cv = .int .u64 c/\S5 g (n+1) a b0 w3 k c L' w4) (fun _ t _=>n-(intOf t).toNat)
 case atStart=>exact⟨0,b0,_,Nat.zero_le _,rfl,rfl,jw.out⟩
 case round =>
  obtain⟨k,c,L',hk,rfl,rfl,hI⟩:=hrel;have rF:0<=c/\c<=1:=by rcases hI.bit with h|h <;> omega
  by_cases hlt:k<n
  ·have h1:decide ((k:Int)<(n:Int))=true:=by simp;omega
   have hce:=hI.blk.cell k (by rw[hI.len];omega);have hfr:=hI.blk.free k;have sZ:=Lib.hid (HX.out.only hI.only pg.out);have lx:=HA.out.2.2 k;rw[show(B:Int)=4294967296 from rfl]at lx
   obtain⟨x,hx⟩:∃ x,lg a k=x:=⟨_,rfl⟩
   rw[hx]at lx
   obtain⟨ad,rfl,bW⟩:=sZ.out.2 (by rw[HA.out.2.1];omega);have ca:=bW k (by rw[HA.out.2.1];omega);rw[hx]at ca
   obtain⟨s1,s2,s3⟩:=ahE (T:=2*x+c) (by rw[hI.len];omega) hI.lim HA.out.2.2 hI.bit hI.val (by rw[hx]);have HS:=Lib.hid (show S5 g (n+1) a b0 w3 (k+1) ((2*x+c) / 4294967296) (L'.set k ((2*x+c)%4294967296)) (wr.setCell ⟨g,k,none⟩ (.int .u64 ((2*x+c)%4294967296))) from ⟨hI.blk.set _ _,by rw[List.length_set];exact hI.len,s1,s2,s3,hI.only.set _ _⟩);have a0:IntKind.u64.wrap (2*x)=2*x:=bR _ ⟨by omega,by rw[aP.B_eq];omega⟩;have a1:IntKind.u64.wrap (2*x+c)=2*x+c:=bR _ ⟨by omega,by rw[aP.B_eq];omega⟩;have a3:(2*x+c).tmod 4294967296=(2*x+c)%4294967296:=Int.tmod_eq_emod_of_nonneg (by omega);have a4:(2*x+c).tdiv 4294967296=(2*x+c) / 4294967296:=Int.tdiv_eq_ediv_of_nonneg (by omega);have a5:IntKind.u64.wrap ((2*x+c)%4294967296)=(2*x+c)%4294967296:=bR _ ⟨by omega,by rw[aP.B_eq];omega⟩;have a6:IntKind.u64.wrap ((2*x+c) / 4294967296)=(2*x+c) / 4294967296:=bR _ ⟨by omega,by rw[aP.B_eq];omega⟩;have z1:k<n:=hlt;have z2:k<n+1:=by omega
   have z3:(k:Int)<(n:Int)+1:=by omega
   have dM:=Lib.hid hlt;clear bW hx s1 s2 s3 hI hlt hk;go_wp2
   exact⟨⟨k+1,_,_,dM.out,by simp,rfl,HS.out⟩,by have:=dM.out;simp[intOf];omega⟩
  ·have he:k=n:=by omega
   subst he;have h1:decide ((k:Int)<(k:Int))=false:=by simp
   have hce:=hI.blk.cell k (by rw[hI.len];omega);have hfr:=hI.blk.free k;have z2:k<k+1:=by omega
   have z3:(k:Int)<(k:Int)+1:=by omega
   have wM:=Lib.hid (FP (w:=w) (N:=k+1) (Nat.le_of_eq bu.out.2) (hI.blk.set k c) (by rw[List.length_set];exact hI.len) (by omega) (hI.lim.set k (by rw[show(B:Int)=4294967296 from rfl];omega)) (aip hI.len HA.out.2.1 hI.bit hI.val) (bN.below bu.out.1 (hI.only.set k (.int .u64 c)) (by rw[bu.out.2];exact Nat.le_refl _)));clear hI hlt hk;go_wp2_with fail
   refine(wM.out).mono ?_;rintro e w4 ⟨x,r,rfl,hr⟩;have HR:=Lib.hid hr;clear hr;go_wp2
   go_ret
   exact⟨x,r,rfl,HR.out⟩
end Go.Proofs.YtcmepkhjggpmeaaGreat
