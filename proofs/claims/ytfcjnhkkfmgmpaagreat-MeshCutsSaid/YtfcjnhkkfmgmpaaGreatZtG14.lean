import Derived.Test.YtfcjnhkkfmgmpaaGreatZtG13
set_option linter.all false
set_option maxRecDepth 100000
set_option maxHeartbeats 8000000
namespace Go.Proofs.YtfcjnhkkfmgmpaaGreat
open Go.RowKit
open aS hiding B B_eq aH aQ win kg Bp Bs iX fV fG sub_one gp jg add_one eO gB ot mul_one nP lv jH kM dF nZ eH jd fj nU kY nY iu nV lM lN nW iO nX kj kL mY YB nj iH n7
open mG
theorem KS (neg:Bool) (A0:Option Addr) (n c0:Nat) (l:List Int) (hn:l.length=n) (gP:n<=20000) (hc0:n<=c0) (w:World) (ha:RL w A0 l) (hla:aH l) :
  Calls Tryz.prog 87 #[.bool neg,.slice A0 n c0] w fun e w'=>e = .returned (.agg #[.bool (decide (bF neg (lv l)<0)),.string (eF ((bF neg (lv l)).natAbs:Int))])/\Below w.heap.size w w':=Ve neg A0 n c0 l hn gP hc0 w ha hla
theorem abv {n1 n2:Bool} (a b:Int) (h:n1≠n2):bF n1 (a-b)=bF n1 a+bF n2 b/\bF n2 (b-a)=bF n1 a+bF n2 b:=by
 cases n1 <;> cases n2 <;> simp[bF] at*<;> omega
theorem tU {r:List Int} {s:ByteArray} {k:Nat} (hl:aH r) (ht:Tr r) (hv:lv r=nv s) (h:s.size<=4*k):r.length<=k:=by
 apply iu ht hl;rw[hv,<- YB];exact ou h
theorem KA {r:List Int} {k:Nat} {v:Int} (hl:aH r) (ht:Tr r) (hv:lv r=v) (h:(v.natAbs:Int)<256^(4*k)):r.length<=k:=by
 apply iu ht hl;have:=(dF hl).1;rw[hv,<- YB];omega
theorem aqf (n1:Bool) (s1:ByteArray) (n2:Bool) (s2:ByteArray) (h1:s1.size<=4000) (h2:s2.size<=4000) (w:World) :
  Calls Tryz.prog 89 #[.agg #[.bool n1,.string s1],.agg #[.bool n2,.string s2]] w fun e w'=>e = .returned (qC (ival n1 s1+ival n2 s2))/\Below w.heap.size w w':=by
 obtain⟨w3,hw3⟩:∃ w3,w3=((w.alloc (.cells #[.bool n1,.string s1] 38)).alloc (.cells #[.bool n2,.string s2] 38)).alloc (.cells #[.bool false,.string ⟨#[]⟩] 38):=⟨_,rfl⟩
 have hb3:Below w.heap.size w w3:=by rw[hw3];exact(((Below.refl _ _).alloc (Nat.le_refl _) _).alloc (by simp) _).alloc (by simp;omega) _
 have d0:w3.cell? ⟨w.heap.size,0,none⟩=some (.bool n1):=by rw[hw3];simp[go_sem]
 have d1:w3.cell? ⟨w.heap.size,1,none⟩=some (.string s1):=by rw[hw3];simp[go_sem]
 have d2:w3.cell? ⟨w.heap.size+1,0,none⟩=some (.bool n2):=by rw[hw3];simp[go_sem]
 have d3:w3.cell? ⟨w.heap.size+1,1,none⟩=some (.string s2):=by rw[hw3];simp[go_sem]
 have d4:w3.cell? ⟨w.heap.size+2,0,none⟩=some (.bool false):=by rw[hw3];simp[go_sem]
 have d5:w3.cell? ⟨w.heap.size+2,1,none⟩=some (.string ⟨#[]⟩):=by rw[hw3];simp[go_sem]
 have d6:w3.frozen? ⟨w.heap.size+2,0,none⟩=false:=by rw[hw3];simp[go_sem]
 have d7:w3.frozen? ⟨w.heap.size+2,1,none⟩=false:=by rw[hw3];simp[go_sem]
 have hsz:w3.heap.size=w.heap.size+3:=by rw[hw3];simp
 have HW:=Lib.hid hw3;have HS:=Lib.hid hb3;have ew:=Lib.hid hsz
 have HK:=Lib.hid (show ∀ (w':World) (h:Below w3.heap.size w3 w'),w'.cell? ⟨w.heap.size,0,none⟩=some (.bool n1)/\w'.cell? ⟨w.heap.size,1,none⟩=some (.string s1)/\w'.cell? ⟨w.heap.size+1,0,none⟩=some (.bool n2)/\w'.cell? ⟨w.heap.size+1,1,none⟩=some (.string s2)/\w'.cell? ⟨w.heap.size+2,0,none⟩=some (.bool false)/\w'.cell? ⟨w.heap.size+2,1,none⟩=some (.string ⟨#[]⟩)/\w'.frozen? ⟨w.heap.size+2,0,none⟩=false/\w'.frozen? ⟨w.heap.size+2,1,none⟩=false from
  fun w' h=>⟨(h.cell (by simp[hsz];try omega)).trans d0,(h.cell (by simp[hsz];try omega)).trans d1,(h.cell (by simp[hsz];try omega)).trans d2,(h.cell (by simp[hsz];try omega)).trans d3,(h.cell (by simp[hsz];try omega)).trans d4,(h.cell (by simp[hsz];try omega)).trans d5,(h.frozen (by simp[hsz];try omega)).trans d6,(h.frozen (by simp[hsz];try omega)).trans d7⟩)
 have BL:=Lib.hid (vX s1 (by omega));have BM:=Lib.hid (vX s2 (by omega));have HZ:=Lib.hid (And.intro h1 h2);clear hw3 hb3 hsz d4 d5 d6 d7 h1 h2;go_enter Tryz.func89,Tryz.ntmps89;go_wp2_with fail
 rw[<- HW.out];refine(BL.out _).mono ?_;rintro e w4 ⟨_,r1,rfl,⟨g1,c1,rfl,jE,hc1,hr1⟩,fJ,kT,kU,hb4⟩;obtain⟨e0,e1,e2,e3,e4,e5,e6,e7⟩:=HK.out _ hb4;have nL:=Lib.hid hb4;have pH:=Lib.hid (And.intro hr1 (And.intro fJ (And.intro kT (And.intro kU hc1))));obtain⟨m1,hm1⟩:∃ m1,r1.length=m1:=⟨_,rfl⟩
 have fc:=Lib.hid (And.intro hm1 (show m1<=1000 by rw[<- hm1];exact tU fJ kT kU (by have:=HZ.out.1;omega)));rw[hm1];clear hb4 hr1 fJ kT kU hc1 jE d0 d1 d2 d3 hm1;go_wp2_with fail
 refine(BM.out _).mono ?_;rintro e w5 ⟨_,r2,rfl,⟨g2,c2,rfl,hg2,hc2,hr2⟩,hl2,ig,hv2,cQ⟩;clear e0 e1 e2 e3 e4 e5 e6 e7;have JN:=nL.out.trans (cQ.mono nL.out.size);obtain⟨e0,e1,e2,e3,e4,e5,e6,e7⟩:=HK.out _ JN;have HR:=Lib.hid (HS.out.trans (JN.mono (by rw[ew.out];omega)));have pI:=Lib.hid (show w.heap.size+2<w5.heap.size by have:=JN.size;rw[ew.out]at this;omega);have pF:=Lib.hid (show ∀ w6:World,w6.heap=w5.heap->RL w6 (some ⟨g1,0,none⟩) r1/\RL w6 (some ⟨g2,0,none⟩) r2 from fun w6 h6=>⟨(je cQ pH.out.1 (Nat.le_refl _)).heap h6,hr2.heap h6⟩);have eU:=Lib.hid (And.intro hl2 (And.intro ig (And.intro hv2 hc2)));obtain⟨m2,hm2⟩:∃ m2,r2.length=m2:=⟨_,rfl⟩
 have fM:=Lib.hid (And.intro hm2 (show m2<=1000 by rw[<- hm2];exact tU hl2 ig hv2 (by have:=HZ.out.2;omega)));rw[hm2];have HP:=Lib.hid (And.intro (jM s1).1 (jM s2).1);have DV:=Lib.hid (And.intro (ou (k:=4000) HZ.out.1) (ou (k:=4000) HZ.out.2));clear cQ hr2 hl2 ig hv2 hc2 hg2 hm2;by_cases hn:n1=n2
 ·subst hn
  have hvl:bF n1 (nv s1+nv s2)=ival n1 s1+ival n1 s2:=by unfold ival bF;split <;> omega
  have wN:=Lib.hid (show(((nv s1+nv s2).natAbs:Nat):Int)<256^(4*1001) by
   have h3:=ug (show 4001<=4*1001 by omega);have h4:=Ys 4000;obtain⟨a1,a2⟩:=HP.out;obtain⟨b1,b2⟩:=DV.out;generalize (256:Int)^(4*1001)=u at *;generalize (256:Int)^4001=u2 at *;generalize (256:Int)^4000=u3 at *;omega)
  have Rx:=Lib.hid (show 1001<=20000 by omega);have uq:=Lib.hid hvl;have qF:=Lib.hid (show w.heap.size<w5.heap.size by have:=pI.out;omega);have DW:=Lib.hid (fun (w6:World) (h6:w6.heap=w5.heap)=>aqd (some ⟨g1,0,none⟩) (some ⟨g2,0,none⟩) m1 m2 c1 c2 r1 r2 fc.out.1 fM.out.1 (by have:=fc.out.2;omega) (by have:=fM.out.2;omega) w6 (pF.out w6 h6).1 (pF.out w6 h6).2 pH.out.2.1 eU.out.1);rw[pH.out.2.2.2.1,eU.out.2.2.1]at DW
  have hne:¬ w.heap.size=w.heap.size+1+1:=by omega
  clear hvl JN;go_wp2
  go_region_held3 (fun w'=>w'.cell? ⟨w.heap.size,0,none⟩=some (.bool n1)) (first|go_keep|exact y0|exact(cell_far _ _ _ _ _ _ hne).trans ((cell_far _ _ _ _ _ _ hne).trans y0)|exact z0) (first|(go_at_call 103;go_must (refine(DW.out _ (by rfl)).mono ?_;rintro e w7 ⟨_,r,rfl,⟨g7,c7,rfl,hg7,NC,ND⟩,DX,NF,DY,hbr⟩;have z0:=(hbr.cell (p:=⟨w.heap.size,0,none⟩) qF.out).trans e0;have p0:=(hbr.cell (p:=⟨w.heap.size+2,0,none⟩) pI.out).trans e4;have p1:=(hbr.cell (p:=⟨w.heap.size+2,1,none⟩) pI.out).trans e5;have p2:=(hbr.frozen (p:=⟨w.heap.size+2,0,none⟩) pI.out).trans e6;have p3:=(hbr.frozen (p:=⟨w.heap.size+2,1,none⟩) pI.out).trans e7;have kS:=fq HR.out hbr HR.out.size rfl rfl rfl rfl;have hlb:=Nat.lt_of_lt_of_le qF.out hbr.size;have hlr:=Nat.lt_of_lt_of_le pI.out hbr.size;have xP:=Nat.le_trans (KA DX NF DY wN.out) Rx.out;clear hbr))|(go_at_call 87;go_must (refine(KS _ _ _ _ r rfl xP NC _ (by exact ND) DX).mono ?_;rintro e w8 ⟨rfl,bS⟩;have y0:=(bS.cell (p:=⟨w.heap.size,0,none⟩) hlb).trans z0;have q0:=(bS.cell (p:=⟨w.heap.size+2,0,none⟩) hlr).trans p0;have q1:=(bS.cell (p:=⟨w.heap.size+2,1,none⟩) hlr).trans p1;have q2:=(bS.frozen (p:=⟨w.heap.size+2,0,none⟩) hlr).trans p2;have q3:=(bS.frozen (p:=⟨w.heap.size+2,1,none⟩) hlr).trans p3;have tE:=fq kS bS kS.size rfl rfl rfl rfl;clear bS)))
  go_wp2
  refine bodyPost_ret (by simp[results,Tryz.results89,go_sem,q0,q1];try rfl) rfl ?_;exact⟨by first|(rw[<- uq.out];rfl)|(rw[DY,<- uq.out];rfl),(tE.setCell (by simp;try omega) _).setCell (by simp;try omega) _⟩
 ·have q:(n1==n2)=false:=beq_eq_false_iff_ne.mpr hn
  have By:=Lib.hid hn;have rE:=Lib.hid (QF (some ⟨g1,0,none⟩) (some ⟨g2,0,none⟩) m1 m2 c1 c2 r1 r2 fc.out.1 fM.out.1 (by have:=fc.out.2;omega) (by have:=fM.out.2;omega) w5 (pF.out w5 rfl).1 (pF.out w5 rfl).2 pH.out.2.1 eU.out.1 pH.out.2.2.1 eU.out.2.1);rw[pH.out.2.2.2.1,eU.out.2.2.1]at rE
  have agA:=Lib.hid (show Below w3.heap.size w3 w5 from JN);obtain⟨cv,hcv⟩:∃ cv,dY (nv s1) (nv s2)=cv:=⟨_,rfl⟩
  rw[hcv]at rE
  have HCV:=Lib.hid hcv;clear hn hcv JN;go_wp2_with fail
  refine(rE.out).mono ?_;rintro e w6 ⟨rfl,lJ⟩;clear e0 e1 e2 e3 e4 e5 e6 e7;have Ry:=agA.out.trans (lJ.mono agA.out.size);obtain⟨e0,e1,e2,e3,e4,e5,e6,e7⟩:=HK.out _ Ry;have HR:=Lib.hid (HS.out.trans (Ry.mono (by rw[ew.out];omega)));have pI:=Lib.hid (show w.heap.size+2<w6.heap.size by have:=Ry.size;rw[ew.out]at this;omega);have pF:=Lib.hid (show ∀ w7:World,w7.heap=w6.heap->RL w7 (some ⟨g1,0,none⟩) r1/\RL w7 (some ⟨g2,0,none⟩) r2 from fun w7 h7=>⟨(je lJ (pF.out w5 rfl).1 (Nat.le_refl _)).heap h7,(je lJ (pF.out w5 rfl).2 (Nat.le_refl _)).heap h7⟩);clear lJ Ry;have Rx:=Lib.hid (show 1000<=20000 by omega);by_cases hge:0<=cv
  ·have t1:decide ((0:Int)<=cv)=true:=decide_eq_true hge
   have hle:nv s2<=nv s1:=by
    have h:=HCV.out;rcases tP (nv s1) (nv s2) with ⟨h3,h4⟩|⟨h3,h4⟩|⟨h3,h4⟩ <;> omega
   have hvl:bF n1 (nv s1-nv s2)=ival n1 s1+ival n2 s2:=(abv _ _ By.out).1;have wN:=Lib.hid (show(((nv s1-nv s2).natAbs:Nat):Int)<256^(4*1000) by
    obtain⟨a1,a2⟩:=HP.out;obtain⟨b1,b2⟩:=DV.out;rw[show 4*1000=4000 from rfl];generalize (256:Int)^4000=u3 at *;omega)
   have uq:=Lib.hid hvl;have qF:=Lib.hid (show w.heap.size<w6.heap.size by have:=pI.out;omega);have DW:=Lib.hid (fun (w7:World) (h7:w7.heap=w6.heap)=>LY (some ⟨g1,0,none⟩) (some ⟨g2,0,none⟩) m1 m2 c1 c2 r1 r2 fc.out.1 fM.out.1 (by have:=fc.out.2;omega) (by have:=fM.out.2;omega) w7 (pF.out w7 h7).1 (pF.out w7 h7).2 pH.out.2.1 eU.out.1 eU.out.2.1 (by rw[pH.out.2.2.2.1,eU.out.2.2.1];exact hle));rw[pH.out.2.2.2.1,eU.out.2.2.1]at DW
   have hne:¬ w.heap.size=w.heap.size+1+1:=by omega
   clear hvl hle hge;go_wp2
   go_region_held3 (fun w'=>w'.cell? ⟨w.heap.size,0,none⟩=some (.bool n1)) (first|go_keep|exact y0|exact(cell_far _ _ _ _ _ _ hne).trans ((cell_far _ _ _ _ _ _ hne).trans y0)|exact z0) (first|(go_at_call 105;go_must (refine(DW.out _ (by rfl)).mono ?_;rintro e w7 ⟨_,r,rfl,⟨g7,c7,rfl,hg7,NC,ND⟩,DX,NF,DY,hbr⟩;have z0:=(hbr.cell (p:=⟨w.heap.size,0,none⟩) qF.out).trans e0;have p0:=(hbr.cell (p:=⟨w.heap.size+2,0,none⟩) pI.out).trans e4;have p1:=(hbr.cell (p:=⟨w.heap.size+2,1,none⟩) pI.out).trans e5;have p2:=(hbr.frozen (p:=⟨w.heap.size+2,0,none⟩) pI.out).trans e6;have p3:=(hbr.frozen (p:=⟨w.heap.size+2,1,none⟩) pI.out).trans e7;have kS:=fq HR.out hbr HR.out.size rfl rfl rfl rfl;have hlb:=Nat.lt_of_lt_of_le qF.out hbr.size;have hlr:=Nat.lt_of_lt_of_le pI.out hbr.size;have xP:=Nat.le_trans (KA DX NF DY wN.out) Rx.out;clear hbr))|(go_at_call 87;go_must (refine(KS _ _ _ _ r rfl xP NC _ (by exact ND) DX).mono ?_;rintro e w8 ⟨rfl,bS⟩;have y0:=(bS.cell (p:=⟨w.heap.size,0,none⟩) hlb).trans z0;have q0:=(bS.cell (p:=⟨w.heap.size+2,0,none⟩) hlr).trans p0;have q1:=(bS.cell (p:=⟨w.heap.size+2,1,none⟩) hlr).trans p1;have q2:=(bS.frozen (p:=⟨w.heap.size+2,0,none⟩) hlr).trans p2;have q3:=(bS.frozen (p:=⟨w.heap.size+2,1,none⟩) hlr).trans p3;have tE:=fq kS bS kS.size rfl rfl rfl rfl;clear bS)))
   go_wp2
   refine bodyPost_ret (by simp[results,Tryz.results89,go_sem,q0,q1];try rfl) rfl ?_;exact⟨by first|(rw[<- uq.out];rfl)|(rw[DY,<- uq.out];rfl),(tE.setCell (by simp;try omega) _).setCell (by simp;try omega) _⟩
  ·have t1:decide ((0:Int)<=cv)=false:=decide_eq_false hge
   have hle:nv s1<=nv s2:=by
    have h:=HCV.out;rcases tP (nv s1) (nv s2) with ⟨h3,h4⟩|⟨h3,h4⟩|⟨h3,h4⟩ <;> omega
   have hvl:bF n2 (nv s2-nv s1)=ival n1 s1+ival n2 s2:=(abv _ _ By.out).2;have wN:=Lib.hid (show(((nv s2-nv s1).natAbs:Nat):Int)<256^(4*1000) by
    obtain⟨a1,a2⟩:=HP.out;obtain⟨b1,b2⟩:=DV.out;rw[show 4*1000=4000 from rfl];generalize (256:Int)^4000=u3 at *;omega)
   have uq:=Lib.hid hvl;have qF:=Lib.hid (show w.heap.size+1<w6.heap.size by have:=pI.out;omega);have DW:=Lib.hid (fun (w7:World) (h7:w7.heap=w6.heap)=>LY (some ⟨g2,0,none⟩) (some ⟨g1,0,none⟩) m2 m1 c2 c1 r2 r1 fM.out.1 fc.out.1 (by have:=fM.out.2;omega) (by have:=fc.out.2;omega) w7 (pF.out w7 h7).2 (pF.out w7 h7).1 eU.out.1 pH.out.2.1 pH.out.2.2.1 (by rw[pH.out.2.2.2.1,eU.out.2.2.1];exact hle));rw[pH.out.2.2.2.1,eU.out.2.2.1]at DW
   have hne:¬ w.heap.size+1=w.heap.size+1+1:=by omega
   clear hvl hle hge;go_wp2
   go_region_held3 (fun w'=>w'.cell? ⟨w.heap.size+1,0,none⟩=some (.bool n2)) (first|go_keep|exact y0|exact(cell_far _ _ _ _ _ _ hne).trans ((cell_far _ _ _ _ _ _ hne).trans y0)|exact z0) (first|(go_at_call 105;go_must (refine(DW.out _ (by rfl)).mono ?_;rintro e w7 ⟨_,r,rfl,⟨g7,c7,rfl,hg7,NC,ND⟩,DX,NF,DY,hbr⟩;have z0:=(hbr.cell (p:=⟨w.heap.size+1,0,none⟩) qF.out).trans e2;have p0:=(hbr.cell (p:=⟨w.heap.size+2,0,none⟩) pI.out).trans e4;have p1:=(hbr.cell (p:=⟨w.heap.size+2,1,none⟩) pI.out).trans e5;have p2:=(hbr.frozen (p:=⟨w.heap.size+2,0,none⟩) pI.out).trans e6;have p3:=(hbr.frozen (p:=⟨w.heap.size+2,1,none⟩) pI.out).trans e7;have kS:=fq HR.out hbr HR.out.size rfl rfl rfl rfl;have hlb:=Nat.lt_of_lt_of_le qF.out hbr.size;have hlr:=Nat.lt_of_lt_of_le pI.out hbr.size;have xP:=Nat.le_trans (KA DX NF DY wN.out) Rx.out;clear hbr))|(go_at_call 87;go_must (refine(KS _ _ _ _ r rfl xP NC _ (by exact ND) DX).mono ?_;rintro e w8 ⟨rfl,bS⟩;have y0:=(bS.cell (p:=⟨w.heap.size+1,0,none⟩) hlb).trans z0;have q0:=(bS.cell (p:=⟨w.heap.size+2,0,none⟩) hlr).trans p0;have q1:=(bS.cell (p:=⟨w.heap.size+2,1,none⟩) hlr).trans p1;have q2:=(bS.frozen (p:=⟨w.heap.size+2,0,none⟩) hlr).trans p2;have q3:=(bS.frozen (p:=⟨w.heap.size+2,1,none⟩) hlr).trans p3;have tE:=fq kS bS kS.size rfl rfl rfl rfl;clear bS)))
   go_wp2
   refine bodyPost_ret (by simp[results,Tryz.results89,go_sem,q0,q1];try rfl) rfl ?_;exact⟨by first|(rw[<- uq.out];rfl)|(rw[DY,<- uq.out];rfl),(tE.setCell (by simp;try omega) _).setCell (by simp;try omega) _⟩
theorem alG (n1:Bool) (s1:ByteArray) (n2:Bool) (s2:ByteArray) (h1:s1.size<=4000) (h2:s2.size<=4000) (w:World) :
  Calls Tryz.prog 76 #[.agg #[.bool n1,.string s1],.agg #[.bool n2,.string s2]] w fun e w'=>e = .returned (qC (ival n1 s1*ival n2 s2))/\Below w.heap.size w w':=by
 obtain⟨w3,hw3⟩:∃ w3,w3=((w.alloc (.cells #[.bool n1,.string s1] 38)).alloc (.cells #[.bool n2,.string s2] 38)).alloc (.cells #[.bool false,.string ⟨#[]⟩] 38):=⟨_,rfl⟩
 have hb3:Below w.heap.size w w3:=by rw[hw3];exact(((Below.refl _ _).alloc (Nat.le_refl _) _).alloc (by simp) _).alloc (by simp;omega) _
 have d0:w3.cell? ⟨w.heap.size,0,none⟩=some (.bool n1):=by rw[hw3];simp[go_sem]
 have d1:w3.cell? ⟨w.heap.size,1,none⟩=some (.string s1):=by rw[hw3];simp[go_sem]
 have d2:w3.cell? ⟨w.heap.size+1,0,none⟩=some (.bool n2):=by rw[hw3];simp[go_sem]
 have d3:w3.cell? ⟨w.heap.size+1,1,none⟩=some (.string s2):=by rw[hw3];simp[go_sem]
 have d4:w3.cell? ⟨w.heap.size+2,0,none⟩=some (.bool false):=by rw[hw3];simp[go_sem]
 have d5:w3.cell? ⟨w.heap.size+2,1,none⟩=some (.string ⟨#[]⟩):=by rw[hw3];simp[go_sem]
 have d6:w3.frozen? ⟨w.heap.size+2,0,none⟩=false:=by rw[hw3];simp[go_sem]
 have d7:w3.frozen? ⟨w.heap.size+2,1,none⟩=false:=by rw[hw3];simp[go_sem]
 have hsz:w3.heap.size=w.heap.size+3:=by rw[hw3];simp
 have HW:=Lib.hid hw3;have HS:=Lib.hid hb3;have ew:=Lib.hid hsz
 have HK:=Lib.hid (show ∀ (w':World) (h:Below w3.heap.size w3 w'),w'.cell? ⟨w.heap.size,0,none⟩=some (.bool n1)/\w'.cell? ⟨w.heap.size,1,none⟩=some (.string s1)/\w'.cell? ⟨w.heap.size+1,0,none⟩=some (.bool n2)/\w'.cell? ⟨w.heap.size+1,1,none⟩=some (.string s2)/\w'.cell? ⟨w.heap.size+2,0,none⟩=some (.bool false)/\w'.cell? ⟨w.heap.size+2,1,none⟩=some (.string ⟨#[]⟩)/\w'.frozen? ⟨w.heap.size+2,0,none⟩=false/\w'.frozen? ⟨w.heap.size+2,1,none⟩=false from
  fun w' h=>⟨(h.cell (by simp[hsz];try omega)).trans d0,(h.cell (by simp[hsz];try omega)).trans d1,(h.cell (by simp[hsz];try omega)).trans d2,(h.cell (by simp[hsz];try omega)).trans d3,(h.cell (by simp[hsz];try omega)).trans d4,(h.cell (by simp[hsz];try omega)).trans d5,(h.frozen (by simp[hsz];try omega)).trans d6,(h.frozen (by simp[hsz];try omega)).trans d7⟩)
 have BL:=Lib.hid (vX s1 (by omega));have BM:=Lib.hid (vX s2 (by omega));have HZ:=Lib.hid (And.intro h1 h2);have uq:=Lib.hid (show bF (n1 != n2) (nv s1*nv s2)=ival n1 s1*ival n2 s2 by
  unfold ival bF;cases n1 <;> cases n2 <;> simp[Int.neg_mul,Int.mul_neg])
 have wN:=Lib.hid (show((((nv s1*nv s2).natAbs:Nat):Int)<256^(4*2000)) from ue (k:=4000) (l:=4000) (by have:=ou h1;have:=(jM s1).1;omega) (by have:=ou h2;have:=(jM s2).1;omega) (by omega));clear h1 h2;have L0:w.heap.size<w3.heap.size:=by rw[hsz];omega
 have L1:w.heap.size+1<w3.heap.size:=by rw[hsz];omega
 have L2:w.heap.size+2<w3.heap.size:=by rw[hsz];omega
 have hne:¬ w.heap.size=w.heap.size+1+1:=by omega
 have iA:¬ w.heap.size+1=w.heap.size+1+1:=by omega
 have NG:=HS.out;clear HK hw3 hb3 hsz;go_enter Tryz.func76,Tryz.ntmps76;go_upto_region 1 with fail
 rw[<- HW.out];clear HW;go_region_held3 (fun w'=>w'.cell? ⟨w.heap.size,0,none⟩=some (.bool n1)/\w'.cell? ⟨w.heap.size,1,none⟩=some (.string s1)/\w'.cell? ⟨w.heap.size+1,0,none⟩=some (.bool n2)/\w'.cell? ⟨w.heap.size+1,1,none⟩=some (.string s2)) (first|exact⟨v0,v1,v2,v3⟩|exact⟨x0,x1,x2,x3⟩|exact⟨y0,y1,y2,y3⟩|exact⟨z0,z1,z2,z3⟩|exact⟨d0,d1,d2,d3⟩|exact⟨(cell_far _ _ _ _ _ _ hne).trans ((cell_far _ _ _ _ _ _ hne).trans v0),(cell_far _ _ _ _ _ _ hne).trans ((cell_far _ _ _ _ _ _ hne).trans v1),(cell_far _ _ _ _ _ _ iA).trans ((cell_far _ _ _ _ _ _ iA).trans v2),(cell_far _ _ _ _ _ _ iA).trans ((cell_far _ _ _ _ _ _ iA).trans v3)⟩|(refine⟨?_,?_,?_,?_⟩;go_keep;go_keep;go_keep;go_keep)) (first|(go_at_call 92;have gz:=z0;clear gz;go_must (refine(BM.out _).mono ?_;rintro e wy ⟨_,r2,rfl,⟨g2,c2,rfl,hg2,hc2,hr2⟩,hl2,ig,hv2,hbr⟩;have y0:=(hbr.cell (p:=⟨w.heap.size,0,none⟩) (mO)).trans z0;have y1:=(hbr.cell (p:=⟨w.heap.size,1,none⟩) (mO)).trans z1;have y2:=(hbr.cell (p:=⟨w.heap.size+1,0,none⟩) (mP)).trans z2;have y3:=(hbr.cell (p:=⟨w.heap.size+1,1,none⟩) (mP)).trans z3;have y4:=(hbr.cell (p:=⟨w.heap.size+2,0,none⟩) (xY)).trans z4;have y5:=(hbr.cell (p:=⟨w.heap.size+2,1,none⟩) (xY)).trans z5;have y6:=(hbr.frozen (p:=⟨w.heap.size+2,0,none⟩) (xY)).trans z6;have y7:=(hbr.frozen (p:=⟨w.heap.size+2,1,none⟩) (xY)).trans z7;have mQ:=Nat.lt_of_lt_of_le mO hbr.size;have mR:=Nat.lt_of_lt_of_le mP hbr.size;have xZ:=Nat.lt_of_lt_of_le xY hbr.size;have sR:=je hbr hr1 (Nat.le_refl _);have k8:=fq oc hbr oc.size rfl rfl rfl rfl;clear hbr))|(go_at_call 92;go_must (refine(BL.out _).mono ?_;rintro e wz ⟨_,r1,rfl,⟨g1,c1,rfl,jE,hc1,hr1⟩,fJ,kT,kU,hbr⟩;have z0:=(hbr.cell (p:=⟨w.heap.size,0,none⟩) (L0)).trans d0;have z1:=(hbr.cell (p:=⟨w.heap.size,1,none⟩) (L0)).trans d1;have z2:=(hbr.cell (p:=⟨w.heap.size+1,0,none⟩) (L1)).trans d2;have z3:=(hbr.cell (p:=⟨w.heap.size+1,1,none⟩) (L1)).trans d3;have z4:=(hbr.cell (p:=⟨w.heap.size+2,0,none⟩) (L2)).trans d4;have z5:=(hbr.cell (p:=⟨w.heap.size+2,1,none⟩) (L2)).trans d5;have z6:=(hbr.frozen (p:=⟨w.heap.size+2,0,none⟩) (L2)).trans d6;have z7:=(hbr.frozen (p:=⟨w.heap.size+2,1,none⟩) (L2)).trans d7;have mO:=Nat.lt_of_lt_of_le L0 hbr.size;have mP:=Nat.lt_of_lt_of_le L1 hbr.size;have xY:=Nat.lt_of_lt_of_le L2 hbr.size;have oc:=fq NG hbr NG.size rfl rfl rfl rfl;clear hbr))|(go_at_call 91;go_must (refine(aqe (some ⟨g1,0,none⟩) (some ⟨g2,0,none⟩) _ _ c1 c2 r1 r2 rfl rfl (Nat.le_trans (tU (k:=1000) fJ kT kU HZ.out.1) (by decide)) (Nat.le_trans (tU (k:=1000) hl2 ig hv2 HZ.out.2) (by decide)) _ (by exact sR) (by exact hr2) fJ hl2).mono ?_;rintro e wx ⟨_,r3,rfl,⟨g3,c3,rfl,hg3,hc3,hr3⟩,gX,qJ,hv3,hbr⟩;have x0:=(hbr.cell (p:=⟨w.heap.size,0,none⟩) (mQ)).trans y0;have x1:=(hbr.cell (p:=⟨w.heap.size,1,none⟩) (mQ)).trans y1;have x2:=(hbr.cell (p:=⟨w.heap.size+1,0,none⟩) (mR)).trans y2;have x3:=(hbr.cell (p:=⟨w.heap.size+1,1,none⟩) (mR)).trans y3;have x4:=(hbr.cell (p:=⟨w.heap.size+2,0,none⟩) (xZ)).trans y4;have x5:=(hbr.cell (p:=⟨w.heap.size+2,1,none⟩) (xZ)).trans y5;have x6:=(hbr.frozen (p:=⟨w.heap.size+2,0,none⟩) (xZ)).trans y6;have x7:=(hbr.frozen (p:=⟨w.heap.size+2,1,none⟩) (xZ)).trans y7;have og:=Nat.lt_of_lt_of_le mQ hbr.size;have oh:=Nat.lt_of_lt_of_le mR hbr.size;have BN:=Nat.lt_of_lt_of_le xZ hbr.size;have jO:=fq k8 hbr k8.size rfl rfl rfl rfl;rw[kU,hv2]at hv3;have xP:=Nat.le_trans (KA gX qJ hv3 wN.out) (by decide:2000<=20000);clear hbr))|(go_at_call 87;go_must (refine(KS _ _ _ _ r3 rfl xP hc3 _ (by exact hr3) gX).mono ?_;rintro e wv ⟨rfl,hbr⟩;have v0:=(hbr.cell (p:=⟨w.heap.size,0,none⟩) (og)).trans x0;have v1:=(hbr.cell (p:=⟨w.heap.size,1,none⟩) (og)).trans x1;have v2:=(hbr.cell (p:=⟨w.heap.size+1,0,none⟩) (oh)).trans x2;have v3:=(hbr.cell (p:=⟨w.heap.size+1,1,none⟩) (oh)).trans x3;have v4:=(hbr.cell (p:=⟨w.heap.size+2,0,none⟩) (BN)).trans x4;have v5:=(hbr.cell (p:=⟨w.heap.size+2,1,none⟩) (BN)).trans x5;have v6:=(hbr.frozen (p:=⟨w.heap.size+2,0,none⟩) (BN)).trans x6;have v7:=(hbr.frozen (p:=⟨w.heap.size+2,1,none⟩) (BN)).trans x7;have lW:=fq jO hbr jO.size rfl rfl rfl rfl;clear hbr)))
 all_goals go_wp2
 all_goals refine bodyPost_ret (by simp[results,Tryz.results76,go_sem,v4,v5];try rfl) rfl ?_
 all_goals exact⟨by first|(rw[<- uq.out];rfl)|(rw[hv3,<- uq.out];rfl),(lW.setCell (by simp;try omega) _).setCell (by simp;try omega) _⟩
structure V7 (g N:Nat) (x:List Int) (b0:Int) (w:World) (k:Nat) (c:Int) (L':List Int) (w1:World):Prop where
 blk:cV w1 g L'
 len:L'.length=N
 bL:aH L'
 bit:c=0\/c=1
 val:win L' 0 k+c*B^k=2*aQ (lg x) k+b0
 only:bW g w w1
theorem ak0 {L' x:List Int} {k:Nat} {c b0:Int} (hk:k<L'.length) (hL:aH L') (hx:aH x) (hc:c=0\/c=1)
  (hv:win L' 0 k+c*B^k=2*aQ (lg x) k+b0) {T:Int} (hT:T=2*lg x k+c) :
  let L2:=L'.set k (T%4294967296);let c2:=T / 4294967296
  aH L2/\(c2=0\/c2=1)/\win L2 0 (k+1)+c2*B^(k+1)=2*aQ (lg x) (k+1)+b0:=by
 intro L2 c2;have hB:(B:Int)=4294967296:=rfl;have h1:=hx k;rw[hB]at h1
 refine⟨hL.set _ (by rw[hB];omega),by show T / 4294967296=0\/T / 4294967296=1;omega,?_⟩;have e1:win L2 0 k=win L' 0 k:=gB fun j hj=>by
  show lg (L'.set k _) _=_;rw[cO,if_neg (by omega)]
 have e2:lg L2 (0+k)=T%4294967296:=by
  show lg (L'.set k _) _=_;rw[cO,if_pos ⟨by omega,hk⟩]
 have hd:T%4294967296+T / 4294967296*4294967296=T:=by omega
 rw[eO,e1,e2,show aQ (lg x) (k+1)=aQ (lg x) k+lg x k*B^k from rfl,Bs];have hv2:win L' 0 k=2*aQ (lg x) k+b0-c*B^k:=by omega
 rw[hv2];show _+T / 4294967296*(B^k*B)=_;have e3:T%4294967296*B^k+T / 4294967296*(B^k*B)=T*B^k:=by
  rw[<- hd];generalize T%4294967296=u;generalize T / 4294967296=v;generalize B^k=p;rw[hB];grind
 have e4:2*aQ (lg x) k+b0-c*B^k+T%4294967296*B^k+T / 4294967296*(B^k*B)=2*aQ (lg x) k+b0-c*B^k+T*B^k:=by
  rw[<- e3];omega
 rw[e4,hT];generalize B^k=p;grind
theorem alH {L x:List Int} {n:Nat} {c b0:Int} (hL:L.length=n+1) (hx:x.length=n) (hc:c=0\/c=1) (hv:win L 0 n+c*B^n=2*aQ (lg x) n+b0):lv (L.set n c)=2*lv x+b0:=by
 have e:lv (L.set n c)=win (L.set n c) 0 (n+1):=by
  have:=fj (L.set n c);rw[List.length_set,hL]at this
  exact this.symm
 rw[e,eO];have e1:win (L.set n c) 0 n=win L 0 n:=gB fun j hj=>by rw[cO,if_neg (by omega)]
 have e2:lg (L.set n c) (0+n)=c:=by rw[cO,if_pos ⟨by omega,by omega⟩]
 rw[e1,e2,hv,show lv x=aQ (lg x) n from by unfold lv;rw[hx]]
theorem aa5 (A0:Option Addr) (n c0:Nat) (a:List Int) (b0:Int) (hb0:b0=0\/b0=1) (hn:a.length=n) (gP:n<=60000) (w:World) (ha:RL w A0 a) (hla:aH a) :
  Calls Tryz.prog 106 #[.slice A0 n c0,.int .u64 b0] w (F7 (2*lv a+b0) w):=by
 have hmk:=r_ (n+1) (by omega);rw[show((n+1:Nat):Int)=(n:Int)+1 by omega]at hmk
 have HA:=Lib.hid (And.intro ha (And.intro hn hla));have HBT:=Lib.hid hb0;clear ha hn hla hb0;go_enter Tryz.func106,Tryz.ntmps106;go_wp2
 have hb1:Below w.heap.size w (w.alloc (.cells (madeCells #[.int .u64 0] (n+1)) 122)):=(Below.refl _ _).alloc (Nat.le_refl _) _;have dz:=sj w (n+1);have hx1:=HA.out.1.below hb1 (Nat.le_refl _);have jl:0<a.length->∀ ad,A0=some ad->ad.block≠w.heap.size:=fun h ad e=>Nat.ne_of_lt (HA.out.1.lt h ad e);generalize hw3:w.alloc (.cells (madeCells #[.int .u64 0] (n+1)) 122)=w3 at *;obtain⟨g,hg⟩:∃ g,w.heap.size=g:=⟨_,rfl⟩
 have bI:=Lib.hid (And.intro hb1 hg);rw[hg]at dz jl ⊢
 have j5:=Lib.hid (show V7 g (n+1) a b0 w3 0 b0 (List.replicate (n+1) 0) w3 from ⟨dz,by simp,jd _,HBT.out,by simp[win,aQ],bW.refl _ _⟩);have HX:=Lib.hid hx1;have p_:=Lib.hid jl;clear dz hx1 jl hb1 hw3 hmk hg;go_loopw [1,6] (fun cv t w4=>∃ (k:Nat) (c:Int) (L':List Int),k<=n/\t = .int .i64 k/\cv = .int .u64 c/\V7 g (n+1) a b0 w3 k c L' w4) (fun _ t _=>n-(intOf t).toNat)
 case atStart=>exact⟨0,b0,_,Nat.zero_le _,rfl,rfl,j5.out⟩
 case round =>
  obtain⟨k,c,L',hk,rfl,rfl,hI⟩:=hrel;have sP:0<=c/\c<=1:=by rcases hI.bit with h|h <;> omega
  by_cases hlt:k<n
  ·have h1:decide ((k:Int)<(n:Int))=true:=by simp;omega
   have hce:=hI.blk.cell k (by rw[hI.len];omega);have hfr:=hI.blk.free k;have xR:=Lib.hid (HX.out.only hI.only p_.out);have lx:=HA.out.2.2 k;rw[show(B:Int)=4294967296 from rfl]at lx
   obtain⟨x,hx⟩:∃ x,lg a k=x:=⟨_,rfl⟩
   rw[hx]at lx
   obtain⟨ad,rfl,cC⟩:=xR.out.2 (by rw[HA.out.2.1];omega);have ca:=cC k (by rw[HA.out.2.1];omega);rw[hx]at ca
   obtain⟨s1,s2,s3⟩:=ak0 (T:=2*x+c) (by rw[hI.len];omega) hI.bL HA.out.2.2 hI.bit hI.val (by rw[hx]);have HS:=Lib.hid (show V7 g (n+1) a b0 w3 (k+1) ((2*x+c) / 4294967296) (L'.set k ((2*x+c)%4294967296)) (wr.setCell ⟨g,k,none⟩ (.int .u64 ((2*x+c)%4294967296))) from ⟨hI.blk.set _ _,by rw[List.length_set];exact hI.len,s1,s2,s3,hI.only.set _ _⟩);have a0:IntKind.u64.wrap (2*x)=2*x:=cJ _ ⟨by omega,by rw[aS.B_eq];omega⟩;have a1:IntKind.u64.wrap (2*x+c)=2*x+c:=cJ _ ⟨by omega,by rw[aS.B_eq];omega⟩;have a3:(2*x+c).tmod 4294967296=(2*x+c)%4294967296:=Int.tmod_eq_emod_of_nonneg (by omega);have a4:(2*x+c).tdiv 4294967296=(2*x+c) / 4294967296:=Int.tdiv_eq_ediv_of_nonneg (by omega);have a5:IntKind.u64.wrap ((2*x+c)%4294967296)=(2*x+c)%4294967296:=cJ _ ⟨by omega,by rw[aS.B_eq];omega⟩;have a6:IntKind.u64.wrap ((2*x+c) / 4294967296)=(2*x+c) / 4294967296:=cJ _ ⟨by omega,by rw[aS.B_eq];omega⟩;have z1:k<n:=hlt;have z2:k<n+1:=by omega
   have z3:(k:Int)<(n:Int)+1:=by omega
   have dx:=Lib.hid hlt;clear cC hx s1 s2 s3 hI hlt hk;go_wp2
   exact⟨⟨k+1,_,_,dx.out,by simp,rfl,HS.out⟩,by have:=dx.out;simp[intOf];omega⟩
  ·have he:k=n:=by omega
   subst he;have h1:decide ((k:Int)<(k:Int))=false:=by simp
   have hce:=hI.blk.cell k (by rw[hI.len];omega);have hfr:=hI.blk.free k;have z2:k<k+1:=by omega
   have z3:(k:Int)<(k:Int)+1:=by omega
   have xX:=Lib.hid (Ix (w:=w) (N:=k+1) (Nat.le_of_eq bI.out.2) (hI.blk.set k c) (by rw[List.length_set];exact hI.len) (by omega) (hI.bL.set k (by rw[show(B:Int)=4294967296 from rfl];omega)) (alH hI.len HA.out.2.1 hI.bit hI.val) (bW.below bI.out.1 (hI.only.set k (.int .u64 c)) (by rw[bI.out.2];exact Nat.le_refl _)));clear hI hlt hk;go_wp2_with fail
   refine(xX.out).mono ?_;rintro e w4 ⟨x,r,rfl,hr⟩;have HR:=Lib.hid hr;clear hr;go_wp2
   go_ret
   exact⟨x,r,rfl,HR.out⟩
end Go.Proofs.YtfcjnhkkfmgmpaaGreat
