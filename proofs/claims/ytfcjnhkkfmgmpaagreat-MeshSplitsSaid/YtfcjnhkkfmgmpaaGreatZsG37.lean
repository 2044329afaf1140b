import Derived.Test.YtfcjnhkkfmgmpaaGreatZsG36
set_option linter.all false
set_option maxRecDepth 100000
set_option maxHeartbeats 8000000
namespace Go.Proofs.aC.R
open Go.RowKit Go.Proofs.aC.Z Go.Proofs.aD.bf Go.Proofs.aD.ck Go.Proofs.aD.cL
attribute [local go_sem] cY cZ dm dn cW cX dc dh
def EU.f (af:Bool) (aa aj:ByteArray):Option (Bool × ByteArray × ByteArray):=(Hv.f af aa).bind fun abg=>(some (abg.1,abg.2,aj))
theorem EU.calls (af:Bool) (aa aj:ByteArray) (r1:Bool) (r2 r3:ByteArray) (w:World) (h:EU.f af aa aj=some (r1,r2,r3)) :
  Calls Tryz.prog 75 #[.agg #[.bool af,.string aa,.string aj]] w fun e w'=>e = .returned (.agg #[.bool r1,.string r2,.string r3])∧Below w.heap.size w w':=by
 have jT:=Tryz.underlying40;have yu:=Tryz.underlying38;have vT:=wQ;have yT:=wR;have hf2:=wS;have hf3:=wT;have HB:=qa (Below.refl w.heap.size w);unfold EU.f at h;have H:=h;clear h;obtain⟨⟨t152,t153⟩,A2,H⟩:=zo H;try dsimp only at H
 simp only[Option.some.injEq,Prod.mk.injEq]at H;obtain⟨rfl,rfl,rfl⟩:=H;go_enter Tryz.func75,Tryz.ntmps75;try go_wp2_with (first|((with_reducible refine aZ (N:=1) rfl ?_);refine zY 1 #[.bool af,.string aa,.string aj] 40 ?_;intro Tf hg w3 ah hb;have rE:=qa (ah);have awQ:=zG hg HB;have awR:=zG hg HB;replace HB:=zS HB hb;clear hb ah hg)|((with_reducible refine aZ (N:=2) rfl ?_);refine zY 2 #[.bool false,.string ⟨#[]⟩,.string ⟨#[]⟩] 40 ?_;intro sF hg w4 ah hb;have tR:=qa (ah);have awS:=zG hg HB;have awT:=zG hg HB;obtain⟨tv,Qe⟩:=zQ hg rE;replace rE:=zB rE hb;replace HB:=zS HB hb;clear hb ah hg))
 replace rE:=zD rE;replace tR:=zD tR;replace HB:=zF HB;refine l_ (n:=7) (S:=fun w'=>w'.cell? ⟨Tf,0,none⟩=some (.bool af)∧w'.cell? ⟨Tf,1,none⟩=some (.string aa)∧w'.cell? ⟨Tf,2,none⟩=some (.string aj)) (ds:=[]) (zb 7 0) (by kernel_rfl) rfl rfl ⟨zc rE 0,zc rE 1,zc rE 2⟩ (fun hHeld=>?_);generalize w4.drew=w5 at rE tR HB hHeld ⊢;refine ir (i:=0) (N:=some 3) (v:=?_) (a':=?_) (zb 7 1) rfl rfl (by kernel_rfl) (fun _ _ _ h=>h) (Or.inl ⟨by rfl,?_⟩) ?_ ?_;rotate_left
 ·intro w'
  go_simp
  with_reducible rfl
 rotate_left
 ·simp only[Act.put,List.setIfInBounds_toArray,List.set_cons_zero,List.set_cons_succ,dJ,dK]
  rfl
 refine ir (i:=3) (N:=some 6) (v:=?_) (a':=?_) (zb 7 9) rfl rfl (by kernel_rfl) (fun _ _ _ h=>h) (Or.inl ⟨by rfl,?_⟩) ?_ ?_;rotate_left
 ·intro w'
  go_simp
  with_reducible rfl
 rotate_left
 ·simp only[Act.put,List.setIfInBounds_toArray,List.set_cons_zero,List.set_cons_succ,dJ,dK]
  rfl
 refine Da (i:=1) (N:=some 4) (v:=?_) (a':=?_) (zb 7 11) rfl rfl (by kernel_rfl) (fun _ _ _ h=>h) (Or.inl ⟨by rfl,?_⟩) hHeld ?_ ?_;rotate_left
 ·rintro w' ⟨s0,s1,s2⟩
  go_simp
  with_reducible rfl
 rotate_left
 ·simp only[Act.put,List.setIfInBounds_toArray,List.set_cons_zero,List.set_cons_succ,dJ,dK]
  rfl
 refine Da (i:=4) (N:=some 7) (v:=?_) (a':=?_) (zb 7 27) rfl rfl (by kernel_rfl) (fun _ _ _ h=>h) (Or.inl ⟨by rfl,?_⟩) hHeld ?_ ?_;rotate_left
 ·rintro w' ⟨s0,s1,s2⟩
  go_simp
  with_reducible rfl
 rotate_left
 ·simp only[Act.put,List.setIfInBounds_toArray,List.set_cons_zero,List.set_cons_succ,dJ,dK]
  rfl
 refine bN (i:=2) (N:=some 5) (zb 7 31) rfl rfl (by kernel_rfl) (by decide) (fun K hK=>?_);refine zJ Tryz.func90 (by kernel_rfl) (Hv.calls af aa t152 t153 _ A2.out) fun w6 hb=>?_;obtain⟨rE,tR⟩:=fN rE tR hb;replace HB:=zS HB hb
 (try clear hb)
 refine hK.out _ _ ⟨zc rE 0,zc rE 1,zc rE 2⟩ (fun hHeld=>?_);clear hK K;refine zW (some 5) ?_;refine ir (i:=5) (N:=some 8) (v:=?_) (a':=?_) (zb 7 63) rfl rfl (by kernel_rfl) (fun _ _ _ h=>h) (Or.inl ⟨by rfl,?_⟩) ?_ ?_;rotate_left
 ·intro w'
  go_simp
  with_reducible rfl
 rotate_left
 ·simp only[Act.put,List.setIfInBounds_toArray,List.set_cons_zero,List.set_cons_succ,dJ,dK]
  rfl
 refine bN (i:=6) (N:=none) (zb 7 127) rfl rfl (by kernel_rfl) (by decide) (fun K hK=>?_);have hs7:w6.cell? ⟨sF,0,none⟩=some (.bool false):=zc tR 0;have azF:=cF tR.out 0;have aws:=tv.out;have awt:=Qe.out;have hs8:w6.cell? ⟨sF,1,none⟩=some (.string ⟨#[]⟩):=zc tR 1;have azG:=cF tR.out 1;have awu:=tv.out;have awv:=Qe.out;have hs9:w6.cell? ⟨sF,2,none⟩=some (.string ⟨#[]⟩):=zc tR 2;have azH:=cF tR.out 2;have aww:=tv.out;have awx:=Qe.out;refine rC (w1:=?_) (by rfl) rfl ?_ ?_;rotate_left
 ·go_simp
  rfl
 refine hK.out _ _ ⟨((cell_far (p:=⟨sF,_,none⟩) tv.out _).trans (((cell_far (p:=⟨sF,_,none⟩) tv.out _).trans (((cell_far (p:=⟨sF,_,none⟩) tv.out _).trans (hHeld.1)))))),((cell_far (p:=⟨sF,_,none⟩) tv.out _).trans (((cell_far (p:=⟨sF,_,none⟩) tv.out _).trans (((cell_far (p:=⟨sF,_,none⟩) tv.out _).trans (hHeld.2.1)))))),((cell_far (p:=⟨sF,_,none⟩) tv.out _).trans (((cell_far (p:=⟨sF,_,none⟩) tv.out _).trans (((cell_far (p:=⟨sF,_,none⟩) tv.out _).trans (hHeld.2.2))))))⟩ (fun hHeld=>?_);clear hK K;refine mj (by kernel_rfl) ?_;try go_wp2
 refine bodyPost_ret (results_cell_row rfl _ _ sF 40 #[.bool t152,.string t153,.string aj] (0,0) _ rfl (by (with_reducible repeat(first|refine aI ?_ _|refine aH ?_|refine aF ?_ _));refine zP (cs:=#[.bool t152,.string t153,.string ⟨#[]⟩]) ?_ 2 _;(with_reducible repeat(first|refine aI ?_ _|refine aH ?_|refine aF ?_ _));refine zP (cs:=#[.bool t152,.string ⟨#[]⟩,.string ⟨#[]⟩]) ?_ 1 _;(with_reducible repeat(first|refine aI ?_ _|refine aH ?_|refine aF ?_ _));refine zP (cs:=#[.bool false,.string ⟨#[]⟩,.string ⟨#[]⟩]) ?_ 0 _;(with_reducible repeat(first|refine aI ?_ _|refine aH ?_|refine aF ?_ _));exact tR.out) Tryz.underlying40 rfl (by kernel_rfl)) rfl ?_;exact⟨zH,zT HB⟩
def oC.f (k:Nat) (af:Bool) (aa aj:ByteArray) (aq:Bool) (ak ay:ByteArray):Option (Bool × ByteArray × ByteArray × Int):=(uH.f k af aa aj aq ak ay).bind fun GF=>(if GF=0 then ((ow.f af aa aq ak).bind fun abP=>((jv.f af aa aj).bind fun abQ=>((jv.f aq ak ay).bind fun abR=>((ow.f abQ.1 abQ.2 abR.1 abR.2).bind fun abS=>((nV.f k abP.1 abP.2 abS.1 abS.2).bind fun TG=>(some (TG.1,TG.2.1,TG.2.2,0))))))) else (some (false,⟨#[]⟩,⟨#[]⟩,GF)))
def oC.T4:Bool × List (List Nat × List Nat):=(true,[([],[]),([0],[0]),([],[]),([2],[2]),([1,3],[1,3]),([],[]),([5,4],[5]),([],[]),([7,6],[7]),([6,8,8],[6,8]),([4,9,9],[4,9]),([10,10,0,1,2,3,4,5,6,7,8,9,10],[10]),([11,0,1,2,3,4,5,6,7,8,9,10,11],[])])
def oC.B4:List Nat:=[0,1,0,4,15,0,63,0,255,511,1023,2047,4095]
theorem oC.DA:gZ .any (opsOf Tryz.f111 4)=oC.T4:=by kernel_rfl
theorem oC.Db:nG oC.T4.2 oC.B4=true:=by kernel_rfl
theorem oC.calls (k:Nat) (af:Bool) (aa aj:ByteArray) (aq:Bool) (ak ay:ByteArray) (r1:Bool) (r2 r3:ByteArray) (r4:Int) (w:World) (h:oC.f k af aa aj aq ak ay=some (r1,r2,r3,r4)) :
  Calls Tryz.prog 111 #[.agg #[.bool af,.string aa,.string aj],.agg #[.bool aq,.string ak,.string ay]] w fun e w'=>e = .returned (.tuple #[.agg #[.bool r1,.string r2,.string r3],.int .i64 r4])∧Below w.heap.size w w':=by
 have jT:=Tryz.underlying40;have yu:=Tryz.underlying38;have vT:=wQ;have yT:=wR;have hf2:=wS;have hf3:=wT;have HB:=qa (Below.refl w.heap.size w);unfold oC.f at h;have H:=h;clear h;obtain⟨GF,A3,H⟩:=zo H;by_cases c4:GF=0
 ·rw[if_pos c4]at H
  have fI:=beq_iff_eq.mpr c4;have n7:=bne_eq_false_iff_eq.mpr c4;clear c4;obtain⟨⟨adm,adn⟩,A5,H⟩:=zo H;try dsimp only at H
  obtain⟨⟨ado,adq⟩,A6,H⟩:=zo H;try dsimp only at H
  obtain⟨⟨adr,ads⟩,A7,H⟩:=zo H;try dsimp only at H
  obtain⟨⟨adt,adu⟩,A8,H⟩:=zo H;try dsimp only at H
  obtain⟨⟨OB,US,adv⟩,A9,H⟩:=zo H;try dsimp only at H
  simp only[Option.some.injEq,Prod.mk.injEq]at H;obtain⟨rfl,rfl,rfl,rfl⟩:=H;go_enter Tryz.func111,Tryz.ntmps111;try go_wp2_with (first|((with_reducible refine aZ (N:=2) rfl ?_);refine zY 2 #[.bool af,.string aa,.string aj] 40 ?_;intro NW hg g_ ah hb;have eC:=qa (ah);have ane:=zG hg HB;have anf:=zG hg HB;replace HB:=zS HB hb;clear hb ah hg)|((with_reducible refine aZ (N:=3) rfl ?_);refine zY 3 #[.bool aq,.string ak,.string ay] 40 ?_;intro NY hg kD ah hb;have fD:=qa (ah);have ang:=zG hg HB;have anh:=zG hg HB;obtain⟨Qw,Qx⟩:=zQ hg eC;replace eC:=zB eC hb;replace HB:=zS HB hb;clear hb ah hg)|((with_reducible refine aZ (N:=4) rfl ?_);refine zY 4 #[.bool false,.string ⟨#[]⟩,.string ⟨#[]⟩] 40 ?_;intro lF hg jd ah hb;have kB:=qa (ah);have ani:=zG hg HB;have anj:=zG hg HB;obtain⟨qb,E8⟩:=zQ hg eC;obtain⟨qc,E9⟩:=zQ hg fD;obtain⟨eC,fD⟩:=fN eC fD hb;replace HB:=zS HB hb;clear hb ah hg;have FV:=Qw.out;have FW:=Qx.out;have JC:=qb.out;have JD:=E8.out;obtain⟨Fu,Fv,Fw,Fx,Fy,Fz⟩:=z3 eC;have JN:=qc.out;have JO:=E9.out;obtain⟨R6,R7,R8,R9,R_,Sa⟩:=z3 fD)|((with_reducible refine dB (f:=120) rfl ?_);refine zO Tryz.func120 (by kernel_rfl) (uH.calls k af aa aj aq ak ay GF _ A3.out) fun Lm hb=>?_;obtain⟨eC,fD,kB⟩:=bL eC fD kB hb;replace HB:=zS HB hb;(try clear hb)))
  replace eC:=zD eC;replace fD:=zD fD;replace kB:=zD kB;replace HB:=zF HB;refine l_ (n:=13) (S:=fun w'=>w'.cell? ⟨NW,0,none⟩=some (.bool af)∧w'.cell? ⟨NW,1,none⟩=some (.string aa)∧w'.cell? ⟨NW,2,none⟩=some (.string aj)∧w'.cell? ⟨NY,0,none⟩=some (.bool aq)∧w'.cell? ⟨NY,1,none⟩=some (.string ak)∧w'.cell? ⟨NY,2,none⟩=some (.string ay)) (ds:=[]) (zb 13 0) (by kernel_rfl) rfl rfl ⟨zc eC 0,zc eC 1,zc eC 2,zc fD 0,zc fD 1,zc fD 2⟩ (fun hHeld=>?_);refine nC oC.DA oC.Db (fun av bH=>?_);generalize Lm.drew=V7 at eC fD kB HB hHeld ⊢;refine zU (i:=0) (N:=some 14) (zb 13 1) (a_ av.out (by kernel_rfl)) ?_;refine zU (i:=2) (N:=some 16) (zb 13 5) (a_ av.out (by kernel_rfl)) ?_;refine zV (i:=1) (N:=some 15) (zb 13 7) (bV av.out bH.out (by kernel_rfl)) hHeld ?_;refine zV (i:=3) (N:=some 17) (zb 13 15) (bV av.out bH.out (by kernel_rfl)) hHeld ?_;refine zV (i:=5) (N:=some 19) (zb 13 47) (bV av.out bH.out (by kernel_rfl)) hHeld ?_;refine zV (i:=7) (N:=some 21) (zb 13 175) (bV av.out bH.out (by kernel_rfl)) hHeld ?_;refine bN (i:=4) (N:=some 18) (zb 13 191) rfl rfl (bS av.out (by kernel_rfl)) (by decide) (fun K hK=>?_);refine zJ Tryz.func122 (by kernel_rfl) (ow.calls af aa aq ak adm adn _ A5.out) fun Px hb=>?_;obtain⟨eC,fD,kB⟩:=bL eC fD kB hb;replace HB:=zS HB hb
  (try clear hb)
  refine hK.out _ _ ⟨zc eC 0,zc eC 1,zc eC 2,zc fD 0,zc fD 1,zc fD 2⟩ (fun hHeld=>?_);clear hK K;refine zW (some 18) ?_;refine bN (i:=6) (N:=some 20) (zb 13 255) rfl rfl (bS av.out (by kernel_rfl)) (by decide) (fun K hK=>?_);refine zJ Tryz.func108 (by kernel_rfl) (jv.calls af aa aj ado adq _ A6.out) fun ze hb=>?_;obtain⟨eC,fD,kB⟩:=bL eC fD kB hb;replace HB:=zS HB hb
  (try clear hb)
  refine hK.out _ _ ⟨zc eC 0,zc eC 1,zc eC 2,zc fD 0,zc fD 1,zc fD 2⟩ (fun hHeld=>?_);clear hK K;refine zW (some 20) ?_;refine bN (i:=8) (N:=some 22) (zb 13 511) rfl rfl (bS av.out (by kernel_rfl)) (by decide) (fun K hK=>?_);refine zJ Tryz.func108 (by kernel_rfl) (jv.calls aq ak ay adr ads _ A7.out) fun w22 hb=>?_;obtain⟨eC,fD,kB⟩:=bL eC fD kB hb;replace HB:=zS HB hb
  (try clear hb)
  refine hK.out _ _ ⟨zc eC 0,zc eC 1,zc eC 2,zc fD 0,zc fD 1,zc fD 2⟩ (fun hHeld=>?_);clear hK K;refine zW (some 22) ?_;refine bN (i:=9) (N:=some 23) (zb 13 1023) rfl rfl (bS av.out (by kernel_rfl)) (by decide) (fun K hK=>?_);refine zJ Tryz.func122 (by kernel_rfl) (ow.calls ado adq adr ads adt adu _ A8.out) fun Es hb=>?_;obtain⟨eC,fD,kB⟩:=bL eC fD kB hb;replace HB:=zS HB hb
  (try clear hb)
  refine hK.out _ _ ⟨zc eC 0,zc eC 1,zc eC 2,zc fD 0,zc fD 1,zc fD 2⟩ (fun hHeld=>?_);clear hK K;refine zW (some 23) ?_;refine bN (i:=10) (N:=some 24) (zb 13 2047) rfl rfl (bS av.out (by kernel_rfl)) (by decide) (fun K hK=>?_);refine zJ Tryz.func121 (by kernel_rfl) (nV.calls k adm adn adt adu OB US adv _ A9.out) fun zf hb=>?_;obtain⟨eC,fD,kB⟩:=bL eC fD kB hb;replace HB:=zS HB hb
  (try clear hb)
  refine hK.out _ _ ⟨zc eC 0,zc eC 1,zc eC 2,zc fD 0,zc fD 1,zc fD 2⟩ (fun hHeld=>?_);clear hK K;refine zW (some 24) ?_;refine bN (i:=11) (N:=none) (zb 13 4095) rfl rfl (bS av.out (by kernel_rfl)) (by decide) (fun K hK=>?_);have apA:zf.cell? ⟨lF,0,none⟩=some (.bool false):=zc kB 0;have ank:=cF kB.out 0;have aiQ:=qb.out;have aiR:=qc.out;have aiS:=E8.out;have aiT:=E9.out;have apB:zf.cell? ⟨lF,1,none⟩=some (.string ⟨#[]⟩):=zc kB 1;have anl:=cF kB.out 1;have aiU:=qb.out;have aiV:=qc.out;have aiW:=E8.out;have aiX:=E9.out;have apC:zf.cell? ⟨lF,2,none⟩=some (.string ⟨#[]⟩):=zc kB 2;have anm:=cF kB.out 2;have aiY:=qb.out;have aiZ:=qc.out;have ai0:=E8.out;have ai1:=E9.out;refine rC (w1:=?_) (by rfl) rfl ?_ ?_;rotate_left
  ·go_simp
   rfl
  refine hK.out _ _ ⟨((cell_far (p:=⟨lF,_,none⟩) qb.out _).trans (((cell_far (p:=⟨lF,_,none⟩) qb.out _).trans (((cell_far (p:=⟨lF,_,none⟩) qb.out _).trans (hHeld.1)))))),((cell_far (p:=⟨lF,_,none⟩) qb.out _).trans (((cell_far (p:=⟨lF,_,none⟩) qb.out _).trans (((cell_far (p:=⟨lF,_,none⟩) qb.out _).trans (hHeld.2.1)))))),((cell_far (p:=⟨lF,_,none⟩) qb.out _).trans (((cell_far (p:=⟨lF,_,none⟩) qb.out _).trans (((cell_far (p:=⟨lF,_,none⟩) qb.out _).trans (hHeld.2.2.1)))))),((cell_far (p:=⟨lF,_,none⟩) qc.out _).trans (((cell_far (p:=⟨lF,_,none⟩) qc.out _).trans (((cell_far (p:=⟨lF,_,none⟩) qc.out _).trans (hHeld.2.2.2.1)))))),((cell_far (p:=⟨lF,_,none⟩) qc.out _).trans (((cell_far (p:=⟨lF,_,none⟩) qc.out _).trans (((cell_far (p:=⟨lF,_,none⟩) qc.out _).trans (hHeld.2.2.2.2.1)))))),((cell_far (p:=⟨lF,_,none⟩) qc.out _).trans (((cell_far (p:=⟨lF,_,none⟩) qc.out _).trans (((cell_far (p:=⟨lF,_,none⟩) qc.out _).trans (hHeld.2.2.2.2.2))))))⟩ (fun hHeld=>?_);clear hK K;refine zU (i:=12) (N:=some 5) (zb 13 8191) (a_ av.out (by kernel_rfl)) ?_;refine mj (nE av.out (by kernel_rfl)) ?_;try go_wp2
  refine bodyPost_ret (qZ rfl _ _ lF 40 #[.bool OB,.string US,.string adv] (0,0) _ rfl (by (with_reducible repeat(first|refine aI ?_ _|refine aH ?_|refine aF ?_ _));refine zP (cs:=#[.bool OB,.string US,.string ⟨#[]⟩]) ?_ 2 _;(with_reducible repeat(first|refine aI ?_ _|refine aH ?_|refine aF ?_ _));refine zP (cs:=#[.bool OB,.string ⟨#[]⟩,.string ⟨#[]⟩]) ?_ 1 _;(with_reducible repeat(first|refine aI ?_ _|refine aH ?_|refine aF ?_ _));refine zP (cs:=#[.bool false,.string ⟨#[]⟩,.string ⟨#[]⟩]) ?_ 0 _;(with_reducible repeat(first|refine aI ?_ _|refine aH ?_|refine aF ?_ _));exact kB.out) Tryz.underlying40 rfl (by kernel_rfl)) rfl ?_;exact⟨zH,zT HB⟩
 ·rw[if_neg c4]at H
  have fI:=beq_eq_false_iff_ne.mpr c4;have n7:=bne_iff_ne.mpr c4;simp only[Option.some.injEq,Prod.mk.injEq]at H;obtain⟨rfl,rfl,rfl,rfl⟩:=H;go_enter Tryz.func111,Tryz.ntmps111;go_wp2_with (first|((with_reducible refine aZ (N:=2) rfl ?_);refine zY 2 #[.bool af,.string aa,.string aj] 40 ?_;intro NW hg Py ah hb;have eC:=qa (ah);have ane:=zG hg HB;have anf:=zG hg HB;replace HB:=zS HB hb;clear hb ah hg)|((with_reducible refine aZ (N:=3) rfl ?_);refine zY 3 #[.bool aq,.string ak,.string ay] 40 ?_;intro NY hg We ah hb;have fD:=qa (ah);have ang:=zG hg HB;have anh:=zG hg HB;obtain⟨Qw,Qx⟩:=zQ hg eC;replace eC:=zB eC hb;replace HB:=zS HB hb;clear hb ah hg)|((with_reducible refine aZ (N:=4) rfl ?_);refine zY 4 #[.bool false,.string ⟨#[]⟩,.string ⟨#[]⟩] 40 ?_;intro lF hg Lc ah hb;have kB:=qa (ah);have ani:=zG hg HB;have anj:=zG hg HB;obtain⟨qb,E8⟩:=zQ hg eC;obtain⟨qc,E9⟩:=zQ hg fD;obtain⟨eC,fD⟩:=fN eC fD hb;replace HB:=zS HB hb;clear hb ah hg;have abJ:=Qw.out;have abK:=Qx.out;have abL:=qb.out;have abM:=E8.out;obtain⟨Y8,Y9,Y_,Za,Zb,Zc⟩:=z3 eC;have ann:=qc.out;have ano:=E9.out;obtain⟨Zq,Zr,ai2,Zs,Zt,ai3⟩:=z3 fD)|((with_reducible refine dB (f:=120) rfl ?_);refine zO Tryz.func120 (by kernel_rfl) (uH.calls k af aa aj aq ak ay GF _ A3.out) fun uq hb=>?_;obtain⟨eC,fD,kB⟩:=bL eC fD kB hb;replace HB:=zS HB hb;(try clear hb);obtain⟨aiu,aiv,aiw,aix,aiy,aiz⟩:=z3 kB))
  refine bodyPost_ret (qZ rfl _ _ lF 40 #[.bool false,.string ⟨#[]⟩,.string ⟨#[]⟩] (0,0) _ rfl (by (with_reducible repeat(first|refine aI ?_ _|refine aH ?_|refine aF ?_ _));refine zP (cs:=#[.bool false,.string ⟨#[]⟩,.string ⟨#[]⟩]) ?_ 2 _;(with_reducible repeat(first|refine aI ?_ _|refine aH ?_|refine aF ?_ _));refine zP (cs:=#[.bool false,.string ⟨#[]⟩,.string ⟨#[]⟩]) ?_ 1 _;(with_reducible repeat(first|refine aI ?_ _|refine aH ?_|refine aF ?_ _));refine zP (cs:=#[.bool false,.string ⟨#[]⟩,.string ⟨#[]⟩]) ?_ 0 _;(with_reducible repeat(first|refine aI ?_ _|refine aH ?_|refine aF ?_ _));exact kB.out) Tryz.underlying40 rfl (by kernel_rfl)) rfl ?_;exact⟨zH,zT HB⟩
open Go.Proofs.YtfcjnhkkfmgmpaaGreat Go.Proofs.YtfcjnhkkfmgmpaaGreat.aR in
def uy.f (k:Nat) (af:Bool) (aa aj:ByteArray) (aq:Bool) (ak ay:ByteArray):Option (Bool × ByteArray × ByteArray):=(oC.f k af aa aj aq ak ay).map fun r=>(r.1,r.2.1,r.2.2.1)
open Go.Proofs.YtfcjnhkkfmgmpaaGreat Go.Proofs.YtfcjnhkkfmgmpaaGreat.aR in
theorem uy.calls (k:Nat) (af:Bool) (aa aj:ByteArray) (aq:Bool) (ak ay:ByteArray) (r1:Bool) (r2 r3:ByteArray) (w:World) (h:uy.f k af aa aj aq ak ay=some (r1,r2,r3)) :
  Calls Tryz.prog 110 #[.func (.func 111) #[] #[],.agg #[.bool af,.string aa,.string aj],.agg #[.bool aq,.string ak,.string ay]] w fun e w'=>e = .returned (.agg #[.bool r1,.string r2,.string r3])∧Below w.heap.size w w':=by
 unfold uy.f at h;obtain⟨⟨x1,x2,x3,x4⟩,hx,he⟩:=Option.map_eq_some_iff.1 h;simp only[Prod.mk.injEq]at he;obtain⟨rfl,rfl,rfl⟩:=he;exact ak7 _ _ _ _ _ _ _ _ _ _ (qa fun w=>oC.calls k _ _ _ _ _ _ _ _ _ _ w hx) w
def CN.f (k:Nat) (af:Bool) (aa aj:ByteArray) (aq:Bool) (ak ay:ByteArray):Option (Bool × ByteArray × ByteArray × Int):=(Hu.f k af aa aj aq ak ay).bind fun N0=>(some (N0.1,N0.2.1,N0.2.2.1,N0.2.2.2))
theorem CN.calls (k:Nat) (af:Bool) (aa aj:ByteArray) (aq:Bool) (ak ay:ByteArray) (r1:Bool) (r2 r3:ByteArray) (r4:Int) (w:World) (h:CN.f k af aa aj aq ak ay=some (r1,r2,r3,r4)) :
  Calls Tryz.prog 98 #[.agg #[.bool af,.string aa,.string aj],.agg #[.bool aq,.string ak,.string ay]] w fun e w'=>e = .returned (.tuple #[.agg #[.bool r1,.string r2,.string r3],.int .i64 r4])∧Below w.heap.size w w':=by
 have jT:=Tryz.underlying40;have HB:=qa (Below.refl w.heap.size w);unfold CN.f at h;have H:=h;clear h;obtain⟨⟨OE,UW,adD,apF⟩,A3,H⟩:=zo H;try dsimp only at H
 simp only[Option.some.injEq,Prod.mk.injEq]at H;obtain⟨rfl,rfl,rfl,rfl⟩:=H;go_enter Tryz.func98,Tryz.ntmps98;go_wp2_with (first|((with_reducible refine aZ (N:=2) rfl ?_);refine zY 2 #[.bool af,.string aa,.string aj] 40 ?_;intro ax9 hg w4 ah hb;have xW:=qa (ah);have ax_:=zG hg HB;have ax':=zG hg HB;replace HB:=zS HB hb;clear hb ah hg)|((with_reducible refine aZ (N:=3) rfl ?_);refine zY 3 #[.bool aq,.string ak,.string ay] 40 ?_;intro aya hg w5 ah hb;have F_:=qa (ah);have ayb:=zG hg HB;have ayc:=zG hg HB;obtain⟨afj,afk⟩:=zQ hg xW;replace xW:=zB xW hb;replace HB:=zS HB hb;clear hb ah hg)|((with_reducible refine aZ (N:=4) rfl ?_);refine zY 4 #[.bool false,.string ⟨#[]⟩,.string ⟨#[]⟩] 40 ?_;intro anC hg w6 ah hb;have N3:=qa (ah);have ayd:=zG hg HB;have aye:=zG hg HB;obtain⟨afl,afm⟩:=zQ hg xW;obtain⟨afn,afo⟩:=zQ hg F_;obtain⟨xW,F_⟩:=fN xW F_ hb;replace HB:=zS HB hb;clear hb ah hg;have Oy:=afj.out;have Oz:=afk.out;have AM:=afl.out;have AO:=afm.out;obtain⟨Ap,Aq,FO,Ar,At,FP⟩:=z3 xW;have Dh:=afn.out;have Di:=afo.out;obtain⟨tG,tH,tI,tJ,tK,tL⟩:=z3 F_)|((with_reducible refine dB (f:=112) rfl ?_);refine zO Tryz.func112 (by kernel_rfl) (Hu.calls k af aa aj aq ak ay OE UW adD apF _ A3.out) fun jd hb=>?_;obtain⟨xW,F_,N3⟩:=bL xW F_ N3 hb;replace HB:=zS HB hb;(try clear hb);obtain⟨Je,Jf,Jg,Jh,Ji,Jj⟩:=z3 N3))
 refine bodyPost_ret (qZ rfl _ _ anC 40 #[.bool OE,.string UW,.string adD] (0,0) _ rfl (by (with_reducible repeat(first|refine aI ?_ _|refine aH ?_|refine aF ?_ _));refine zP (cs:=#[.bool OE,.string UW,.string ⟨#[]⟩]) ?_ 2 _;(with_reducible repeat(first|refine aI ?_ _|refine aH ?_|refine aF ?_ _));refine zP (cs:=#[.bool OE,.string ⟨#[]⟩,.string ⟨#[]⟩]) ?_ 1 _;(with_reducible repeat(first|refine aI ?_ _|refine aH ?_|refine aF ?_ _));refine zP (cs:=#[.bool false,.string ⟨#[]⟩,.string ⟨#[]⟩]) ?_ 0 _;(with_reducible repeat(first|refine aI ?_ _|refine aH ?_|refine aF ?_ _));exact N3.out) Tryz.underlying40 rfl (by kernel_rfl)) rfl ?_;exact⟨zH,zT HB⟩
open Go.Proofs.YtfcjnhkkfmgmpaaGreat Go.Proofs.YtfcjnhkkfmgmpaaGreat.aR in
def qX.f (k:Nat) (af:Bool) (aa aj:ByteArray) (aq:Bool) (ak ay:ByteArray):Option (Bool × ByteArray × ByteArray):=(CN.f k af aa aj aq ak ay).map fun r=>(r.1,r.2.1,r.2.2.1)
open Go.Proofs.YtfcjnhkkfmgmpaaGreat Go.Proofs.YtfcjnhkkfmgmpaaGreat.aR in
theorem qX.calls (k:Nat) (af:Bool) (aa aj:ByteArray) (aq:Bool) (ak ay:ByteArray) (r1:Bool) (r2 r3:ByteArray) (w:World) (h:qX.f k af aa aj aq ak ay=some (r1,r2,r3)) :
  Calls Tryz.prog 110 #[.func (.func 98) #[] #[],.agg #[.bool af,.string aa,.string aj],.agg #[.bool aq,.string ak,.string ay]] w fun e w'=>e = .returned (.agg #[.bool r1,.string r2,.string r3])∧Below w.heap.size w w':=by
 unfold qX.f at h;obtain⟨⟨x1,x2,x3,x4⟩,hx,he⟩:=Option.map_eq_some_iff.1 h;simp only[Prod.mk.injEq]at he;obtain⟨rfl,rfl,rfl⟩:=he;exact ak6 _ _ _ _ _ _ _ _ _ _ (qa fun w=>CN.calls k _ _ _ _ _ _ _ _ _ _ w hx) w
end Go.Proofs.aC.R
