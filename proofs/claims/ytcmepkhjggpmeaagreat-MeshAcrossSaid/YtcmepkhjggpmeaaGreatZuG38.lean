import Derived.Test.YtcmepkhjggpmeaaGreatZuG37
set_option linter.all false
set_option maxRecDepth 100000
set_option maxHeartbeats 8000000
namespace Go.Proofs.aF.R
open Go.RowKit Go.Proofs.aF.Z Go.Proofs.aD.aY Go.Proofs.aD.bO Go.Proofs.aD.bT
attribute [local go_sem] ct cu cA cC ck cm cw cz
def Fm.f (af:Bool) (aa aj:ByteArray):Option (Bool × ByteArray × ByteArray):=(IC.f af aa).bind fun aa7=>(some (aa7.1,aa7.2,aj))
theorem Fm.calls (af:Bool) (aa aj:ByteArray) (r1:Bool) (r2 r3:ByteArray) (w:World) (h:Fm.f af aa aj=some (r1,r2,r3)) :
  Calls Tryz.prog 146 #[.agg #[.bool af,.string aa,.string aj]] w fun e w'=>e = .returned (.agg #[.bool r1,.string r2,.string r3])/\Below w.heap.size w w':=by
 have iL:=Tryz.underlying40;have zk:=Tryz.underlying38;have wK:=xA;have t_:=xB;have hf2:=xC;have hf3:=xD;have HB:=qa (Below.refl w.heap.size w);unfold Fm.f at h;have H:=h;clear h;obtain⟨⟨t151,t152⟩,A2,H⟩:=zo H;try dsimp only at H
 simp only[Option.some.injEq,Prod.mk.injEq]at H;obtain⟨rfl,rfl,rfl⟩:=H;go_enter Tryz.func146,Tryz.ntmps146;try go_wp2_with (first|((with_reducible refine aV (N:=1) rfl ?_);refine zY 1 #[.bool af,.string aa,.string aj] 40 ?_;intro TF hg w3 ah hb;have sN:=qa (ah);have axu:=zG hg HB;have axv:=zG hg HB;replace HB:=zS HB hb;clear hb ah hg)|((with_reducible refine aV (N:=2) rfl ?_);refine zY 2 #[.bool false,.string ⟨#[]⟩,.string ⟨#[]⟩] 40 ?_;intro tC hg w4 ah hb;have uE:=qa (ah);have axw:=zG hg HB;have axx:=zG hg HB;obtain⟨uo,Qt⟩:=zQ hg sN;replace sN:=zB sN hb;replace HB:=zS HB hb;clear hb ah hg))
 replace sN:=zD sN;replace uE:=zD uE;replace HB:=zF HB;refine l9 (n:=7) (S:=fun w'=>w'.cell? ⟨TF,0,none⟩=some (.bool af)/\w'.cell? ⟨TF,1,none⟩=some (.string aa)/\w'.cell? ⟨TF,2,none⟩=some (.string aj)) (ds:=[]) (zb 7 0) qk rfl rfl ⟨zc sN 0,zc sN 1,zc sN 2⟩ (fun hHeld=>?_);generalize w4.drew=w5 at sN uE HB hHeld ⊢;refine iq (i:=0) (N:=some 3) (v:=?_) (a':=?_) (zb 7 1) rfl rfl qk (fun _ _ _ h=>h) (Or.inl ⟨by rfl,?_⟩) ?_ ?_;rotate_left
 ·intro w'
  go_simp
  with_reducible rfl
 rotate_left
 ·simp only[Act.put,List.setIfInBounds_toArray,List.set_cons_zero,List.set_cons_succ,dB,dD]
  rfl
 refine iq (i:=3) (N:=some 6) (v:=?_) (a':=?_) (zb 7 9) rfl rfl qk (fun _ _ _ h=>h) (Or.inl ⟨by rfl,?_⟩) ?_ ?_;rotate_left
 ·intro w'
  go_simp
  with_reducible rfl
 rotate_left
 ·simp only[Act.put,List.setIfInBounds_toArray,List.set_cons_zero,List.set_cons_succ,dB,dD]
  rfl
 refine DU (i:=1) (N:=some 4) (v:=?_) (a':=?_) (zb 7 11) rfl rfl qk (fun _ _ _ h=>h) (Or.inl ⟨by rfl,?_⟩) hHeld ?_ ?_;rotate_left
 ·rintro w' ⟨s0,s1,s2⟩
  go_simp
  with_reducible rfl
 rotate_left
 ·simp only[Act.put,List.setIfInBounds_toArray,List.set_cons_zero,List.set_cons_succ,dB,dD]
  rfl
 refine DU (i:=4) (N:=some 7) (v:=?_) (a':=?_) (zb 7 27) rfl rfl qk (fun _ _ _ h=>h) (Or.inl ⟨by rfl,?_⟩) hHeld ?_ ?_;rotate_left
 ·rintro w' ⟨s0,s1,s2⟩
  go_simp
  with_reducible rfl
 rotate_left
 ·simp only[Act.put,List.setIfInBounds_toArray,List.set_cons_zero,List.set_cons_succ,dB,dD]
  rfl
 refine bH (i:=2) (N:=some 5) (zb 7 31) rfl rfl qk qd (fun K hK=>?_);refine zJ Tryz.func113 qk (IC.calls af aa t151 t152 _ A2.out) fun w6 hb=>?_;obtain⟨sN,uE⟩:=eX sN uE hb;replace HB:=zS HB hb
 (try clear hb)
 refine hK.out _ _ ⟨zc sN 0,zc sN 1,zc sN 2⟩ (fun hHeld=>?_);clear hK K;refine zW (some 5) ?_;refine iq (i:=5) (N:=some 8) (v:=?_) (a':=?_) (zb 7 63) rfl rfl qk (fun _ _ _ h=>h) (Or.inl ⟨by rfl,?_⟩) ?_ ?_;rotate_left
 ·intro w'
  go_simp
  with_reducible rfl
 rotate_left
 ·simp only[Act.put,List.setIfInBounds_toArray,List.set_cons_zero,List.set_cons_succ,dB,dD]
  rfl
 refine bH (i:=6) (N:=none) (zb 7 127) rfl rfl qk qd (fun K hK=>?_);have hs7:w6.cell? ⟨tC,0,none⟩=some (.bool false):=zc uE 0;have aAT:=bU uE.out 0;have aw3:=uo.out;have aw4:=Qt.out;have hs8:w6.cell? ⟨tC,1,none⟩=some (.string ⟨#[]⟩):=zc uE 1;have aAU:=bU uE.out 1;have aw5:=uo.out;have aw6:=Qt.out;have hs9:w6.cell? ⟨tC,2,none⟩=some (.string ⟨#[]⟩):=zc uE 2;have aAV:=bU uE.out 2;have aw7:=uo.out;have aw8:=Qt.out;refine qy (w1:=?_) (by rfl) rfl ?_ ?_;rotate_left
 ·go_simp
  rfl
 refine hK.out _ _ ⟨((cell_far (p:=⟨tC,_,none⟩) uo.out _).trans (((cell_far (p:=⟨tC,_,none⟩) uo.out _).trans (((cell_far (p:=⟨tC,_,none⟩) uo.out _).trans (hHeld.1)))))),((cell_far (p:=⟨tC,_,none⟩) uo.out _).trans (((cell_far (p:=⟨tC,_,none⟩) uo.out _).trans (((cell_far (p:=⟨tC,_,none⟩) uo.out _).trans (hHeld.2.1)))))),((cell_far (p:=⟨tC,_,none⟩) uo.out _).trans (((cell_far (p:=⟨tC,_,none⟩) uo.out _).trans (((cell_far (p:=⟨tC,_,none⟩) uo.out _).trans (hHeld.2.2))))))⟩ (fun hHeld=>?_);clear hK K;refine mg qk ?_;try go_wp2
 refine bodyPost_ret (results_cell_row rfl _ _ tC 40 #[.bool t151,.string t152,.string aj] (0,0) _ rfl (Kx uE) Tryz.underlying40 rfl qk) rfl ?_;exact⟨zH,zT HB⟩
mutual
def l6.l0:Nat->List (aZ)->Int->Option (Int)
 | 0,_,_=>none
 | k+1,x0,x3=>if x3<(x0.length:Int) then (if 0<=x3 then ((um.f ((aB x0 x3).f0.f0.f0) ((aB x0 x3).f0.f0.f1) ((aB x0 x3).f0.f1)).bind fun t119=>(if t119=true then (l6.j1 k x0 x3 true) else ((um.f ((aB x0 x3).f1.f0.f0) ((aB x0 x3).f1.f0.f1) ((aB x0 x3).f1.f1)).bind fun t121=>(l6.j1 k x0 x3 t121)))) else (none)) else (some 0)
def l6.j1:Nat->List (aZ)->Int->Bool->Option (Int)
 | 0,_,_,_=>none
 | k+1,x0,x3,x24=>if x24=true then (some 5) else (if 0<=x3 then (if x3<(x0.length:Int) then ((yl.f k ((aB x0 x3).f0.f0.f0) ((aB x0 x3).f0.f0.f1) ((aB x0 x3).f0.f1) ((aB x0 x3).f1.f0.f0) ((aB x0 x3).f1.f0.f1) ((aB x0 x3).f1.f1)).bind fun t123=>(if t123=0 then (l6.l0 k x0 (wrap64 (x3+1))) else (some t123))) else (none)) else (none))
end
def l6.f (k:Nat) (l0:List (aZ)):Option (Int):=l6.l0 k l0 0
theorem l6.calls (k:Nat) (A0:Option Addr) (c0:Nat) (l0:List (aZ)) (r:Int) (w:World) (fZ:Kd.C eA w A0 l0.length l0) (hc0:l0.length<=c0) (h:l6.f k l0=some r) :
  Calls Tryz.prog 24 #[.slice A0 l0.length c0] w fun e w'=>e = .returned (.int .i64 r)/\Below w.heap.size w w':=by
 have iL:=Tryz.underlying40;have ng:=Tryz.underlying54;have dY:=qa fZ;have Ay:=qa hc0;clear fZ hc0;have HB:=qa (Below.refl w.heap.size w);unfold l6.f at h;have H:=h;clear h;have H':=qa H;clear H;go_enter Tryz.func24,Tryz.ntmps24;go_wp2
 go_loopg [3] k (fun kq v3 w'=>∃ (eW:Int),v3 = .int .i64 eW/\aO (l6.l0 kq l0 eW=some r)/\aO (kq<=k)/\aO (Below w.heap.size w w'))
 case atStart=>exact⟨(0),zR,H',⟨Nat.le_refl _⟩,⟨zT HB⟩⟩
 case round =>
  clear H';obtain⟨eW,rfl,HA,iA,HB⟩:=hrel;cases gk with
  | zero=>exact absurd HA.out (by simp[l6.l0])
  | succ k1 =>
   have H:=HA.out;clear HA;simp only[l6.l0]at H;by_cases c2:eW<(l0.length:Int)
   ·rw[if_pos c2]at H
    have qF:=decide_eq_true c2;clear c2;have nX:=qa H;clear H;go_upto_region 4 with (fail)
    go_cut [24] (fun v24 wc=>∃ (kq:Nat) (Oc:Bool),v24 = .bool Oc/\aO (l6.j1 kq l0 eW Oc=some r)/\aO (kq<=k1)/\aO (Below w.heap.size w wc))
    case first =>
     have H:=nX.out;clear nX;by_cases c4:0<=eW
     ·rw[if_pos c4]at H
      have fV:=decide_eq_true c4;clear c4
      (first|rw[fV]|(simp only[dB,dD];rw[fV])|skip)
      obtain⟨t119,A5,H⟩:=zo H;by_cases c6:t119=true
      ·subst c6
       rw[if_pos rfl]at H
       have H':=qa H;clear H;have Cc:0<=(eW:Int):=of_decide_eq_true (by first|(with_reducible assumption)|assumption);have Ce:eW<(l0.length:Int):=of_decide_eq_true (by first|(with_reducible assumption)|assumption);obtain⟨abh,U8,Bk,Bl,Bn,Bo,Bq,Br⟩:=oW dY.out eW Cc Ce;cases U8;replace Bk:=(HB.out.cell (World.block_lt_of_cell? w _ Bk)).trans Bk;replace Bl:=(HB.out.cell (World.block_lt_of_cell? w _ Bl)).trans Bl;replace Bn:=(HB.out.cell (World.block_lt_of_cell? w _ Bn)).trans Bn;replace Bo:=(HB.out.cell (World.block_lt_of_cell? w _ Bo)).trans Bo;replace Bq:=(HB.out.cell (World.block_lt_of_cell? w _ Bq)).trans Bq;replace Br:=(HB.out.cell (World.block_lt_of_cell? w _ Br)).trans Br;replace Cc:=eq_true Cc;replace Ce:=eq_true Ce;go_wp2_with (first|((with_reducible refine cW (f:=53) rfl ?_);refine zO Tryz.func53 qk (um.calls ((aB l0 eW).f0.f0.f0) ((aB l0 eW).f0.f0.f1) ((aB l0 eW).f0.f1) true _ A5.out) fun w7 hb=>?_;replace HB:=zS HB hb;(try clear hb)))
       go_meet
       case rel=>exact⟨_,(true),zR,H',⟨by have:=iA.out;first|omega|exact Nat.le_refl _⟩,⟨zT HB⟩⟩
      ·replace c6:=Bool.eq_false_iff.mpr c6
       subst c6;rw[if_neg zn]at H
       obtain⟨t121,A8,H⟩:=zo H;have H':=qa H;clear H;have Cc:0<=(eW:Int):=of_decide_eq_true (by first|(with_reducible assumption)|assumption);have Ce:eW<(l0.length:Int):=of_decide_eq_true (by first|(with_reducible assumption)|assumption);obtain⟨abh,U8,Bk,Bl,Bn,Bo,Bq,Br⟩:=oW dY.out eW Cc Ce;cases U8;replace Bk:=(HB.out.cell (World.block_lt_of_cell? w _ Bk)).trans Bk;replace Bl:=(HB.out.cell (World.block_lt_of_cell? w _ Bl)).trans Bl;replace Bn:=(HB.out.cell (World.block_lt_of_cell? w _ Bn)).trans Bn;replace Bo:=(HB.out.cell (World.block_lt_of_cell? w _ Bo)).trans Bo;replace Bq:=(HB.out.cell (World.block_lt_of_cell? w _ Bq)).trans Bq;replace Br:=(HB.out.cell (World.block_lt_of_cell? w _ Br)).trans Br;replace Cc:=eq_true Cc;replace Ce:=eq_true Ce;go_wp2_with (first|((with_reducible refine cW (f:=53) rfl ?_);refine zO Tryz.func53 qk (um.calls ((aB l0 eW).f0.f0.f0) ((aB l0 eW).f0.f0.f1) ((aB l0 eW).f0.f1) false _ A5.out) fun w9 hb=>?_;replace HB:=zS HB hb;(try clear hb);have OT:0<=(eW:Int):=of_decide_eq_true (by first|(with_reducible assumption)|assumption);have OU:eW<(l0.length:Int):=of_decide_eq_true (by first|(with_reducible assumption)|assumption);obtain⟨ant,aqJ,MN,MP,MQ,MR,MS,MT⟩:=oW dY.out eW OT OU;obtain rfl:abh=ant:=(by injection aqJ);replace MN:=(HB.out.cell (World.block_lt_of_cell? w _ MN)).trans MN;replace MP:=(HB.out.cell (World.block_lt_of_cell? w _ MP)).trans MP;replace MQ:=(HB.out.cell (World.block_lt_of_cell? w _ MQ)).trans MQ;replace MR:=(HB.out.cell (World.block_lt_of_cell? w _ MR)).trans MR;replace MS:=(HB.out.cell (World.block_lt_of_cell? w _ MS)).trans MS;replace MT:=(HB.out.cell (World.block_lt_of_cell? w _ MT)).trans MT;replace OT:=eq_true OT;replace OU:=eq_true OU)|(go_at_call 53;(with_reducible refine(um.calls ((aB l0 eW).f1.f0.f0) ((aB l0 eW).f1.f0.f1) ((aB l0 eW).f1.f1) t121 _ A8.out).mono ?_);rintro e iC ⟨rfl,hb⟩;replace HB:=zS HB hb;(try clear hb)))
       go_meet
       case rel=>exact⟨_,(t121),zR,H',⟨by have:=iA.out;first|omega|exact Nat.le_refl _⟩,⟨zT HB⟩⟩
     ·rw[if_neg c4]at H
      exact absurd H (by simp)
    case rest =>
     clear nX;try clear p1;try clear q1;try clear hx1;try clear c2;try clear qF;try clear p2;try clear c4;try clear fV;try clear c5;try clear c6;try clear Bk;try clear Bl;try clear Bn;try clear Bo;try clear Bq;try clear Br;try clear MN;try clear MP;try clear MQ;try clear MR;try clear MS;try clear MT;try clear Cc;try clear OT;try clear Ce;try clear OU
     obtain⟨kq,Oc,rfl,HA,qJ,HB⟩:=hcut;cases kq with
     | zero=>exact absurd HA.out (by simp[l6.j1])
     | succ Ih =>
      have H:=HA.out;clear HA;simp only[l6.j1]at H;by_cases c11:Oc=true
      ·subst c11
       rw[if_pos rfl]at H
       obtain rfl:=Option.some.inj H;go_wp2
       go_ret
       exact⟨zH,zT HB⟩
      ·replace c11:=Bool.eq_false_iff.mpr c11
       subst c11;rw[if_neg zn]at H
       by_cases c12:0<=eW
       ·rw[if_pos c12]at H
        have abi:=decide_eq_true c12;clear c12;by_cases c13:eW<(l0.length:Int)
        ·rw[if_pos c13]at H
         have JX:=decide_eq_true c13;clear c13;obtain⟨t123,A14,H⟩:=zo H;by_cases c15:t123=0
         ·rw[if_pos c15]at H
          have BR:=beq_iff_eq.mpr c15;have Od:=bne_eq_false_iff_eq.mpr c15;clear c15;have H':=qa H;clear H;have Eo:0<=(eW:Int):=of_decide_eq_true (by first|(with_reducible assumption)|assumption);have Ep:eW<(l0.length:Int):=of_decide_eq_true (by first|(with_reducible assumption)|assumption);obtain⟨anu,U9,De,Df,Dg,Dh,Di,Dj⟩:=oW dY.out eW Eo Ep;cases U9;replace De:=(HB.out.cell (World.block_lt_of_cell? w _ De)).trans De;replace Df:=(HB.out.cell (World.block_lt_of_cell? w _ Df)).trans Df;replace Dg:=(HB.out.cell (World.block_lt_of_cell? w _ Dg)).trans Dg;replace Dh:=(HB.out.cell (World.block_lt_of_cell? w _ Dh)).trans Dh;replace Di:=(HB.out.cell (World.block_lt_of_cell? w _ Di)).trans Di;replace Dj:=(HB.out.cell (World.block_lt_of_cell? w _ Dj)).trans Dj;replace Eo:=eq_true Eo;replace Ep:=eq_true Ep;go_wp2_with (first|((with_reducible refine cW (f:=54) rfl ?_);refine zO Tryz.func54 qk (yl.calls Ih ((aB l0 eW).f0.f0.f0) ((aB l0 eW).f0.f0.f1) ((aB l0 eW).f0.f1) ((aB l0 eW).f1.f0.f0) ((aB l0 eW).f1.f0.f1) ((aB l0 eW).f1.f1) t123 _ A14.out) fun Wm hb=>?_;replace HB:=zS HB hb;(try clear hb)))
          go_roundg Ih
          case measure=>have:=iA.out;have:=qJ.out;omega
          case rel=>exact⟨(wrap64 (eW+1)),zR,H',⟨by have:=iA.out;have:=qJ.out;omega⟩,⟨zT HB⟩⟩
         ·rw[if_neg c15]at H
          have BR:=beq_eq_false_iff_ne.mpr c15;have Od:=bne_iff_ne.mpr c15;obtain rfl:=Option.some.inj H;have Eo:0<=(eW:Int):=of_decide_eq_true (by first|(with_reducible assumption)|assumption);have Ep:eW<(l0.length:Int):=of_decide_eq_true (by first|(with_reducible assumption)|assumption);obtain⟨anu,U9,De,Df,Dg,Dh,Di,Dj⟩:=oW dY.out eW Eo Ep;cases U9;replace De:=(HB.out.cell (World.block_lt_of_cell? w _ De)).trans De;replace Df:=(HB.out.cell (World.block_lt_of_cell? w _ Df)).trans Df;replace Dg:=(HB.out.cell (World.block_lt_of_cell? w _ Dg)).trans Dg;replace Dh:=(HB.out.cell (World.block_lt_of_cell? w _ Dh)).trans Dh;replace Di:=(HB.out.cell (World.block_lt_of_cell? w _ Di)).trans Di;replace Dj:=(HB.out.cell (World.block_lt_of_cell? w _ Dj)).trans Dj;replace Eo:=eq_true Eo;replace Ep:=eq_true Ep;go_wp2_with (first|((with_reducible refine cW (f:=54) rfl ?_);refine zO Tryz.func54 qk (yl.calls Ih ((aB l0 eW).f0.f0.f0) ((aB l0 eW).f0.f0.f1) ((aB l0 eW).f0.f1) ((aB l0 eW).f1.f0.f0) ((aB l0 eW).f1.f0.f1) ((aB l0 eW).f1.f1) t123 _ A14.out) fun PN hb=>?_;replace HB:=zS HB hb;(try clear hb)))
          go_ret
          exact⟨zH,zT HB⟩
        ·rw[if_neg c13]at H
         exact absurd H (by simp)
       ·rw[if_neg c12]at H
        exact absurd H (by simp)
   ·rw[if_neg c2]at H
    have qF:=decide_eq_false c2;clear c2;obtain rfl:=Option.some.inj H;go_wp2
    go_ret
    exact⟨zH,zT HB⟩
def AX.f (k:Nat) (af:Bool) (aa aj:ByteArray) (aL:Bool) (aM aN:ByteArray) (aq:Bool) (ak ay:ByteArray) (aS:Bool) (aT aU:ByteArray):Option (Bool × ByteArray × ByteArray):=(AZ.f k af aa aj aL aM aN aq ak ay aS aT aU).bind fun Un=>(some (Un.1,Un.2.1,Un.2.2.1))
theorem AX.calls (k:Nat) (af:Bool) (aa aj:ByteArray) (aL:Bool) (aM aN:ByteArray) (aq:Bool) (ak ay:ByteArray) (aS:Bool) (aT aU:ByteArray) (r1:Bool) (r2 r3:ByteArray) (w:World) (h:AX.f k af aa aj aL aM aN aq ak ay aS aT aU=some (r1,r2,r3)) :
  Calls Tryz.prog 120 #[.agg #[.bool af,.string aa,.string aj,.bool aL,.string aM,.string aN],.agg #[.bool aq,.string ak,.string ay,.bool aS,.string aT,.string aU]] w fun e w'=>e = .returned (.agg #[.bool r1,.string r2,.string r3])/\Below w.heap.size w w':=by
 have ng:=Tryz.underlying54;have iL:=Tryz.underlying40;have HB:=qa (Below.refl w.heap.size w);unfold AX.f at h;have H:=h;clear h;obtain⟨⟨adL,adM,adN,arp⟩,A3,H⟩:=zo H;try dsimp only at H
 simp only[Option.some.injEq,Prod.mk.injEq]at H;obtain⟨rfl,rfl,rfl⟩:=H;go_enter Tryz.func120,Tryz.ntmps120;go_wp2_with (first|((with_reducible refine aV (N:=2) rfl ?_);refine zY 2 #[.bool af,.string aa,.string aj,.bool aL,.string aM,.string aN] 54 ?_;intro ay' hg w4 ah hb;have uG:=qa (ah);have aza:=zG hg HB;have azb:=zG hg HB;replace HB:=zS HB hb;clear hb ah hg)|((with_reducible refine aV (N:=3) rfl ?_);refine zY 3 #[.bool aq,.string ak,.string ay,.bool aS,.string aT,.string aU] 54 ?_;intro azc hg w5 ah hb;have yS:=qa (ah);have azd:=zG hg HB;have aze:=zG hg HB;obtain⟨agb,agc⟩:=zQ hg uG;replace uG:=zB uG hb;replace HB:=zS HB hb;clear hb ah hg)|((with_reducible refine aV (N:=4) rfl ?_);refine zY 4 #[.bool false,.string ⟨#[]⟩,.string ⟨#[]⟩] 40 ?_;intro apc hg w6 ah hb;have D9:=qa (ah);have azf:=zG hg HB;have azg:=zG hg HB;obtain⟨agd,age⟩:=zQ hg uG;obtain⟨agf,agh⟩:=zQ hg yS;obtain⟨uG,yS⟩:=eX uG yS hb;replace HB:=zS HB hb;clear hb ah hg;have Ew:=agb.out;have Ex:=agc.out;have wo:=agd.out;have wu:=age.out;obtain⟨vV,vW,yG,ND,NF,NG,vX,vY,yH,NH,NI,NJ⟩:=z6 uG;have xF:=agf.out;have xG:=agh.out;obtain⟨qc,qg,qi,Bw,Bx,By,qj,qp,qu,Bz,BA,BB⟩:=z6 yS)|((with_reducible refine cW (f:=96) rfl ?_);refine zO Tryz.func96 qk (AZ.calls k af aa aj aL aM aN aq ak ay aS aT aU adL adM adN arp _ A3.out) fun iH hb=>?_;obtain⟨uG,yS,D9⟩:=bC uG yS D9 hb;replace HB:=zS HB hb;(try clear hb))|((with_reducible refine aV (N:=5) rfl ?_);refine zY 5 #[.bool false,.string ⟨#[]⟩,.string ⟨#[]⟩] 40 ?_;intro azh hg oL ah hb;have apd:=qa (ah);have azi:=zG hg HB;have azj:=zG hg HB;obtain⟨agi,agj⟩:=zQ hg uG;obtain⟨agk,agl⟩:=zQ hg yS;obtain⟨agm,agn⟩:=zQ hg D9;obtain⟨uG,yS,D9⟩:=bC uG yS D9 hb;replace HB:=zS HB hb;clear hb ah hg;have DV:=agj.out;have DW:=agi.out;have yN:=agl.out;have yO:=agk.out;have GJ:=agn.out;have GK:=agm.out;obtain⟨Jt,Ju,Jv,Jw,Jx,Jy⟩:=z3 apd;obtain⟨M1,M4,M6,M7,M8,M9⟩:=z3 D9))
 refine bodyPost_ret (results_cell_row rfl _ _ apc 40 #[.bool adL,.string adM,.string adN] (0,0) _ rfl (Kx D9) Tryz.underlying40 rfl qk) rfl ?_;exact⟨zH,zT HB⟩
end Go.Proofs.aF.R
