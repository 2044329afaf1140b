import Derived.Test.YtcmepkhjggpmeaaGreatZuG33
set_option linter.all false
set_option maxRecDepth 100000
set_option maxHeartbeats 8000000
namespace Go.Proofs.aF.R
open Go.RowKit Go.Proofs.aF.Z Go.Proofs.aD.aY Go.Proofs.aD.bO Go.Proofs.aD.bT
attribute [local go_sem] ct cu cA cC ck cm cw cz
mutual
def fG.j0:Nat->Bool->Bool->ByteArray->ByteArray->Option (Int)
 | 0,_,_,_,_=>none
 | k+1,Wh,Sq,Sr,Ss=>if Wh=true then (some 5) else ((yj.f Sq Sr).bind fun t106=>(if t106=0 then ((AU.f Ss).bind fun t107=>(if t107=true then (if Ss.toList=([]:List UInt8) then (fG.j1 k true) else ((kS.f Sq Sr Ss).bind fun abg=>((CX.f Sq Sr abg.1 abg.2).bind fun anm=>(fG.j1 k (anm.2.toList != ([1]:List UInt8)))))) else (fG.j1 k true))) else (fG.j1 k true)))
def fG.j1:Nat->Bool->Option (Int)
 | 0,_=>none
 | k+1,x37=>if x37=true then (some 1) else (some 0)
end
def fG.f (k:Nat) (af:Bool) (aa aj:ByteArray):Option (Int):=if (aa.size:Int) > 8000 then (fG.j0 k true af aa aj) else (fG.j0 k (decide ((aj.size:Int) > 8000)) af aa aj)
def fG.T3:Bool × List (List Nat × List Nat):=(true,[([],[]),([0],[0]),([1],[1]),([2],[2]),([3,2],[3]),([4],[4]),([5,4],[4,5]),([6,4,4],[4,6]),([7,4],[4,7]),([4,8],[4,8]),([9,7],[9]),([10],[10]),([11,10],[10,11]),([12,10],[10,12]),([10,13],[10,13]),([14,10],[14]),([15],[15]),([16,15],[15,16]),([15],[15]),([18,15,15],[15,18]),([17,19,19,15],[15,17,19]),([20,15],[15,20]),([21,15],[15,21]),([15,22],[15,22])])
def fG.B3:List Nat:=[0,1,3,7,15,31,63,127,255,511,1023,2047,4095,8191,16383,32767,65535,131071,65535,327679,1048575,2097151,4194303,8388607]
theorem fG.B5:gR .any (opsOf Tryz.f123 3)=fG.T3:=by kernel_rfl
theorem fG.BO:nI fG.T3.2 fG.B3=true:=by kernel_rfl
theorem fG.calls (k:Nat) (af:Bool) (aa aj:ByteArray) (r:Int) (w:World) (h:fG.f k af aa aj=some r) :
  Calls Tryz.prog 123 #[.agg #[.bool af,.string aa,.string aj]] w fun e w'=>e = .returned (.int .i64 r)/\Below w.heap.size w w':=by
 have iL:=Tryz.underlying40;have zk:=Tryz.underlying38;have wK:=xA;have t_:=xB;have hf2:=xC;have hf3:=xD;have HB:=qa (Below.refl w.heap.size w);unfold fG.f at h;have H:=h;clear h;have pF:=qa H;clear H;go_enter Tryz.func123,Tryz.ntmps123;go_upto_region 1 with (first|((with_reducible refine aV (N:=1) rfl ?_);(try(refine C6 (by rfl) ?_;dsimp only));refine zY 1 #[.bool af,.string aa,.string aj] 40 ?_;intro sP hg w3 ah hb;have bQ:=qa (ah);have ax3:=zG hg HB;have ax4:=zG hg HB;replace HB:=zS HB hb;clear hb ah hg))
 (try simp only[Act.put,List.setIfInBounds_toArray,List.set_cons_zero,List.set_cons_succ])
 go_cut [13] (fun v13 wc=>∃ (kq:Nat) (N_:Bool),v13 = .bool N_/\aO (fG.j0 kq N_ af aa aj=some r)/\aO (kq<=k)/\aO (wc.heap[sP]?=some (.cells #[.bool af,.string aa,.string aj] 40 (0,0)))/\aO (Below w.heap.size w wc))
 case first =>
  have H:=pF.out;clear pF;by_cases c4:(aa.size:Int) > 8000
  ·rw[if_pos c4]at H
   have fV:=decide_eq_true c4;have ou:decide (8000<aa.size)=true:=decide_eq_true qo;clear c4
   (first|rw[fV]|(simp only[dB,dD];rw[fV])|skip)
   have H':=qa H;clear H;obtain⟨BG,BH,BI,BJ,BK,BL⟩:=z3 bQ;go_wp2
   go_meet
   case rel=>exact⟨_,(true),zR,H',zL,zK bQ,⟨zT HB⟩⟩
  ·rw[if_neg c4]at H
   have fV:=decide_eq_false c4;have ou:decide (8000<aa.size)=false:=decide_eq_false qo;clear c4
   (first|rw[fV]|(simp only[dB,dD];rw[fV])|skip)
   have H':=qa H;clear H;obtain⟨vR,vS,yI,vT,vU,yJ⟩:=z3 bQ;go_wp2
   go_meet
   case rel=>exact⟨_,(decide ((aj.size:Int) > 8000)),zR,H',zL,zK bQ,⟨zT HB⟩⟩
 case rest =>
  clear pF;try clear c1;try clear p2;try clear c4;try clear fV;try clear ou;try clear BG;try clear BH;try clear BI;try clear vR;try clear vS;try clear yI;try clear BJ;try clear BK;try clear BL;try clear vT;try clear vU;try clear yJ
  obtain⟨kq,N_,rfl,HA,CL,bQ,HB⟩:=hcut;cases kq with
  | zero=>exact absurd HA.out (by simp[fG.j0])
  | succ Wl =>
   have H:=HA.out;clear HA;simp only[fG.j0]at H;by_cases c7:N_=true
   ·subst c7
    rw[if_pos rfl]at H
    obtain rfl:=Option.some.inj H;go_wp2
    go_ret
    exact⟨zH,zT HB⟩
   ·replace c7:=Bool.eq_false_iff.mpr c7
    subst c7;rw[if_neg zn]at H
    have bS:=qa H;clear H;go_upto_region 3 with (fail)
    go_cut [37] (fun v37 wc=>∃ (kq:Nat) (Oa:Bool),v37 = .bool Oa/\aO (fG.j1 kq Oa=some r)/\aO (kq<=Wl)/\aO (wc.heap[sP]?=some (.cells #[.bool af,.string aa,.string aj] 40 (0,0)))/\aO (Below w.heap.size w wc))
    case first =>
     have H:=bS.out;clear bS;obtain⟨t106,A9,H⟩:=zo H;by_cases c10:t106=0
     ·rw[if_pos c10]at H
      have ot:=beq_iff_eq.mpr c10;have BP:=bne_eq_false_iff_eq.mpr c10;clear c10
      (first|rw[ot]|(simp only[dB,dD];rw[ot])|skip)
      obtain⟨t107,Il,H⟩:=zo H;by_cases c12:t107=true
      ·subst c12
       rw[if_pos rfl]at H
       by_cases c13:aj.toList=([]:List UInt8)
       ·rw[if_pos c13]at H
        have JX:=beq_iff_eq.mpr c13;have Ob:=bne_eq_false_iff_eq.mpr c13;clear c13;have H':=qa H;clear H;try go_wp2
        replace bQ:=zD bQ;replace HB:=zF HB;refine l9 (n:=24) (S:=fun w'=>w'.cell? ⟨sP,0,none⟩=some (.bool af)/\w'.cell? ⟨sP,1,none⟩=some (.string aa)/\w'.cell? ⟨sP,2,none⟩=some (.string aj)) (ds:=[]) (zb 24 0) qk rfl rfl ⟨zc bQ 0,zc bQ 1,zc bQ 2⟩ (fun hHeld=>?_);refine nD fG.B5 fG.BO (fun aA bJ=>?_);generalize wc.drew=ue at bQ HB hHeld ⊢;refine zU (i:=0) (N:=some 14) (zb 24 1) (bf aA.out qk) ?_;refine zV (i:=1) (N:=some 15) (zb 24 3) (cH aA.out bJ.out qk) hHeld ?_;refine bH (i:=2) (N:=some 16) (zb 24 7) rfl rfl (bL aA.out qk) qd (fun K hK=>?_);refine zJ Tryz.func150 qk (yj.calls af aa t106 _ A9.out) fun PI hb=>?_;replace bQ:=zB bQ hb;replace HB:=zS HB hb
        (try clear hb)
        refine hK.out _ _ ⟨zc bQ 0,zc bQ 1,zc bQ 2⟩ (fun hHeld=>?_);clear hK K;refine zW (some 16) ?_;refine zU (i:=3) (N:=some 17) (zb 24 15) (bf aA.out qk) ?_;refine zU (i:=4) (N:=some 18) (zb 24 31) (bf aA.out qk) ?_;refine zU (i:=5) (N:=some 19) (zb 24 63) (bf aA.out qk) ?_;refine zV (i:=6) (N:=some 20) (zb 24 127) (cH aA.out bJ.out qk) hHeld ?_;refine bH (i:=7) (N:=some 21) (zb 24 255) rfl rfl (bL aA.out qk) qd (fun K hK=>?_);refine zJ Tryz.func151 qk (AU.calls aj true _ Il.out) fun Wm hb=>?_;replace bQ:=zB bQ hb;replace HB:=zS HB hb
        (try clear hb)
        refine hK.out _ _ ⟨zc bQ 0,zc bQ 1,zc bQ 2⟩ (fun hHeld=>?_);clear hK K;refine zW (some 21) ?_;refine zU (i:=8) (N:=some 22) (zb 24 511) (bf aA.out qk) ?_;refine zU (i:=9) (N:=some 23) (zb 24 1023) (bf aA.out qk) ?_;refine zU (i:=10) (N:=some 24) (zb 24 2047) (bf aA.out qk) ?_;refine zU (i:=11) (N:=some 25) (zb 24 4095) (bf aA.out qk) ?_;refine zV (i:=12) (N:=some 26) (zb 24 8191) (cH aA.out bJ.out qk) hHeld ?_;refine zU (i:=13) (N:=some 27) (zb 24 16383) (bf aA.out qk) ?_;refine zU (i:=14) (N:=some 28) (zb 24 32767) (bf aA.out qk) ?_;refine zU (i:=15) (N:=some 29) (zb 24 65535) (bf aA.out qk) ?_;refine iq (i:=16) (N:=some 30) (v:=undef) (a':=?_) (zb 24 131071) rfl rfl (bf aA.out qk) (fun _ _ _ h=>h) (Or.inr ⟨by rfl,rfl⟩) ?_ ?_;rotate_left
        ·simp only[Act.put,List.setIfInBounds_toArray,List.set_cons_zero,List.set_cons_succ,dB,dD]
         rfl
        refine iq (i:=17) (N:=some 31) (v:=undef) (a':=?_) (zb 24 262143) rfl rfl (bf aA.out qk) (fun _ _ _ h=>h) (Or.inr ⟨by rfl,rfl⟩) ?_ ?_;rotate_left
        ·simp only[Act.put,List.setIfInBounds_toArray,List.set_cons_zero,List.set_cons_succ,dB,dD]
         rfl
        refine iq (i:=18) (N:=some 32) (v:=undef) (a':=?_) (zb 24 524287) rfl rfl (bf aA.out qk) (fun _ _ _ h=>h) (Or.inr ⟨by rfl,rfl⟩) ?_ ?_;rotate_left
        ·simp only[Act.put,List.setIfInBounds_toArray,List.set_cons_zero,List.set_cons_succ,dB,dD]
         rfl
        refine iq (i:=19) (N:=some 33) (v:=undef) (a':=?_) (zb 24 1048575) rfl rfl (bf aA.out qk) (fun _ _ _ h=>h) (Or.inr ⟨by rfl,rfl⟩) ?_ ?_;rotate_left
        ·simp only[Act.put,List.setIfInBounds_toArray,List.set_cons_zero,List.set_cons_succ,dB,dD]
         rfl
        refine iq (i:=20) (N:=some 34) (v:=undef) (a':=?_) (zb 24 2097151) rfl rfl (bf aA.out qk) (fun _ _ _ h=>h) (Or.inr ⟨by rfl,rfl⟩) ?_ ?_;rotate_left
        ·simp only[Act.put,List.setIfInBounds_toArray,List.set_cons_zero,List.set_cons_succ,dB,dD]
         rfl
        refine iq (i:=21) (N:=some 35) (v:=undef) (a':=?_) (zb 24 4194303) rfl rfl (bf aA.out qk) (fun _ _ _ h=>h) (Or.inr ⟨by rfl,rfl⟩) ?_ ?_;rotate_left
        ·simp only[Act.put,List.setIfInBounds_toArray,List.set_cons_zero,List.set_cons_succ,dB,dD]
         rfl
        refine iq (i:=22) (N:=some 36) (v:=undef) (a':=?_) (zb 24 8388607) rfl rfl (bf aA.out qk) (fun _ _ _ h=>h) (Or.inr ⟨by rfl,rfl⟩) ?_ ?_;rotate_left
        ·simp only[Act.put,List.setIfInBounds_toArray,List.set_cons_zero,List.set_cons_succ,dB,dD]
         rfl
        refine zU (i:=23) (N:=some 37) (zb 24 16777215) (bf aA.out qk) ?_;refine mg (nH aA.out qk) ?_;try go_wp2
        go_meet
        case rel=>exact⟨_,(true),zR,H',⟨by have:=CL.out;first|omega|exact Nat.le_refl _⟩,zK bQ,⟨zT HB⟩⟩
       ·rw[if_neg c13]at H
        have JX:=beq_eq_false_iff_ne.mpr c13;have Ob:=bne_iff_ne.mpr c13;obtain⟨⟨t108,t109⟩,Ll,H⟩:=zo H;try dsimp only at H
        obtain⟨⟨t110,t111⟩,A18,H⟩:=zo H;try dsimp only at H
        have H':=qa H;clear H;try go_wp2
        replace bQ:=zD bQ;replace HB:=zF HB;refine l9 (n:=24) (S:=fun w'=>w'.cell? ⟨sP,0,none⟩=some (.bool af)/\w'.cell? ⟨sP,1,none⟩=some (.string aa)/\w'.cell? ⟨sP,2,none⟩=some (.string aj)) (ds:=[]) (zb 24 0) qk rfl rfl ⟨zc bQ 0,zc bQ 1,zc bQ 2⟩ (fun hHeld=>?_);refine nD fG.B5 fG.BO (fun aA bJ=>?_);generalize wc.drew=Wn at bQ HB hHeld ⊢;refine zU (i:=0) (N:=some 14) (zb 24 1) (bf aA.out qk) ?_;refine zV (i:=1) (N:=some 15) (zb 24 3) (cH aA.out bJ.out qk) hHeld ?_;refine bH (i:=2) (N:=some 16) (zb 24 7) rfl rfl (bL aA.out qk) qd (fun K hK=>?_);refine zJ Tryz.func150 qk (yj.calls af aa t106 _ A9.out) fun PJ hb=>?_;replace bQ:=zB bQ hb;replace HB:=zS HB hb
        (try clear hb)
        refine hK.out _ _ ⟨zc bQ 0,zc bQ 1,zc bQ 2⟩ (fun hHeld=>?_);clear hK K;refine zW (some 16) ?_;refine zU (i:=3) (N:=some 17) (zb 24 15) (bf aA.out qk) ?_;refine zU (i:=4) (N:=some 18) (zb 24 31) (bf aA.out qk) ?_;refine zU (i:=5) (N:=some 19) (zb 24 63) (bf aA.out qk) ?_;refine zV (i:=6) (N:=some 20) (zb 24 127) (cH aA.out bJ.out qk) hHeld ?_;refine bH (i:=7) (N:=some 21) (zb 24 255) rfl rfl (bL aA.out qk) qd (fun K hK=>?_);refine zJ Tryz.func151 qk (AU.calls aj true _ Il.out) fun Az hb=>?_;replace bQ:=zB bQ hb;replace HB:=zS HB hb
        (try clear hb)
        refine hK.out _ _ ⟨zc bQ 0,zc bQ 1,zc bQ 2⟩ (fun hHeld=>?_);clear hK K;refine zW (some 21) ?_;refine zU (i:=8) (N:=some 22) (zb 24 511) (bf aA.out qk) ?_;refine zU (i:=9) (N:=some 23) (zb 24 1023) (bf aA.out qk) ?_;refine zU (i:=10) (N:=some 24) (zb 24 2047) (bf aA.out qk) ?_;refine zU (i:=11) (N:=some 25) (zb 24 4095) (bf aA.out qk) ?_;refine zV (i:=12) (N:=some 26) (zb 24 8191) (cH aA.out bJ.out qk) hHeld ?_;refine zU (i:=13) (N:=some 27) (zb 24 16383) (bf aA.out qk) ?_;refine zU (i:=14) (N:=some 28) (zb 24 32767) (bf aA.out qk) ?_;refine zU (i:=15) (N:=some 29) (zb 24 65535) (bf aA.out qk) ?_;refine zU (i:=16) (N:=some 30) (zb 24 131071) (bf aA.out qk) ?_;refine zV (i:=17) (N:=some 31) (zb 24 262143) (cH aA.out bJ.out qk) hHeld ?_;refine zV (i:=18) (N:=some 32) (zb 24 524287) (cH aA.out bJ.out qk) hHeld ?_;refine bH (i:=19) (N:=some 33) (zb 24 1048575) rfl rfl (bL aA.out qk) qd (fun K hK=>?_);refine zJ Tryz.func71 qk (kS.calls af aa aj t108 t109 _ Ll.out) fun Wo hb=>?_;replace bQ:=zB bQ hb;replace HB:=zS HB hb
        (try clear hb)
        refine hK.out _ _ ⟨zc bQ 0,zc bQ 1,zc bQ 2⟩ (fun hHeld=>?_);clear hK K;refine zW (some 33) ?_;refine bH (i:=20) (N:=some 34) (zb 24 2097151) rfl rfl (bL aA.out qk) qd (fun K hK=>?_);refine zJ Tryz.func112 qk (CX.calls af aa t108 t109 t110 t111 _ A18.out) fun Ii hb=>?_;replace bQ:=zB bQ hb;replace HB:=zS HB hb
        (try clear hb)
        refine hK.out _ _ ⟨zc bQ 0,zc bQ 1,zc bQ 2⟩ (fun hHeld=>?_);clear hK K;refine zW (some 34) ?_;refine zU (i:=21) (N:=some 35) (zb 24 4194303) (bf aA.out qk) ?_;refine zU (i:=22) (N:=some 36) (zb 24 8388607) (bf aA.out qk) ?_;refine zU (i:=23) (N:=some 37) (zb 24 16777215) (bf aA.out qk) ?_;refine mg (nH aA.out qk) ?_;try go_wp2
        go_meet
        case rel=>exact⟨_,((t111.toList != ([1]:List UInt8))),zR,H',⟨by have:=CL.out;first|omega|exact Nat.le_refl _⟩,zK bQ,⟨zT HB⟩⟩
      ·replace c12:=Bool.eq_false_iff.mpr c12
       subst c12;rw[if_neg zn]at H
       have H':=qa H;clear H;try go_wp2
       replace bQ:=zD bQ;replace HB:=zF HB;refine l9 (n:=24) (S:=fun w'=>w'.cell? ⟨sP,0,none⟩=some (.bool af)/\w'.cell? ⟨sP,1,none⟩=some (.string aa)/\w'.cell? ⟨sP,2,none⟩=some (.string aj)) (ds:=[]) (zb 24 0) qk rfl rfl ⟨zc bQ 0,zc bQ 1,zc bQ 2⟩ (fun hHeld=>?_);refine nD fG.B5 fG.BO (fun aA bJ=>?_);generalize wc.drew=E9 at bQ HB hHeld ⊢;refine zU (i:=0) (N:=some 14) (zb 24 1) (bf aA.out qk) ?_;refine zV (i:=1) (N:=some 15) (zb 24 3) (cH aA.out bJ.out qk) hHeld ?_;refine bH (i:=2) (N:=some 16) (zb 24 7) rfl rfl (bL aA.out qk) qd (fun K hK=>?_);refine zJ Tryz.func150 qk (yj.calls af aa t106 _ A9.out) fun Wp hb=>?_;replace bQ:=zB bQ hb;replace HB:=zS HB hb
       (try clear hb)
       refine hK.out _ _ ⟨zc bQ 0,zc bQ 1,zc bQ 2⟩ (fun hHeld=>?_);clear hK K;refine zW (some 16) ?_;refine zU (i:=3) (N:=some 17) (zb 24 15) (bf aA.out qk) ?_;refine zU (i:=4) (N:=some 18) (zb 24 31) (bf aA.out qk) ?_;refine zU (i:=5) (N:=some 19) (zb 24 63) (bf aA.out qk) ?_;refine zV (i:=6) (N:=some 20) (zb 24 127) (cH aA.out bJ.out qk) hHeld ?_;refine bH (i:=7) (N:=some 21) (zb 24 255) rfl rfl (bL aA.out qk) qd (fun K hK=>?_);refine zJ Tryz.func151 qk (AU.calls aj false _ Il.out) fun PK hb=>?_;replace bQ:=zB bQ hb;replace HB:=zS HB hb
       (try clear hb)
       refine hK.out _ _ ⟨zc bQ 0,zc bQ 1,zc bQ 2⟩ (fun hHeld=>?_);clear hK K;refine zW (some 21) ?_;refine zU (i:=8) (N:=some 22) (zb 24 511) (bf aA.out qk) ?_;refine zU (i:=9) (N:=some 23) (zb 24 1023) (bf aA.out qk) ?_;refine zU (i:=10) (N:=some 24) (zb 24 2047) (bf aA.out qk) ?_;refine iq (i:=11) (N:=some 25) (v:=undef) (a':=?_) (zb 24 4095) rfl rfl (bf aA.out qk) (fun _ _ _ h=>h) (Or.inr ⟨by rfl,rfl⟩) ?_ ?_;rotate_left
       ·simp only[Act.put,List.setIfInBounds_toArray,List.set_cons_zero,List.set_cons_succ,dB,dD]
        rfl
       refine iq (i:=12) (N:=some 26) (v:=undef) (a':=?_) (zb 24 8191) rfl rfl (bf aA.out qk) (fun _ _ _ h=>h) (Or.inr ⟨by rfl,rfl⟩) ?_ ?_;rotate_left
       ·simp only[Act.put,List.setIfInBounds_toArray,List.set_cons_zero,List.set_cons_succ,dB,dD]
        rfl
       refine iq (i:=13) (N:=some 27) (v:=undef) (a':=?_) (zb 24 16383) rfl rfl (bf aA.out qk) (fun _ _ _ h=>h) (Or.inr ⟨by rfl,rfl⟩) ?_ ?_;rotate_left
       ·simp only[Act.put,List.setIfInBounds_toArray,List.set_cons_zero,List.set_cons_succ,dB,dD]
        rfl
       refine zU (i:=14) (N:=some 28) (zb 24 32767) (bf aA.out qk) ?_;refine zU (i:=15) (N:=some 29) (zb 24 65535) (bf aA.out qk) ?_;refine iq (i:=16) (N:=some 30) (v:=undef) (a':=?_) (zb 24 131071) rfl rfl (bf aA.out qk) (fun _ _ _ h=>h) (Or.inr ⟨by rfl,rfl⟩) ?_ ?_;rotate_left
       ·simp only[Act.put,List.setIfInBounds_toArray,List.set_cons_zero,List.set_cons_succ,dB,dD]
        rfl
       refine iq (i:=17) (N:=some 31) (v:=undef) (a':=?_) (zb 24 262143) rfl rfl (bf aA.out qk) (fun _ _ _ h=>h) (Or.inr ⟨by rfl,rfl⟩) ?_ ?_;rotate_left
       ·simp only[Act.put,List.setIfInBounds_toArray,List.set_cons_zero,List.set_cons_succ,dB,dD]
        rfl
       refine iq (i:=18) (N:=some 32) (v:=undef) (a':=?_) (zb 24 524287) rfl rfl (bf aA.out qk) (fun _ _ _ h=>h) (Or.inr ⟨by rfl,rfl⟩) ?_ ?_;rotate_left
       ·simp only[Act.put,List.setIfInBounds_toArray,List.set_cons_zero,List.set_cons_succ,dB,dD]
        rfl
       refine iq (i:=19) (N:=some 33) (v:=undef) (a':=?_) (zb 24 1048575) rfl rfl (bf aA.out qk) (fun _ _ _ h=>h) (Or.inr ⟨by rfl,rfl⟩) ?_ ?_;rotate_left
       ·simp only[Act.put,List.setIfInBounds_toArray,List.set_cons_zero,List.set_cons_succ,dB,dD]
        rfl
       refine iq (i:=20) (N:=some 34) (v:=undef) (a':=?_) (zb 24 2097151) rfl rfl (bf aA.out qk) (fun _ _ _ h=>h) (Or.inr ⟨by rfl,rfl⟩) ?_ ?_;rotate_left
       ·simp only[Act.put,List.setIfInBounds_toArray,List.set_cons_zero,List.set_cons_succ,dB,dD]
        rfl
       refine iq (i:=21) (N:=some 35) (v:=undef) (a':=?_) (zb 24 4194303) rfl rfl (bf aA.out qk) (fun _ _ _ h=>h) (Or.inr ⟨by rfl,rfl⟩) ?_ ?_;rotate_left
       ·simp only[Act.put,List.setIfInBounds_toArray,List.set_cons_zero,List.set_cons_succ,dB,dD]
        rfl
       refine iq (i:=22) (N:=some 36) (v:=undef) (a':=?_) (zb 24 8388607) rfl rfl (bf aA.out qk) (fun _ _ _ h=>h) (Or.inr ⟨by rfl,rfl⟩) ?_ ?_;rotate_left
       ·simp only[Act.put,List.setIfInBounds_toArray,List.set_cons_zero,List.set_cons_succ,dB,dD]
        rfl
       refine zU (i:=23) (N:=some 37) (zb 24 16777215) (bf aA.out qk) ?_;refine mg (nH aA.out qk) ?_;try go_wp2
       go_meet
       case rel=>exact⟨_,(true),zR,H',⟨by have:=CL.out;first|omega|exact Nat.le_refl _⟩,zK bQ,⟨zT HB⟩⟩
     ·rw[if_neg c10]at H
      have ot:=beq_eq_false_iff_ne.mpr c10;have BP:=bne_iff_ne.mpr c10
      (first|rw[ot]|(simp only[dB,dD];rw[ot])|skip)
      have H':=qa H;clear H;try go_wp2
      replace bQ:=zD bQ;replace HB:=zF HB;refine l9 (n:=24) (S:=fun w'=>w'.cell? ⟨sP,0,none⟩=some (.bool af)/\w'.cell? ⟨sP,1,none⟩=some (.string aa)/\w'.cell? ⟨sP,2,none⟩=some (.string aj)) (ds:=[]) (zb 24 0) qk rfl rfl ⟨zc bQ 0,zc bQ 1,zc bQ 2⟩ (fun hHeld=>?_);refine nD fG.B5 fG.BO (fun aA bJ=>?_);generalize wc.drew=w27 at bQ HB hHeld ⊢;refine zU (i:=0) (N:=some 14) (zb 24 1) (bf aA.out qk) ?_;refine zV (i:=1) (N:=some 15) (zb 24 3) (cH aA.out bJ.out qk) hHeld ?_;refine bH (i:=2) (N:=some 16) (zb 24 7) rfl rfl (bL aA.out qk) qd (fun K hK=>?_);refine zJ Tryz.func150 qk (yj.calls af aa t106 _ A9.out) fun PL hb=>?_;replace bQ:=zB bQ hb;replace HB:=zS HB hb
      (try clear hb)
      refine hK.out _ _ ⟨zc bQ 0,zc bQ 1,zc bQ 2⟩ (fun hHeld=>?_);clear hK K;refine zW (some 16) ?_;refine zU (i:=3) (N:=some 17) (zb 24 15) (bf aA.out qk) ?_;refine zU (i:=4) (N:=some 18) (zb 24 31) (bf aA.out qk) ?_;refine iq (i:=5) (N:=some 19) (v:=undef) (a':=?_) (zb 24 63) rfl rfl (bf aA.out qk) (fun _ _ _ h=>h) (Or.inr ⟨by rfl,rfl⟩) ?_ ?_;rotate_left
      ·simp only[Act.put,List.setIfInBounds_toArray,List.set_cons_zero,List.set_cons_succ,dB,dD]
       rfl
      refine iq (i:=6) (N:=some 20) (v:=undef) (a':=?_) (zb 24 127) rfl rfl (bf aA.out qk) (fun _ _ _ h=>h) (Or.inr ⟨by rfl,rfl⟩) ?_ ?_;rotate_left
      ·simp only[Act.put,List.setIfInBounds_toArray,List.set_cons_zero,List.set_cons_succ,dB,dD]
       rfl
      refine iq (i:=7) (N:=some 21) (v:=undef) (a':=?_) (zb 24 255) rfl rfl (bf aA.out qk) (fun _ _ _ h=>h) (Or.inr ⟨by rfl,rfl⟩) ?_ ?_;rotate_left
      ·simp only[Act.put,List.setIfInBounds_toArray,List.set_cons_zero,List.set_cons_succ,dB,dD]
       rfl
      refine iq (i:=8) (N:=some 22) (v:=undef) (a':=?_) (zb 24 511) rfl rfl (bf aA.out qk) (fun _ _ _ h=>h) (Or.inr ⟨by rfl,rfl⟩) ?_ ?_;rotate_left
      ·simp only[Act.put,List.setIfInBounds_toArray,List.set_cons_zero,List.set_cons_succ,dB,dD]
       rfl
      refine zU (i:=9) (N:=some 23) (zb 24 1023) (bf aA.out qk) ?_;refine zU (i:=10) (N:=some 24) (zb 24 2047) (bf aA.out qk) ?_;refine iq (i:=11) (N:=some 25) (v:=undef) (a':=?_) (zb 24 4095) rfl rfl (bf aA.out qk) (fun _ _ _ h=>h) (Or.inr ⟨by rfl,rfl⟩) ?_ ?_;rotate_left
      ·simp only[Act.put,List.setIfInBounds_toArray,List.set_cons_zero,List.set_cons_succ,dB,dD]
       rfl
      refine iq (i:=12) (N:=some 26) (v:=undef) (a':=?_) (zb 24 8191) rfl rfl (bf aA.out qk) (fun _ _ _ h=>h) (Or.inr ⟨by rfl,rfl⟩) ?_ ?_;rotate_left
      ·simp only[Act.put,List.setIfInBounds_toArray,List.set_cons_zero,List.set_cons_succ,dB,dD]
       rfl
      refine iq (i:=13) (N:=some 27) (v:=undef) (a':=?_) (zb 24 16383) rfl rfl (bf aA.out qk) (fun _ _ _ h=>h) (Or.inr ⟨by rfl,rfl⟩) ?_ ?_;rotate_left
      ·simp only[Act.put,List.setIfInBounds_toArray,List.set_cons_zero,List.set_cons_succ,dB,dD]
       rfl
      refine zU (i:=14) (N:=some 28) (zb 24 32767) (bf aA.out qk) ?_;refine zU (i:=15) (N:=some 29) (zb 24 65535) (bf aA.out qk) ?_;refine iq (i:=16) (N:=some 30) (v:=undef) (a':=?_) (zb 24 131071) rfl rfl (bf aA.out qk) (fun _ _ _ h=>h) (Or.inr ⟨by rfl,rfl⟩) ?_ ?_;rotate_left
      ·simp only[Act.put,List.setIfInBounds_toArray,List.set_cons_zero,List.set_cons_succ,dB,dD]
       rfl
      refine iq (i:=17) (N:=some 31) (v:=undef) (a':=?_) (zb 24 262143) rfl rfl (bf aA.out qk) (fun _ _ _ h=>h) (Or.inr ⟨by rfl,rfl⟩) ?_ ?_;rotate_left
      ·simp only[Act.put,List.setIfInBounds_toArray,List.set_cons_zero,List.set_cons_succ,dB,dD]
       rfl
      refine iq (i:=18) (N:=some 32) (v:=undef) (a':=?_) (zb 24 524287) rfl rfl (bf aA.out qk) (fun _ _ _ h=>h) (Or.inr ⟨by rfl,rfl⟩) ?_ ?_;rotate_left
      ·simp only[Act.put,List.setIfInBounds_toArray,List.set_cons_zero,List.set_cons_succ,dB,dD]
       rfl
      refine iq (i:=19) (N:=some 33) (v:=undef) (a':=?_) (zb 24 1048575) rfl rfl (bf aA.out qk) (fun _ _ _ h=>h) (Or.inr ⟨by rfl,rfl⟩) ?_ ?_;rotate_left
      ·simp only[Act.put,List.setIfInBounds_toArray,List.set_cons_zero,List.set_cons_succ,dB,dD]
       rfl
      refine iq (i:=20) (N:=some 34) (v:=undef) (a':=?_) (zb 24 2097151) rfl rfl (bf aA.out qk) (fun _ _ _ h=>h) (Or.inr ⟨by rfl,rfl⟩) ?_ ?_;rotate_left
      ·simp only[Act.put,List.setIfInBounds_toArray,List.set_cons_zero,List.set_cons_succ,dB,dD]
       rfl
      refine iq (i:=21) (N:=some 35) (v:=undef) (a':=?_) (zb 24 4194303) rfl rfl (bf aA.out qk) (fun _ _ _ h=>h) (Or.inr ⟨by rfl,rfl⟩) ?_ ?_;rotate_left
      ·simp only[Act.put,List.setIfInBounds_toArray,List.set_cons_zero,List.set_cons_succ,dB,dD]
       rfl
      refine iq (i:=22) (N:=some 36) (v:=undef) (a':=?_) (zb 24 8388607) rfl rfl (bf aA.out qk) (fun _ _ _ h=>h) (Or.inr ⟨by rfl,rfl⟩) ?_ ?_;rotate_left
      ·simp only[Act.put,List.setIfInBounds_toArray,List.set_cons_zero,List.set_cons_succ,dB,dD]
       rfl
      refine zU (i:=23) (N:=some 37) (zb 24 16777215) (bf aA.out qk) ?_;refine mg (nH aA.out qk) ?_;try go_wp2
      go_meet
      case rel=>exact⟨_,(true),zR,H',⟨by have:=CL.out;first|omega|exact Nat.le_refl _⟩,zK bQ,⟨zT HB⟩⟩
    case rest =>
     clear bS;try clear c1;try clear p2;try clear c7;try clear c10;try clear ot;try clear BP;try clear c11;try clear c12;try clear c15
     obtain⟨kq,Oa,rfl,HA,HJ7,bQ,HB⟩:=hcut;cases kq with
     | zero=>exact absurd HA.out (by simp[fG.j1])
     | succ kj7 =>
      have H:=HA.out;clear HA;simp only[fG.j1]at H;by_cases PM:Oa=true
      ·subst PM
       rw[if_pos rfl]at H
       obtain rfl:=Option.some.inj H;go_wp2
       go_ret
       exact⟨zH,zT HB⟩
      ·replace PM:=Bool.eq_false_iff.mpr PM
       subst PM;rw[if_neg zn]at H
       obtain rfl:=Option.some.inj H;go_wp2
       go_ret
       exact⟨zH,zT HB⟩
end Go.Proofs.aF.R
