import Derived.Test.YtfcjnhkkfmgmpaaGreatZtG40
set_option linter.all false
set_option maxRecDepth 100000
set_option maxHeartbeats 8000000
namespace Go.Proofs.aA.R
open Go.RowKit Go.Proofs.aA.Z Go.Proofs.aB.aZ Go.Proofs.aB.bT Go.Proofs.aB.bX
attribute [local go_sem] cm ct cz cA cj ck cu cw
mutual
def gA.j0:Nat->Bool->Bool->ByteArray->ByteArray->Option (Int)
 | 0,_,_,_,_=>none
 | k+1,Zu,VC,VD,VE=>if Zu=true then (some 5) else ((Ai.f VC VD).bind fun t106=>(if t106=0 then ((Cm.f VE).bind fun t107=>(if t107=true then (if VE.toList=([]:List UInt8) then (gA.j1 k true) else ((lZ.f VC VD VE).bind fun aeF=>((Eo.f VC VD aeF.1 aeF.2).bind fun aqw=>(gA.j1 k (aqw.2.toList != ([1]:List UInt8)))))) else (gA.j1 k true))) else (gA.j1 k true)))
def gA.j1:Nat->Bool->Option (Int)
 | 0,_=>none
 | k+1,x37=>if x37=true then (some 1) else (some 0)
end
def gA.f (k:Nat) (af:Bool) (aa aj:ByteArray):Option (Int):=if (aa.size:Int) > 8000 then (gA.j0 k true af aa aj) else (gA.j0 k (decide ((aj.size:Int) > 8000)) af aa aj)
def gA.T3:Bool × List (List Nat × List Nat):=(true,[([],[]),([0],[0]),([1],[1]),([2],[2]),([3,2],[3]),([4],[4]),([5,4],[4,5]),([6,4,4],[4,6]),([7,4],[4,7]),([4,8],[4,8]),([9,7],[9]),([10],[10]),([11,10],[10,11]),([12,10],[10,12]),([10,13],[10,13]),([14,10],[14]),([15],[15]),([16,15],[15,16]),([15],[15]),([18,15,15],[15,18]),([17,19,19,15],[15,17,19]),([20,15],[15,20]),([21,15],[15,21]),([15,22],[15,22])])
def gA.B3:List Nat:=[0,1,3,7,15,31,63,127,255,511,1023,2047,4095,8191,16383,32767,65535,131071,65535,327679,1048575,2097151,4194303,8388607]
theorem gA.Df:ia .any (opsOf Tryz.f72 3)=gA.T3:=by kernel_rfl
theorem gA.CZ:nh gA.T3.2 gA.B3=true:=by kernel_rfl
theorem gA.calls (k:Nat) (af:Bool) (aa aj:ByteArray) (r:Int) (w:World) (h:gA.f k af aa aj=some r) :
  Calls Tryz.prog 72 #[.agg #[.bool af,.string aa,.string aj]] w fun e w'=>e = .returned (.int .i64 r)/\Below w.heap.size w w':=by
 have ji:=Tryz.underlying40;have Be:=Tryz.underlying38;have xW:=ze;have BJ:=zf;have hf2:=zg;have hf3:=zh;have HB:=qa (Below.refl w.heap.size w);unfold gA.f at h;have H:=h;clear h;have tD:=qa H;clear H;go_enter Tryz.func72,Tryz.ntmps72;go_upto_region 1 with (first|((with_reducible refine aR (N:=1) rfl ?_);(try(refine Et (by rfl) ?_;dsimp only));refine zY 1 #[.bool af,.string aa,.string aj] 40 ?_;intro uk hg w3 ah hb;have bZ:=qa (ah);have azM:=zG hg HB;have azN:=zG hg HB;replace HB:=zS HB hb;clear hb ah hg))
 (try simp only[Act.put,List.setIfInBounds_toArray,List.set_cons_zero,List.set_cons_succ])
 go_cut [13] (fun v13 wc=>∃ (kq:Nat) (QO:Bool),v13 = .bool QO/\aO (gA.j0 kq QO af aa aj=some r)/\aO (kq<=k)/\aO (wc.heap[uk]?=some (.cells #[.bool af,.string aa,.string aj] 40 (0,0)))/\aO (Below w.heap.size w wc))
 case first =>
  have H:=tD.out;clear tD;by_cases c4:(aa.size:Int) > 8000
  ·rw[if_pos c4]at H
   have fW:=decide_eq_true c4;have oY:decide (8000<aa.size)=true:=decide_eq_true qo;clear c4
   (first|rw[fW]|(simp only[dL,dM];rw[fW])|skip)
   have H':=qa H;clear H;obtain⟨Fv,Fw,Fx,Fy,Fz,FA⟩:=z3 bZ;go_wp2
   go_meet
   case rel=>exact⟨_,(true),zR,H',zL,zK bZ,⟨zT HB⟩⟩
  ·rw[if_neg c4]at H
   have fW:=decide_eq_false c4;have oY:decide (8000<aa.size)=false:=decide_eq_false qo;clear c4
   (first|rw[fW]|(simp only[dL,dM];rw[fW])|skip)
   have H':=qa H;clear H;obtain⟨xu,xw,AJ,xx,xy,AK⟩:=z3 bZ;go_wp2
   go_meet
   case rel=>exact⟨_,(decide ((aj.size:Int) > 8000)),zR,H',zL,zK bZ,⟨zT HB⟩⟩
 case rest =>
  clear tD;try clear p2;try clear c4;try clear fW;try clear oY;try clear Fv;try clear Fw;try clear Fx;try clear xu;try clear xw;try clear AJ;try clear Fy;try clear Fz;try clear FA;try clear xx;try clear xy;try clear AK
  obtain⟨kq,QO,rfl,HA,Ec,bZ,HB⟩:=hcut;cases kq with
  | zero=>exact absurd HA.out (by simp[gA.j0])
  | succ Zy =>
   have H:=HA.out;clear HA;simp only[gA.j0]at H;by_cases c7:QO=true
   ·subst c7
    rw[if_pos rfl]at H
    obtain rfl:=Option.some.inj H;go_wp2
    go_ret
    exact⟨zH,zT HB⟩
   ·replace c7:=Bool.eq_false_iff.mpr c7
    subst c7;rw[if_neg zn]at H
    have cD:=qa H;clear H;go_upto_region 3 with (fail)
    go_cut [37] (fun v37 wc=>∃ (kq:Nat) (QS:Bool),v37 = .bool QS/\aO (gA.j1 kq QS=some r)/\aO (kq<=Zy)/\aO (wc.heap[uk]?=some (.cells #[.bool af,.string aa,.string aj] 40 (0,0)))/\aO (Below w.heap.size w wc))
    case first =>
     have H:=cD.out;clear cD;obtain⟨t106,A9,H⟩:=zo H;by_cases c10:t106=0
     ·rw[if_pos c10]at H
      have oX:=beq_iff_eq.mpr c10;have C5:=bne_eq_false_iff_eq.mpr c10;clear c10
      (first|rw[oX]|(simp only[dL,dM];rw[oX])|skip)
      obtain⟨t107,Kh,H⟩:=zo H;by_cases c12:t107=true
      ·subst c12
       rw[if_pos rfl]at H
       by_cases c13:aj.toList=([]:List UInt8)
       ·rw[if_pos c13]at H
        have L_:=beq_iff_eq.mpr c13;have QT:=bne_eq_false_iff_eq.mpr c13;clear c13;have H':=qa H;clear H;try go_wp2
        replace bZ:=zD bZ;replace HB:=zF HB;refine mg (n:=24) (S:=fun w'=>w'.cell? ⟨uk,0,none⟩=some (.bool af)/\w'.cell? ⟨uk,1,none⟩=some (.string aa)/\w'.cell? ⟨uk,2,none⟩=some (.string aj)) (ds:=[]) (zb 24 0) qk rfl rfl ⟨zc bZ 0,zc bZ 1,zc bZ 2⟩ (fun hHeld=>?_);refine mZ gA.Df gA.CZ (fun av bN=>?_);generalize wc.drew=iq at bZ HB hHeld ⊢;refine zU (i:=0) (N:=some 14) (zb 24 1) (bf av.out qk) ?_;refine zV (i:=1) (N:=some 15) (zb 24 3) (cg av.out bN.out qk) hHeld ?_;refine bM (i:=2) (N:=some 16) (zb 24 7) rfl rfl (bO av.out qk) qd (fun K hK=>?_);refine zJ Tryz.func84 qk (Ai.calls af aa t106 _ A9.out) fun tH hb=>?_;replace bZ:=zB bZ hb;replace HB:=zS HB hb
        (try clear hb)
        refine hK.out _ _ ⟨zc bZ 0,zc bZ 1,zc bZ 2⟩ (fun hHeld=>?_);clear hK K;refine zW (some 16) ?_;refine zU (i:=3) (N:=some 17) (zb 24 15) (bf av.out qk) ?_;refine zU (i:=4) (N:=some 18) (zb 24 31) (bf av.out qk) ?_;refine zU (i:=5) (N:=some 19) (zb 24 63) (bf av.out qk) ?_;refine zV (i:=6) (N:=some 20) (zb 24 127) (cg av.out bN.out qk) hHeld ?_;refine bM (i:=7) (N:=some 21) (zb 24 255) rfl rfl (bO av.out qk) qd (fun K hK=>?_);refine zJ Tryz.func85 qk (Cm.calls aj true _ Kh.out) fun wQ hb=>?_;replace bZ:=zB bZ hb;replace HB:=zS HB hb
        (try clear hb)
        refine hK.out _ _ ⟨zc bZ 0,zc bZ 1,zc bZ 2⟩ (fun hHeld=>?_);clear hK K;refine zW (some 21) ?_;refine zU (i:=8) (N:=some 22) (zb 24 511) (bf av.out qk) ?_;refine zU (i:=9) (N:=some 23) (zb 24 1023) (bf av.out qk) ?_;refine zU (i:=10) (N:=some 24) (zb 24 2047) (bf av.out qk) ?_;refine zU (i:=11) (N:=some 25) (zb 24 4095) (bf av.out qk) ?_;refine zV (i:=12) (N:=some 26) (zb 24 8191) (cg av.out bN.out qk) hHeld ?_;refine zU (i:=13) (N:=some 27) (zb 24 16383) (bf av.out qk) ?_;refine zU (i:=14) (N:=some 28) (zb 24 32767) (bf av.out qk) ?_;refine zU (i:=15) (N:=some 29) (zb 24 65535) (bf av.out qk) ?_;refine iY (i:=16) (N:=some 30) (v:=undef) (a':=?_) (zb 24 131071) rfl rfl (bf av.out qk) (fun _ _ _ h=>h) (Or.inr ⟨by rfl,rfl⟩) ?_ ?_;rotate_left
        ·simp only[Act.put,List.setIfInBounds_toArray,List.set_cons_zero,List.set_cons_succ,dL,dM]
         rfl
        refine iY (i:=17) (N:=some 31) (v:=undef) (a':=?_) (zb 24 262143) rfl rfl (bf av.out qk) (fun _ _ _ h=>h) (Or.inr ⟨by rfl,rfl⟩) ?_ ?_;rotate_left
        ·simp only[Act.put,List.setIfInBounds_toArray,List.set_cons_zero,List.set_cons_succ,dL,dM]
         rfl
        refine iY (i:=18) (N:=some 32) (v:=undef) (a':=?_) (zb 24 524287) rfl rfl (bf av.out qk) (fun _ _ _ h=>h) (Or.inr ⟨by rfl,rfl⟩) ?_ ?_;rotate_left
        ·simp only[Act.put,List.setIfInBounds_toArray,List.set_cons_zero,List.set_cons_succ,dL,dM]
         rfl
        refine iY (i:=19) (N:=some 33) (v:=undef) (a':=?_) (zb 24 1048575) rfl rfl (bf av.out qk) (fun _ _ _ h=>h) (Or.inr ⟨by rfl,rfl⟩) ?_ ?_;rotate_left
        ·simp only[Act.put,List.setIfInBounds_toArray,List.set_cons_zero,List.set_cons_succ,dL,dM]
         rfl
        refine iY (i:=20) (N:=some 34) (v:=undef) (a':=?_) (zb 24 2097151) rfl rfl (bf av.out qk) (fun _ _ _ h=>h) (Or.inr ⟨by rfl,rfl⟩) ?_ ?_;rotate_left
        ·simp only[Act.put,List.setIfInBounds_toArray,List.set_cons_zero,List.set_cons_succ,dL,dM]
         rfl
        refine iY (i:=21) (N:=some 35) (v:=undef) (a':=?_) (zb 24 4194303) rfl rfl (bf av.out qk) (fun _ _ _ h=>h) (Or.inr ⟨by rfl,rfl⟩) ?_ ?_;rotate_left
        ·simp only[Act.put,List.setIfInBounds_toArray,List.set_cons_zero,List.set_cons_succ,dL,dM]
         rfl
        refine iY (i:=22) (N:=some 36) (v:=undef) (a':=?_) (zb 24 8388607) rfl rfl (bf av.out qk) (fun _ _ _ h=>h) (Or.inr ⟨by rfl,rfl⟩) ?_ ?_;rotate_left
        ·simp only[Act.put,List.setIfInBounds_toArray,List.set_cons_zero,List.set_cons_succ,dL,dM]
         rfl
        refine zU (i:=23) (N:=some 37) (zb 24 16777215) (bf av.out qk) ?_;refine mh (ng av.out qk) ?_;try go_wp2
        go_meet
        case rel=>exact⟨_,(true),zR,H',⟨by have:=Ec.out;first|omega|exact Nat.le_refl _⟩,zK bZ,⟨zT HB⟩⟩
       ·rw[if_neg c13]at H
        have L_:=beq_eq_false_iff_ne.mpr c13;have QT:=bne_iff_ne.mpr c13;obtain⟨⟨t108,t109⟩,NR,H⟩:=zo H;try dsimp only at H
        obtain⟨⟨t110,t111⟩,A18,H⟩:=zo H;try dsimp only at H
        have H':=qa H;clear H;try go_wp2
        replace bZ:=zD bZ;replace HB:=zF HB;refine mg (n:=24) (S:=fun w'=>w'.cell? ⟨uk,0,none⟩=some (.bool af)/\w'.cell? ⟨uk,1,none⟩=some (.string aa)/\w'.cell? ⟨uk,2,none⟩=some (.string aj)) (ds:=[]) (zb 24 0) qk rfl rfl ⟨zc bZ 0,zc bZ 1,zc bZ 2⟩ (fun hHeld=>?_);refine mZ gA.Df gA.CZ (fun av bN=>?_);generalize wc.drew=Ed at bZ HB hHeld ⊢;refine zU (i:=0) (N:=some 14) (zb 24 1) (bf av.out qk) ?_;refine zV (i:=1) (N:=some 15) (zb 24 3) (cg av.out bN.out qk) hHeld ?_;refine bM (i:=2) (N:=some 16) (zb 24 7) rfl rfl (bO av.out qk) qd (fun K hK=>?_);refine zJ Tryz.func84 qk (Ai.calls af aa t106 _ A9.out) fun wR hb=>?_;replace bZ:=zB bZ hb;replace HB:=zS HB hb
        (try clear hb)
        refine hK.out _ _ ⟨zc bZ 0,zc bZ 1,zc bZ 2⟩ (fun hHeld=>?_);clear hK K;refine zW (some 16) ?_;refine zU (i:=3) (N:=some 17) (zb 24 15) (bf av.out qk) ?_;refine zU (i:=4) (N:=some 18) (zb 24 31) (bf av.out qk) ?_;refine zU (i:=5) (N:=some 19) (zb 24 63) (bf av.out qk) ?_;refine zV (i:=6) (N:=some 20) (zb 24 127) (cg av.out bN.out qk) hHeld ?_;refine bM (i:=7) (N:=some 21) (zb 24 255) rfl rfl (bO av.out qk) qd (fun K hK=>?_);refine zJ Tryz.func85 qk (Cm.calls aj true _ Kh.out) fun tI hb=>?_;replace bZ:=zB bZ hb;replace HB:=zS HB hb
        (try clear hb)
        refine hK.out _ _ ⟨zc bZ 0,zc bZ 1,zc bZ 2⟩ (fun hHeld=>?_);clear hK K;refine zW (some 21) ?_;refine zU (i:=8) (N:=some 22) (zb 24 511) (bf av.out qk) ?_;refine zU (i:=9) (N:=some 23) (zb 24 1023) (bf av.out qk) ?_;refine zU (i:=10) (N:=some 24) (zb 24 2047) (bf av.out qk) ?_;refine zU (i:=11) (N:=some 25) (zb 24 4095) (bf av.out qk) ?_;refine zV (i:=12) (N:=some 26) (zb 24 8191) (cg av.out bN.out qk) hHeld ?_;refine zU (i:=13) (N:=some 27) (zb 24 16383) (bf av.out qk) ?_;refine zU (i:=14) (N:=some 28) (zb 24 32767) (bf av.out qk) ?_;refine zU (i:=15) (N:=some 29) (zb 24 65535) (bf av.out qk) ?_;refine zU (i:=16) (N:=some 30) (zb 24 131071) (bf av.out qk) ?_;refine zV (i:=17) (N:=some 31) (zb 24 262143) (cg av.out bN.out qk) hHeld ?_;refine zV (i:=18) (N:=some 32) (zb 24 524287) (cg av.out bN.out qk) hHeld ?_;refine bM (i:=19) (N:=some 33) (zb 24 1048575) rfl rfl (bO av.out qk) qd (fun K hK=>?_);refine zJ Tryz.func78 qk (lZ.calls af aa aj t108 t109 _ NR.out) fun Ki hb=>?_;replace bZ:=zB bZ hb;replace HB:=zS HB hb
        (try clear hb)
        refine hK.out _ _ ⟨zc bZ 0,zc bZ 1,zc bZ 2⟩ (fun hHeld=>?_);clear hK K;refine zW (some 33) ?_;refine bM (i:=20) (N:=some 34) (zb 24 2097151) rfl rfl (bO av.out qk) qd (fun K hK=>?_);refine zJ Tryz.func86 qk (Eo.calls af aa t108 t109 t110 t111 _ A18.out) fun BQ hb=>?_;replace bZ:=zB bZ hb;replace HB:=zS HB hb
        (try clear hb)
        refine hK.out _ _ ⟨zc bZ 0,zc bZ 1,zc bZ 2⟩ (fun hHeld=>?_);clear hK K;refine zW (some 34) ?_;refine zU (i:=21) (N:=some 35) (zb 24 4194303) (bf av.out qk) ?_;refine zU (i:=22) (N:=some 36) (zb 24 8388607) (bf av.out qk) ?_;refine zU (i:=23) (N:=some 37) (zb 24 16777215) (bf av.out qk) ?_;refine mh (ng av.out qk) ?_;try go_wp2
        go_meet
        case rel=>exact⟨_,((t111.toList != ([1]:List UInt8))),zR,H',⟨by have:=Ec.out;first|omega|exact Nat.le_refl _⟩,zK bZ,⟨zT HB⟩⟩
      ·replace c12:=Bool.eq_false_iff.mpr c12
       subst c12;rw[if_neg zn]at H
       have H':=qa H;clear H;try go_wp2
       replace bZ:=zD bZ;replace HB:=zF HB;refine mg (n:=24) (S:=fun w'=>w'.cell? ⟨uk,0,none⟩=some (.bool af)/\w'.cell? ⟨uk,1,none⟩=some (.string aa)/\w'.cell? ⟨uk,2,none⟩=some (.string aj)) (ds:=[]) (zb 24 0) qk rfl rfl ⟨zc bZ 0,zc bZ 1,zc bZ 2⟩ (fun hHeld=>?_);refine mZ gA.Df gA.CZ (fun av bN=>?_);generalize wc.drew=BU at bZ HB hHeld ⊢;refine zU (i:=0) (N:=some 14) (zb 24 1) (bf av.out qk) ?_;refine zV (i:=1) (N:=some 15) (zb 24 3) (cg av.out bN.out qk) hHeld ?_;refine bM (i:=2) (N:=some 16) (zb 24 7) rfl rfl (bO av.out qk) qd (fun K hK=>?_);refine zJ Tryz.func84 qk (Ai.calls af aa t106 _ A9.out) fun w25 hb=>?_;replace bZ:=zB bZ hb;replace HB:=zS HB hb
       (try clear hb)
       refine hK.out _ _ ⟨zc bZ 0,zc bZ 1,zc bZ 2⟩ (fun hHeld=>?_);clear hK K;refine zW (some 16) ?_;refine zU (i:=3) (N:=some 17) (zb 24 15) (bf av.out qk) ?_;refine zU (i:=4) (N:=some 18) (zb 24 31) (bf av.out qk) ?_;refine zU (i:=5) (N:=some 19) (zb 24 63) (bf av.out qk) ?_;refine zV (i:=6) (N:=some 20) (zb 24 127) (cg av.out bN.out qk) hHeld ?_;refine bM (i:=7) (N:=some 21) (zb 24 255) rfl rfl (bO av.out qk) qd (fun K hK=>?_);refine zJ Tryz.func85 qk (Cm.calls aj false _ Kh.out) fun SC hb=>?_;replace bZ:=zB bZ hb;replace HB:=zS HB hb
       (try clear hb)
       refine hK.out _ _ ⟨zc bZ 0,zc bZ 1,zc bZ 2⟩ (fun hHeld=>?_);clear hK K;refine zW (some 21) ?_;refine zU (i:=8) (N:=some 22) (zb 24 511) (bf av.out qk) ?_;refine zU (i:=9) (N:=some 23) (zb 24 1023) (bf av.out qk) ?_;refine zU (i:=10) (N:=some 24) (zb 24 2047) (bf av.out qk) ?_;refine iY (i:=11) (N:=some 25) (v:=undef) (a':=?_) (zb 24 4095) rfl rfl (bf av.out qk) (fun _ _ _ h=>h) (Or.inr ⟨by rfl,rfl⟩) ?_ ?_;rotate_left
       ·simp only[Act.put,List.setIfInBounds_toArray,List.set_cons_zero,List.set_cons_succ,dL,dM]
        rfl
       refine iY (i:=12) (N:=some 26) (v:=undef) (a':=?_) (zb 24 8191) rfl rfl (bf av.out qk) (fun _ _ _ h=>h) (Or.inr ⟨by rfl,rfl⟩) ?_ ?_;rotate_left
       ·simp only[Act.put,List.setIfInBounds_toArray,List.set_cons_zero,List.set_cons_succ,dL,dM]
        rfl
       refine iY (i:=13) (N:=some 27) (v:=undef) (a':=?_) (zb 24 16383) rfl rfl (bf av.out qk) (fun _ _ _ h=>h) (Or.inr ⟨by rfl,rfl⟩) ?_ ?_;rotate_left
       ·simp only[Act.put,List.setIfInBounds_toArray,List.set_cons_zero,List.set_cons_succ,dL,dM]
        rfl
       refine zU (i:=14) (N:=some 28) (zb 24 32767) (bf av.out qk) ?_;refine zU (i:=15) (N:=some 29) (zb 24 65535) (bf av.out qk) ?_;refine iY (i:=16) (N:=some 30) (v:=undef) (a':=?_) (zb 24 131071) rfl rfl (bf av.out qk) (fun _ _ _ h=>h) (Or.inr ⟨by rfl,rfl⟩) ?_ ?_;rotate_left
       ·simp only[Act.put,List.setIfInBounds_toArray,List.set_cons_zero,List.set_cons_succ,dL,dM]
        rfl
       refine iY (i:=17) (N:=some 31) (v:=undef) (a':=?_) (zb 24 262143) rfl rfl (bf av.out qk) (fun _ _ _ h=>h) (Or.inr ⟨by rfl,rfl⟩) ?_ ?_;rotate_left
       ·simp only[Act.put,List.setIfInBounds_toArray,List.set_cons_zero,List.set_cons_succ,dL,dM]
        rfl
       refine iY (i:=18) (N:=some 32) (v:=undef) (a':=?_) (zb 24 524287) rfl rfl (bf av.out qk) (fun _ _ _ h=>h) (Or.inr ⟨by rfl,rfl⟩) ?_ ?_;rotate_left
       ·simp only[Act.put,List.setIfInBounds_toArray,List.set_cons_zero,List.set_cons_succ,dL,dM]
        rfl
       refine iY (i:=19) (N:=some 33) (v:=undef) (a':=?_) (zb 24 1048575) rfl rfl (bf av.out qk) (fun _ _ _ h=>h) (Or.inr ⟨by rfl,rfl⟩) ?_ ?_;rotate_left
       ·simp only[Act.put,List.setIfInBounds_toArray,List.set_cons_zero,List.set_cons_succ,dL,dM]
        rfl
       refine iY (i:=20) (N:=some 34) (v:=undef) (a':=?_) (zb 24 2097151) rfl rfl (bf av.out qk) (fun _ _ _ h=>h) (Or.inr ⟨by rfl,rfl⟩) ?_ ?_;rotate_left
       ·simp only[Act.put,List.setIfInBounds_toArray,List.set_cons_zero,List.set_cons_succ,dL,dM]
        rfl
       refine iY (i:=21) (N:=some 35) (v:=undef) (a':=?_) (zb 24 4194303) rfl rfl (bf av.out qk) (fun _ _ _ h=>h) (Or.inr ⟨by rfl,rfl⟩) ?_ ?_;rotate_left
       ·simp only[Act.put,List.setIfInBounds_toArray,List.set_cons_zero,List.set_cons_succ,dL,dM]
        rfl
       refine iY (i:=22) (N:=some 36) (v:=undef) (a':=?_) (zb 24 8388607) rfl rfl (bf av.out qk) (fun _ _ _ h=>h) (Or.inr ⟨by rfl,rfl⟩) ?_ ?_;rotate_left
       ·simp only[Act.put,List.setIfInBounds_toArray,List.set_cons_zero,List.set_cons_succ,dL,dM]
        rfl
       refine zU (i:=23) (N:=some 37) (zb 24 16777215) (bf av.out qk) ?_;refine mh (ng av.out qk) ?_;try go_wp2
       go_meet
       case rel=>exact⟨_,(true),zR,H',⟨by have:=Ec.out;first|omega|exact Nat.le_refl _⟩,zK bZ,⟨zT HB⟩⟩
     ·rw[if_neg c10]at H
      have oX:=beq_eq_false_iff_ne.mpr c10;have C5:=bne_iff_ne.mpr c10
      (first|rw[oX]|(simp only[dL,dM];rw[oX])|skip)
      have H':=qa H;clear H;try go_wp2
      replace bZ:=zD bZ;replace HB:=zF HB;refine mg (n:=24) (S:=fun w'=>w'.cell? ⟨uk,0,none⟩=some (.bool af)/\w'.cell? ⟨uk,1,none⟩=some (.string aa)/\w'.cell? ⟨uk,2,none⟩=some (.string aj)) (ds:=[]) (zb 24 0) qk rfl rfl ⟨zc bZ 0,zc bZ 1,zc bZ 2⟩ (fun hHeld=>?_);refine mZ gA.Df gA.CZ (fun av bN=>?_);generalize wc.drew=w27 at bZ HB hHeld ⊢;refine zU (i:=0) (N:=some 14) (zb 24 1) (bf av.out qk) ?_;refine zV (i:=1) (N:=some 15) (zb 24 3) (cg av.out bN.out qk) hHeld ?_;refine bM (i:=2) (N:=some 16) (zb 24 7) rfl rfl (bO av.out qk) qd (fun K hK=>?_);refine zJ Tryz.func84 qk (Ai.calls af aa t106 _ A9.out) fun Zz hb=>?_;replace bZ:=zB bZ hb;replace HB:=zS HB hb
      (try clear hb)
      refine hK.out _ _ ⟨zc bZ 0,zc bZ 1,zc bZ 2⟩ (fun hHeld=>?_);clear hK K;refine zW (some 16) ?_;refine zU (i:=3) (N:=some 17) (zb 24 15) (bf av.out qk) ?_;refine zU (i:=4) (N:=some 18) (zb 24 31) (bf av.out qk) ?_;refine iY (i:=5) (N:=some 19) (v:=undef) (a':=?_) (zb 24 63) rfl rfl (bf av.out qk) (fun _ _ _ h=>h) (Or.inr ⟨by rfl,rfl⟩) ?_ ?_;rotate_left
      ·simp only[Act.put,List.setIfInBounds_toArray,List.set_cons_zero,List.set_cons_succ,dL,dM]
       rfl
      refine iY (i:=6) (N:=some 20) (v:=undef) (a':=?_) (zb 24 127) rfl rfl (bf av.out qk) (fun _ _ _ h=>h) (Or.inr ⟨by rfl,rfl⟩) ?_ ?_;rotate_left
      ·simp only[Act.put,List.setIfInBounds_toArray,List.set_cons_zero,List.set_cons_succ,dL,dM]
       rfl
      refine iY (i:=7) (N:=some 21) (v:=undef) (a':=?_) (zb 24 255) rfl rfl (bf av.out qk) (fun _ _ _ h=>h) (Or.inr ⟨by rfl,rfl⟩) ?_ ?_;rotate_left
      ·simp only[Act.put,List.setIfInBounds_toArray,List.set_cons_zero,List.set_cons_succ,dL,dM]
       rfl
      refine iY (i:=8) (N:=some 22) (v:=undef) (a':=?_) (zb 24 511) rfl rfl (bf av.out qk) (fun _ _ _ h=>h) (Or.inr ⟨by rfl,rfl⟩) ?_ ?_;rotate_left
      ·simp only[Act.put,List.setIfInBounds_toArray,List.set_cons_zero,List.set_cons_succ,dL,dM]
       rfl
      refine zU (i:=9) (N:=some 23) (zb 24 1023) (bf av.out qk) ?_;refine zU (i:=10) (N:=some 24) (zb 24 2047) (bf av.out qk) ?_;refine iY (i:=11) (N:=some 25) (v:=undef) (a':=?_) (zb 24 4095) rfl rfl (bf av.out qk) (fun _ _ _ h=>h) (Or.inr ⟨by rfl,rfl⟩) ?_ ?_;rotate_left
      ·simp only[Act.put,List.setIfInBounds_toArray,List.set_cons_zero,List.set_cons_succ,dL,dM]
       rfl
      refine iY (i:=12) (N:=some 26) (v:=undef) (a':=?_) (zb 24 8191) rfl rfl (bf av.out qk) (fun _ _ _ h=>h) (Or.inr ⟨by rfl,rfl⟩) ?_ ?_;rotate_left
      ·simp only[Act.put,List.setIfInBounds_toArray,List.set_cons_zero,List.set_cons_succ,dL,dM]
       rfl
      refine iY (i:=13) (N:=some 27) (v:=undef) (a':=?_) (zb 24 16383) rfl rfl (bf av.out qk) (fun _ _ _ h=>h) (Or.inr ⟨by rfl,rfl⟩) ?_ ?_;rotate_left
      ·simp only[Act.put,List.setIfInBounds_toArray,List.set_cons_zero,List.set_cons_succ,dL,dM]
       rfl
      refine zU (i:=14) (N:=some 28) (zb 24 32767) (bf av.out qk) ?_;refine zU (i:=15) (N:=some 29) (zb 24 65535) (bf av.out qk) ?_;refine iY (i:=16) (N:=some 30) (v:=undef) (a':=?_) (zb 24 131071) rfl rfl (bf av.out qk) (fun _ _ _ h=>h) (Or.inr ⟨by rfl,rfl⟩) ?_ ?_;rotate_left
      ·simp only[Act.put,List.setIfInBounds_toArray,List.set_cons_zero,List.set_cons_succ,dL,dM]
       rfl
      refine iY (i:=17) (N:=some 31) (v:=undef) (a':=?_) (zb 24 262143) rfl rfl (bf av.out qk) (fun _ _ _ h=>h) (Or.inr ⟨by rfl,rfl⟩) ?_ ?_;rotate_left
      ·simp only[Act.put,List.setIfInBounds_toArray,List.set_cons_zero,List.set_cons_succ,dL,dM]
       rfl
      refine iY (i:=18) (N:=some 32) (v:=undef) (a':=?_) (zb 24 524287) rfl rfl (bf av.out qk) (fun _ _ _ h=>h) (Or.inr ⟨by rfl,rfl⟩) ?_ ?_;rotate_left
      ·simp only[Act.put,List.setIfInBounds_toArray,List.set_cons_zero,List.set_cons_succ,dL,dM]
       rfl
      refine iY (i:=19) (N:=some 33) (v:=undef) (a':=?_) (zb 24 1048575) rfl rfl (bf av.out qk) (fun _ _ _ h=>h) (Or.inr ⟨by rfl,rfl⟩) ?_ ?_;rotate_left
      ·simp only[Act.put,List.setIfInBounds_toArray,List.set_cons_zero,List.set_cons_succ,dL,dM]
       rfl
      refine iY (i:=20) (N:=some 34) (v:=undef) (a':=?_) (zb 24 2097151) rfl rfl (bf av.out qk) (fun _ _ _ h=>h) (Or.inr ⟨by rfl,rfl⟩) ?_ ?_;rotate_left
      ·simp only[Act.put,List.setIfInBounds_toArray,List.set_cons_zero,List.set_cons_succ,dL,dM]
       rfl
      refine iY (i:=21) (N:=some 35) (v:=undef) (a':=?_) (zb 24 4194303) rfl rfl (bf av.out qk) (fun _ _ _ h=>h) (Or.inr ⟨by rfl,rfl⟩) ?_ ?_;rotate_left
      ·simp only[Act.put,List.setIfInBounds_toArray,List.set_cons_zero,List.set_cons_succ,dL,dM]
       rfl
      refine iY (i:=22) (N:=some 36) (v:=undef) (a':=?_) (zb 24 8388607) rfl rfl (bf av.out qk) (fun _ _ _ h=>h) (Or.inr ⟨by rfl,rfl⟩) ?_ ?_;rotate_left
      ·simp only[Act.put,List.setIfInBounds_toArray,List.set_cons_zero,List.set_cons_succ,dL,dM]
       rfl
      refine zU (i:=23) (N:=some 37) (zb 24 16777215) (bf av.out qk) ?_;refine mh (ng av.out qk) ?_;try go_wp2
      go_meet
      case rel=>exact⟨_,(true),zR,H',⟨by have:=Ec.out;first|omega|exact Nat.le_refl _⟩,zK bZ,⟨zT HB⟩⟩
    case rest =>
     clear cD;try clear c1;try clear p2;try clear c7;try clear c8;try clear c10;try clear oX;try clear C5;try clear c12
     obtain⟨kq,QS,rfl,HA,HJ7,bZ,HB⟩:=hcut;cases kq with
     | zero=>exact absurd HA.out (by simp[gA.j1])
     | succ kj7 =>
      have H:=HA.out;clear HA;simp only[gA.j1]at H;by_cases SD:QS=true
      ·subst SD
       rw[if_pos rfl]at H
       obtain rfl:=Option.some.inj H;go_wp2
       go_ret
       exact⟨zH,zT HB⟩
      ·replace SD:=Bool.eq_false_iff.mpr SD
       subst SD;rw[if_neg zn]at H
       obtain rfl:=Option.some.inj H;go_wp2
       go_ret
       exact⟨zH,zT HB⟩
end Go.Proofs.aA.R
