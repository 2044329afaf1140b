import Derived.Test.YtfcjnhkkfmgmpaaGreatZsG31
set_option linter.all false
set_option maxRecDepth 100000
set_option maxHeartbeats 8000000
namespace Go.Proofs.aC.R
open Go.RowKit Go.Proofs.aC.Z Go.Proofs.aD.bf Go.Proofs.aD.ck Go.Proofs.aD.cL
attribute [local go_sem] cY cZ dm dn cW cX dc dh
mutual
def fR.j0:Nat→Bool→Bool→ByteArray→ByteArray→Option (Int)
 | 0,_,_,_,_=>none
 | k+1,VW,RN,RO,RQ=>if VW=true then (some 5) else ((xA.f RN RO).bind fun t106=>(if t106=0 then ((zu.f RQ).bind fun t107=>(if t107=true then (if RQ.toList=([]:List UInt8) then (fR.j1 k true) else ((lf.f RN RO RQ).bind fun abn=>((B8.f RN RO abn.1 abn.2).bind fun al3=>(fR.j1 k (al3.2.toList != ([1]:List UInt8)))))) else (fR.j1 k true))) else (fR.j1 k true)))
def fR.j1:Nat→Bool→Option (Int)
 | 0,_=>none
 | k+1,x37=>if x37=true then (some 1) else (some 0)
end
def fR.f (k:Nat) (af:Bool) (aa aj:ByteArray):Option (Int):=if (aa.size:Int) > 8000 then (fR.j0 k true af aa aj) else (fR.j0 k (decide ((aj.size:Int) > 8000)) af aa aj)
def fR.T3:Bool × List (List Nat × List Nat):=(true,[([],[]),([0],[0]),([1],[1]),([2],[2]),([3,2],[3]),([4],[4]),([5,4],[4,5]),([6,4,4],[4,6]),([7,4],[4,7]),([4,8],[4,8]),([9,7],[9]),([10],[10]),([11,10],[10,11]),([12,10],[10,12]),([10,13],[10,13]),([14,10],[14]),([15],[15]),([16,15],[15,16]),([15],[15]),([18,15,15],[15,18]),([17,19,19,15],[15,17,19]),([20,15],[15,20]),([21,15],[15,21]),([15,22],[15,22])])
def fR.B3:List Nat:=[0,1,3,7,15,31,63,127,255,511,1023,2047,4095,8191,16383,32767,65535,131071,65535,327679,1048575,2097151,4194303,8388607]
theorem fR.AK:gZ .any (opsOf Tryz.f72 3)=fR.T3:=by kernel_rfl
theorem fR.Ax:nG fR.T3.2 fR.B3=true:=by kernel_rfl
theorem fR.calls (k:Nat) (af:Bool) (aa aj:ByteArray) (r:Int) (w:World) (h:fR.f k af aa aj=some r) :
  Calls Tryz.prog 72 #[.agg #[.bool af,.string aa,.string aj]] w fun e w'=>e = .returned (.int .i64 r)∧Below w.heap.size w w':=by
 have jT:=Tryz.underlying40;have yu:=Tryz.underlying38;have vT:=wQ;have yT:=wR;have hf2:=wS;have hf3:=wT;have HB:=qa (Below.refl w.heap.size w);unfold fR.f at h;have H:=h;clear h;have qO:=qa H;clear H;go_enter Tryz.func72,Tryz.ntmps72;go_upto_region 1 with (first|((with_reducible refine aZ (N:=1) rfl ?_);(try(refine Cb (by rfl) ?_;dsimp only));refine zY 1 #[.bool af,.string aa,.string aj] 40 ?_;intro rG hg w3 ah hb;have bX:=qa (ah);have axo:=zG hg HB;have axp:=zG hg HB;replace HB:=zS HB hb;clear hb ah hg))
 (try simp only[Act.put,List.setIfInBounds_toArray,List.set_cons_zero,List.set_cons_succ])
 go_cut [13] (fun v13 wc=>∃ (kq:Nat) (NI:Bool),v13 = .bool NI∧aM (fR.j0 kq NI af aa aj=some r)∧aM (kq≤k)∧aM (wc.heap[rG]?=some (.cells #[.bool af,.string aa,.string aj] 40 (0,0)))∧aM (Below w.heap.size w wc))
 case first =>
  have H:=qO.out;clear qO;by_cases c4:(aa.size:Int) > 8000
  ·rw[if_pos c4]at H
   have fI:=decide_eq_true c4;have n7:decide (8000<aa.size)=true:=decide_eq_true (by omega);clear c4
   (first|rw[fI]|(simp only[dJ,dK];rw[fI])|skip)
   have H':=qa H;clear H;obtain⟨CX,CY,CZ,C6,C7,C8⟩:=z3 bX;go_wp2
   go_meet
   case rel=>exact⟨_,(true),zR,H',zL,zK bX,⟨zT HB⟩⟩
  ·rw[if_neg c4]at H
   have fI:=decide_eq_false c4;have n7:decide (8000<aa.size)=false:=decide_eq_false (by omega);clear c4
   (first|rw[fI]|(simp only[dJ,dK];rw[fI])|skip)
   have H':=qa H;clear H;obtain⟨uL,uM,xS,uN,uO,xT⟩:=z3 bX;go_wp2
   go_meet
   case rel=>exact⟨_,(decide ((aj.size:Int) > 8000)),zR,H',zL,zK bX,⟨zT HB⟩⟩
 case rest =>
  clear qO;try clear p2;try clear c4;try clear fI;try clear n7;try clear CX;try clear CY;try clear CZ;try clear uL;try clear uM;try clear xS;try clear C6;try clear C7;try clear C8;try clear uN;try clear uO;try clear xT
  obtain⟨kq,NI,rfl,HA,BK,bX,HB⟩:=hcut;cases kq with
  | zero=>exact absurd HA.out (by simp[fR.j0])
  | succ V5 =>
   have H:=HA.out;clear HA;simp only[fR.j0]at H;by_cases c7:NI=true
   ·subst c7
    rw[if_pos rfl]at H
    obtain rfl:=Option.some.inj H;go_wp2
    go_ret
    exact⟨zH,zT HB⟩
   ·replace c7:=Bool.eq_false_iff.mpr c7
    subst c7;rw[if_neg zn]at H
    have cg:=qa H;clear H;go_upto_region 3 with (fail)
    go_cut [37] (fun v37 wc=>∃ (kq:Nat) (NJ:Bool),v37 = .bool NJ∧aM (fR.j1 kq NJ=some r)∧aM (kq≤V5)∧aM (wc.heap[rG]?=some (.cells #[.bool af,.string aa,.string aj] 40 (0,0)))∧aM (Below w.heap.size w wc))
    case first =>
     have H:=cg.out;clear cg;obtain⟨t106,A9,H⟩:=zo H;by_cases c10:t106=0
     ·rw[if_pos c10]at H
      have nY:=beq_iff_eq.mpr c10;have Ay:=bne_eq_false_iff_eq.mpr c10;clear c10
      (first|rw[nY]|(simp only[dJ,dK];rw[nY])|skip)
      obtain⟨t107,He,H⟩:=zo H;by_cases c12:t107=true
      ·subst c12
       rw[if_pos rfl]at H
       by_cases c13:aj.toList=([]:List UInt8)
       ·rw[if_pos c13]at H
        have JH:=beq_iff_eq.mpr c13;have NK:=bne_eq_false_iff_eq.mpr c13;clear c13;have H':=qa H;clear H;try go_wp2
        replace bX:=zD bX;replace HB:=zF HB;refine l_ (n:=24) (S:=fun w'=>w'.cell? ⟨rG,0,none⟩=some (.bool af)∧w'.cell? ⟨rG,1,none⟩=some (.string aa)∧w'.cell? ⟨rG,2,none⟩=some (.string aj)) (ds:=[]) (zb 24 0) (by kernel_rfl) rfl rfl ⟨zc bX 0,zc bX 1,zc bX 2⟩ (fun hHeld=>?_);refine nC fR.AK fR.Ax (fun av bH=>?_);generalize wc.drew=xp at bX HB hHeld ⊢;refine zU (i:=0) (N:=some 14) (zb 24 1) (a_ av.out (by kernel_rfl)) ?_;refine zV (i:=1) (N:=some 15) (zb 24 3) (bV av.out bH.out (by kernel_rfl)) hHeld ?_;refine bN (i:=2) (N:=some 16) (zb 24 7) rfl rfl (bS av.out (by kernel_rfl)) (by decide) (fun K hK=>?_);refine zJ Tryz.func84 (by kernel_rfl) (xA.calls af aa t106 _ A9.out) fun Pw hb=>?_;replace bX:=zB bX hb;replace HB:=zS HB hb
        (try clear hb)
        refine hK.out _ _ ⟨zc bX 0,zc bX 1,zc bX 2⟩ (fun hHeld=>?_);clear hK K;refine zW (some 16) ?_;refine zU (i:=3) (N:=some 17) (zb 24 15) (a_ av.out (by kernel_rfl)) ?_;refine zU (i:=4) (N:=some 18) (zb 24 31) (a_ av.out (by kernel_rfl)) ?_;refine zU (i:=5) (N:=some 19) (zb 24 63) (a_ av.out (by kernel_rfl)) ?_;refine zV (i:=6) (N:=some 20) (zb 24 127) (bV av.out bH.out (by kernel_rfl)) hHeld ?_;refine bN (i:=7) (N:=some 21) (zb 24 255) rfl rfl (bS av.out (by kernel_rfl)) (by decide) (fun K hK=>?_);refine zJ Tryz.func85 (by kernel_rfl) (zu.calls aj true _ He.out) fun V6 hb=>?_;replace bX:=zB bX hb;replace HB:=zS HB hb
        (try clear hb)
        refine hK.out _ _ ⟨zc bX 0,zc bX 1,zc bX 2⟩ (fun hHeld=>?_);clear hK K;refine zW (some 21) ?_;refine zU (i:=8) (N:=some 22) (zb 24 511) (a_ av.out (by kernel_rfl)) ?_;refine zU (i:=9) (N:=some 23) (zb 24 1023) (a_ av.out (by kernel_rfl)) ?_;refine zU (i:=10) (N:=some 24) (zb 24 2047) (a_ av.out (by kernel_rfl)) ?_;refine zU (i:=11) (N:=some 25) (zb 24 4095) (a_ av.out (by kernel_rfl)) ?_;refine zV (i:=12) (N:=some 26) (zb 24 8191) (bV av.out bH.out (by kernel_rfl)) hHeld ?_;refine zU (i:=13) (N:=some 27) (zb 24 16383) (a_ av.out (by kernel_rfl)) ?_;refine zU (i:=14) (N:=some 28) (zb 24 32767) (a_ av.out (by kernel_rfl)) ?_;refine zU (i:=15) (N:=some 29) (zb 24 65535) (a_ av.out (by kernel_rfl)) ?_;refine ir (i:=16) (N:=some 30) (v:=undef) (a':=?_) (zb 24 131071) rfl rfl (a_ av.out (by kernel_rfl)) (fun _ _ _ h=>h) (Or.inr ⟨by rfl,rfl⟩) ?_ ?_;rotate_left
        ·simp only[Act.put,List.setIfInBounds_toArray,List.set_cons_zero,List.set_cons_succ,dJ,dK]
         rfl
        refine ir (i:=17) (N:=some 31) (v:=undef) (a':=?_) (zb 24 262143) rfl rfl (a_ av.out (by kernel_rfl)) (fun _ _ _ h=>h) (Or.inr ⟨by rfl,rfl⟩) ?_ ?_;rotate_left
        ·simp only[Act.put,List.setIfInBounds_toArray,List.set_cons_zero,List.set_cons_succ,dJ,dK]
         rfl
        refine ir (i:=18) (N:=some 32) (v:=undef) (a':=?_) (zb 24 524287) rfl rfl (a_ av.out (by kernel_rfl)) (fun _ _ _ h=>h) (Or.inr ⟨by rfl,rfl⟩) ?_ ?_;rotate_left
        ·simp only[Act.put,List.setIfInBounds_toArray,List.set_cons_zero,List.set_cons_succ,dJ,dK]
         rfl
        refine ir (i:=19) (N:=some 33) (v:=undef) (a':=?_) (zb 24 1048575) rfl rfl (a_ av.out (by kernel_rfl)) (fun _ _ _ h=>h) (Or.inr ⟨by rfl,rfl⟩) ?_ ?_;rotate_left
        ·simp only[Act.put,List.setIfInBounds_toArray,List.set_cons_zero,List.set_cons_succ,dJ,dK]
         rfl
        refine ir (i:=20) (N:=some 34) (v:=undef) (a':=?_) (zb 24 2097151) rfl rfl (a_ av.out (by kernel_rfl)) (fun _ _ _ h=>h) (Or.inr ⟨by rfl,rfl⟩) ?_ ?_;rotate_left
        ·simp only[Act.put,List.setIfInBounds_toArray,List.set_cons_zero,List.set_cons_succ,dJ,dK]
         rfl
        refine ir (i:=21) (N:=some 35) (v:=undef) (a':=?_) (zb 24 4194303) rfl rfl (a_ av.out (by kernel_rfl)) (fun _ _ _ h=>h) (Or.inr ⟨by rfl,rfl⟩) ?_ ?_;rotate_left
        ·simp only[Act.put,List.setIfInBounds_toArray,List.set_cons_zero,List.set_cons_succ,dJ,dK]
         rfl
        refine ir (i:=22) (N:=some 36) (v:=undef) (a':=?_) (zb 24 8388607) rfl rfl (a_ av.out (by kernel_rfl)) (fun _ _ _ h=>h) (Or.inr ⟨by rfl,rfl⟩) ?_ ?_;rotate_left
        ·simp only[Act.put,List.setIfInBounds_toArray,List.set_cons_zero,List.set_cons_succ,dJ,dK]
         rfl
        refine zU (i:=23) (N:=some 37) (zb 24 16777215) (a_ av.out (by kernel_rfl)) ?_;refine mj (nE av.out (by kernel_rfl)) ?_;try go_wp2
        go_meet
        case rel=>exact⟨_,(true),zR,H',⟨by have:=BK.out;first|omega|exact Nat.le_refl _⟩,zK bX,⟨zT HB⟩⟩
       ·rw[if_neg c13]at H
        have JH:=beq_eq_false_iff_ne.mpr c13;have NK:=bne_iff_ne.mpr c13;obtain⟨⟨t108,t109⟩,K9,H⟩:=zo H;try dsimp only at H
        obtain⟨⟨t110,t111⟩,A18,H⟩:=zo H;try dsimp only at H
        have H':=qa H;clear H;try go_wp2
        replace bX:=zD bX;replace HB:=zF HB;refine l_ (n:=24) (S:=fun w'=>w'.cell? ⟨rG,0,none⟩=some (.bool af)∧w'.cell? ⟨rG,1,none⟩=some (.string aa)∧w'.cell? ⟨rG,2,none⟩=some (.string aj)) (ds:=[]) (zb 24 0) (by kernel_rfl) rfl rfl ⟨zc bX 0,zc bX 1,zc bX 2⟩ (fun hHeld=>?_);refine nC fR.AK fR.Ax (fun av bH=>?_);generalize wc.drew=V7 at bX HB hHeld ⊢;refine zU (i:=0) (N:=some 14) (zb 24 1) (a_ av.out (by kernel_rfl)) ?_;refine zV (i:=1) (N:=some 15) (zb 24 3) (bV av.out bH.out (by kernel_rfl)) hHeld ?_;refine bN (i:=2) (N:=some 16) (zb 24 7) rfl rfl (bS av.out (by kernel_rfl)) (by decide) (fun K hK=>?_);refine zJ Tryz.func84 (by kernel_rfl) (xA.calls af aa t106 _ A9.out) fun Px hb=>?_;replace bX:=zB bX hb;replace HB:=zS HB hb
        (try clear hb)
        refine hK.out _ _ ⟨zc bX 0,zc bX 1,zc bX 2⟩ (fun hHeld=>?_);clear hK K;refine zW (some 16) ?_;refine zU (i:=3) (N:=some 17) (zb 24 15) (a_ av.out (by kernel_rfl)) ?_;refine zU (i:=4) (N:=some 18) (zb 24 31) (a_ av.out (by kernel_rfl)) ?_;refine zU (i:=5) (N:=some 19) (zb 24 63) (a_ av.out (by kernel_rfl)) ?_;refine zV (i:=6) (N:=some 20) (zb 24 127) (bV av.out bH.out (by kernel_rfl)) hHeld ?_;refine bN (i:=7) (N:=some 21) (zb 24 255) rfl rfl (bS av.out (by kernel_rfl)) (by decide) (fun K hK=>?_);refine zJ Tryz.func85 (by kernel_rfl) (zu.calls aj true _ He.out) fun ze hb=>?_;replace bX:=zB bX hb;replace HB:=zS HB hb
        (try clear hb)
        refine hK.out _ _ ⟨zc bX 0,zc bX 1,zc bX 2⟩ (fun hHeld=>?_);clear hK K;refine zW (some 21) ?_;refine zU (i:=8) (N:=some 22) (zb 24 511) (a_ av.out (by kernel_rfl)) ?_;refine zU (i:=9) (N:=some 23) (zb 24 1023) (a_ av.out (by kernel_rfl)) ?_;refine zU (i:=10) (N:=some 24) (zb 24 2047) (a_ av.out (by kernel_rfl)) ?_;refine zU (i:=11) (N:=some 25) (zb 24 4095) (a_ av.out (by kernel_rfl)) ?_;refine zV (i:=12) (N:=some 26) (zb 24 8191) (bV av.out bH.out (by kernel_rfl)) hHeld ?_;refine zU (i:=13) (N:=some 27) (zb 24 16383) (a_ av.out (by kernel_rfl)) ?_;refine zU (i:=14) (N:=some 28) (zb 24 32767) (a_ av.out (by kernel_rfl)) ?_;refine zU (i:=15) (N:=some 29) (zb 24 65535) (a_ av.out (by kernel_rfl)) ?_;refine zU (i:=16) (N:=some 30) (zb 24 131071) (a_ av.out (by kernel_rfl)) ?_;refine zV (i:=17) (N:=some 31) (zb 24 262143) (bV av.out bH.out (by kernel_rfl)) hHeld ?_;refine zV (i:=18) (N:=some 32) (zb 24 524287) (bV av.out bH.out (by kernel_rfl)) hHeld ?_;refine bN (i:=19) (N:=some 33) (zb 24 1048575) rfl rfl (bS av.out (by kernel_rfl)) (by decide) (fun K hK=>?_);refine zJ Tryz.func78 (by kernel_rfl) (lf.calls af aa aj t108 t109 _ K9.out) fun w22 hb=>?_;replace bX:=zB bX hb;replace HB:=zS HB hb
        (try clear hb)
        refine hK.out _ _ ⟨zc bX 0,zc bX 1,zc bX 2⟩ (fun hHeld=>?_);clear hK K;refine zW (some 33) ?_;refine bN (i:=20) (N:=some 34) (zb 24 2097151) rfl rfl (bS av.out (by kernel_rfl)) (by decide) (fun K hK=>?_);refine zJ Tryz.func86 (by kernel_rfl) (B8.calls af aa t108 t109 t110 t111 _ A18.out) fun Es hb=>?_;replace bX:=zB bX hb;replace HB:=zS HB hb
        (try clear hb)
        refine hK.out _ _ ⟨zc bX 0,zc bX 1,zc bX 2⟩ (fun hHeld=>?_);clear hK K;refine zW (some 34) ?_;refine zU (i:=21) (N:=some 35) (zb 24 4194303) (a_ av.out (by kernel_rfl)) ?_;refine zU (i:=22) (N:=some 36) (zb 24 8388607) (a_ av.out (by kernel_rfl)) ?_;refine zU (i:=23) (N:=some 37) (zb 24 16777215) (a_ av.out (by kernel_rfl)) ?_;refine mj (nE av.out (by kernel_rfl)) ?_;try go_wp2
        go_meet
        case rel=>exact⟨_,((t111.toList != ([1]:List UInt8))),zR,H',⟨by have:=BK.out;first|omega|exact Nat.le_refl _⟩,zK bX,⟨zT HB⟩⟩
      ·replace c12:=Bool.eq_false_iff.mpr c12
       subst c12;rw[if_neg zn]at H
       have H':=qa H;clear H;try go_wp2
       replace bX:=zD bX;replace HB:=zF HB;refine l_ (n:=24) (S:=fun w'=>w'.cell? ⟨rG,0,none⟩=some (.bool af)∧w'.cell? ⟨rG,1,none⟩=some (.string aa)∧w'.cell? ⟨rG,2,none⟩=some (.string aj)) (ds:=[]) (zb 24 0) (by kernel_rfl) rfl rfl ⟨zc bX 0,zc bX 1,zc bX 2⟩ (fun hHeld=>?_);refine nC fR.AK fR.Ax (fun av bH=>?_);generalize wc.drew=zf at bX HB hHeld ⊢;refine zU (i:=0) (N:=some 14) (zb 24 1) (a_ av.out (by kernel_rfl)) ?_;refine zV (i:=1) (N:=some 15) (zb 24 3) (bV av.out bH.out (by kernel_rfl)) hHeld ?_;refine bN (i:=2) (N:=some 16) (zb 24 7) rfl rfl (bS av.out (by kernel_rfl)) (by decide) (fun K hK=>?_);refine zJ Tryz.func84 (by kernel_rfl) (xA.calls af aa t106 _ A9.out) fun w25 hb=>?_;replace bX:=zB bX hb;replace HB:=zS HB hb
       (try clear hb)
       refine hK.out _ _ ⟨zc bX 0,zc bX 1,zc bX 2⟩ (fun hHeld=>?_);clear hK K;refine zW (some 16) ?_;refine zU (i:=3) (N:=some 17) (zb 24 15) (a_ av.out (by kernel_rfl)) ?_;refine zU (i:=4) (N:=some 18) (zb 24 31) (a_ av.out (by kernel_rfl)) ?_;refine zU (i:=5) (N:=some 19) (zb 24 63) (a_ av.out (by kernel_rfl)) ?_;refine zV (i:=6) (N:=some 20) (zb 24 127) (bV av.out bH.out (by kernel_rfl)) hHeld ?_;refine bN (i:=7) (N:=some 21) (zb 24 255) rfl rfl (bS av.out (by kernel_rfl)) (by decide) (fun K hK=>?_);refine zJ Tryz.func85 (by kernel_rfl) (zu.calls aj false _ He.out) fun Lf hb=>?_;replace bX:=zB bX hb;replace HB:=zS HB hb
       (try clear hb)
       refine hK.out _ _ ⟨zc bX 0,zc bX 1,zc bX 2⟩ (fun hHeld=>?_);clear hK K;refine zW (some 21) ?_;refine zU (i:=8) (N:=some 22) (zb 24 511) (a_ av.out (by kernel_rfl)) ?_;refine zU (i:=9) (N:=some 23) (zb 24 1023) (a_ av.out (by kernel_rfl)) ?_;refine zU (i:=10) (N:=some 24) (zb 24 2047) (a_ av.out (by kernel_rfl)) ?_;refine ir (i:=11) (N:=some 25) (v:=undef) (a':=?_) (zb 24 4095) rfl rfl (a_ av.out (by kernel_rfl)) (fun _ _ _ h=>h) (Or.inr ⟨by rfl,rfl⟩) ?_ ?_;rotate_left
       ·simp only[Act.put,List.setIfInBounds_toArray,List.set_cons_zero,List.set_cons_succ,dJ,dK]
        rfl
       refine ir (i:=12) (N:=some 26) (v:=undef) (a':=?_) (zb 24 8191) rfl rfl (a_ av.out (by kernel_rfl)) (fun _ _ _ h=>h) (Or.inr ⟨by rfl,rfl⟩) ?_ ?_;rotate_left
       ·simp only[Act.put,List.setIfInBounds_toArray,List.set_cons_zero,List.set_cons_succ,dJ,dK]
        rfl
       refine ir (i:=13) (N:=some 27) (v:=undef) (a':=?_) (zb 24 16383) rfl rfl (a_ av.out (by kernel_rfl)) (fun _ _ _ h=>h) (Or.inr ⟨by rfl,rfl⟩) ?_ ?_;rotate_left
       ·simp only[Act.put,List.setIfInBounds_toArray,List.set_cons_zero,List.set_cons_succ,dJ,dK]
        rfl
       refine zU (i:=14) (N:=some 28) (zb 24 32767) (a_ av.out (by kernel_rfl)) ?_;refine zU (i:=15) (N:=some 29) (zb 24 65535) (a_ av.out (by kernel_rfl)) ?_;refine ir (i:=16) (N:=some 30) (v:=undef) (a':=?_) (zb 24 131071) rfl rfl (a_ av.out (by kernel_rfl)) (fun _ _ _ h=>h) (Or.inr ⟨by rfl,rfl⟩) ?_ ?_;rotate_left
       ·simp only[Act.put,List.setIfInBounds_toArray,List.set_cons_zero,List.set_cons_succ,dJ,dK]
        rfl
       refine ir (i:=17) (N:=some 31) (v:=undef) (a':=?_) (zb 24 262143) rfl rfl (a_ av.out (by kernel_rfl)) (fun _ _ _ h=>h) (Or.inr ⟨by rfl,rfl⟩) ?_ ?_;rotate_left
       ·simp only[Act.put,List.setIfInBounds_toArray,List.set_cons_zero,List.set_cons_succ,dJ,dK]
        rfl
       refine ir (i:=18) (N:=some 32) (v:=undef) (a':=?_) (zb 24 524287) rfl rfl (a_ av.out (by kernel_rfl)) (fun _ _ _ h=>h) (Or.inr ⟨by rfl,rfl⟩) ?_ ?_;rotate_left
       ·simp only[Act.put,List.setIfInBounds_toArray,List.set_cons_zero,List.set_cons_succ,dJ,dK]
        rfl
       refine ir (i:=19) (N:=some 33) (v:=undef) (a':=?_) (zb 24 1048575) rfl rfl (a_ av.out (by kernel_rfl)) (fun _ _ _ h=>h) (Or.inr ⟨by rfl,rfl⟩) ?_ ?_;rotate_left
       ·simp only[Act.put,List.setIfInBounds_toArray,List.set_cons_zero,List.set_cons_succ,dJ,dK]
        rfl
       refine ir (i:=20) (N:=some 34) (v:=undef) (a':=?_) (zb 24 2097151) rfl rfl (a_ av.out (by kernel_rfl)) (fun _ _ _ h=>h) (Or.inr ⟨by rfl,rfl⟩) ?_ ?_;rotate_left
       ·simp only[Act.put,List.setIfInBounds_toArray,List.set_cons_zero,List.set_cons_succ,dJ,dK]
        rfl
       refine ir (i:=21) (N:=some 35) (v:=undef) (a':=?_) (zb 24 4194303) rfl rfl (a_ av.out (by kernel_rfl)) (fun _ _ _ h=>h) (Or.inr ⟨by rfl,rfl⟩) ?_ ?_;rotate_left
       ·simp only[Act.put,List.setIfInBounds_toArray,List.set_cons_zero,List.set_cons_succ,dJ,dK]
        rfl
       refine ir (i:=22) (N:=some 36) (v:=undef) (a':=?_) (zb 24 8388607) rfl rfl (a_ av.out (by kernel_rfl)) (fun _ _ _ h=>h) (Or.inr ⟨by rfl,rfl⟩) ?_ ?_;rotate_left
       ·simp only[Act.put,List.setIfInBounds_toArray,List.set_cons_zero,List.set_cons_succ,dJ,dK]
        rfl
       refine zU (i:=23) (N:=some 37) (zb 24 16777215) (a_ av.out (by kernel_rfl)) ?_;refine mj (nE av.out (by kernel_rfl)) ?_;try go_wp2
       go_meet
       case rel=>exact⟨_,(true),zR,H',⟨by have:=BK.out;first|omega|exact Nat.le_refl _⟩,zK bX,⟨zT HB⟩⟩
     ·rw[if_neg c10]at H
      have nY:=beq_eq_false_iff_ne.mpr c10;have Ay:=bne_iff_ne.mpr c10
      (first|rw[nY]|(simp only[dJ,dK];rw[nY])|skip)
      have H':=qa H;clear H;try go_wp2
      replace bX:=zD bX;replace HB:=zF HB;refine l_ (n:=24) (S:=fun w'=>w'.cell? ⟨rG,0,none⟩=some (.bool af)∧w'.cell? ⟨rG,1,none⟩=some (.string aa)∧w'.cell? ⟨rG,2,none⟩=some (.string aj)) (ds:=[]) (zb 24 0) (by kernel_rfl) rfl rfl ⟨zc bX 0,zc bX 1,zc bX 2⟩ (fun hHeld=>?_);refine nC fR.AK fR.Ax (fun av bH=>?_);generalize wc.drew=w27 at bX HB hHeld ⊢;refine zU (i:=0) (N:=some 14) (zb 24 1) (a_ av.out (by kernel_rfl)) ?_;refine zV (i:=1) (N:=some 15) (zb 24 3) (bV av.out bH.out (by kernel_rfl)) hHeld ?_;refine bN (i:=2) (N:=some 16) (zb 24 7) rfl rfl (bS av.out (by kernel_rfl)) (by decide) (fun K hK=>?_);refine zJ Tryz.func84 (by kernel_rfl) (xA.calls af aa t106 _ A9.out) fun Py hb=>?_;replace bX:=zB bX hb;replace HB:=zS HB hb
      (try clear hb)
      refine hK.out _ _ ⟨zc bX 0,zc bX 1,zc bX 2⟩ (fun hHeld=>?_);clear hK K;refine zW (some 16) ?_;refine zU (i:=3) (N:=some 17) (zb 24 15) (a_ av.out (by kernel_rfl)) ?_;refine zU (i:=4) (N:=some 18) (zb 24 31) (a_ av.out (by kernel_rfl)) ?_;refine ir (i:=5) (N:=some 19) (v:=undef) (a':=?_) (zb 24 63) rfl rfl (a_ av.out (by kernel_rfl)) (fun _ _ _ h=>h) (Or.inr ⟨by rfl,rfl⟩) ?_ ?_;rotate_left
      ·simp only[Act.put,List.setIfInBounds_toArray,List.set_cons_zero,List.set_cons_succ,dJ,dK]
       rfl
      refine ir (i:=6) (N:=some 20) (v:=undef) (a':=?_) (zb 24 127) rfl rfl (a_ av.out (by kernel_rfl)) (fun _ _ _ h=>h) (Or.inr ⟨by rfl,rfl⟩) ?_ ?_;rotate_left
      ·simp only[Act.put,List.setIfInBounds_toArray,List.set_cons_zero,List.set_cons_succ,dJ,dK]
       rfl
      refine ir (i:=7) (N:=some 21) (v:=undef) (a':=?_) (zb 24 255) rfl rfl (a_ av.out (by kernel_rfl)) (fun _ _ _ h=>h) (Or.inr ⟨by rfl,rfl⟩) ?_ ?_;rotate_left
      ·simp only[Act.put,List.setIfInBounds_toArray,List.set_cons_zero,List.set_cons_succ,dJ,dK]
       rfl
      refine ir (i:=8) (N:=some 22) (v:=undef) (a':=?_) (zb 24 511) rfl rfl (a_ av.out (by kernel_rfl)) (fun _ _ _ h=>h) (Or.inr ⟨by rfl,rfl⟩) ?_ ?_;rotate_left
      ·simp only[Act.put,List.setIfInBounds_toArray,List.set_cons_zero,List.set_cons_succ,dJ,dK]
       rfl
      refine zU (i:=9) (N:=some 23) (zb 24 1023) (a_ av.out (by kernel_rfl)) ?_;refine zU (i:=10) (N:=some 24) (zb 24 2047) (a_ av.out (by kernel_rfl)) ?_;refine ir (i:=11) (N:=some 25) (v:=undef) (a':=?_) (zb 24 4095) rfl rfl (a_ av.out (by kernel_rfl)) (fun _ _ _ h=>h) (Or.inr ⟨by rfl,rfl⟩) ?_ ?_;rotate_left
      ·simp only[Act.put,List.setIfInBounds_toArray,List.set_cons_zero,List.set_cons_succ,dJ,dK]
       rfl
      refine ir (i:=12) (N:=some 26) (v:=undef) (a':=?_) (zb 24 8191) rfl rfl (a_ av.out (by kernel_rfl)) (fun _ _ _ h=>h) (Or.inr ⟨by rfl,rfl⟩) ?_ ?_;rotate_left
      ·simp only[Act.put,List.setIfInBounds_toArray,List.set_cons_zero,List.set_cons_succ,dJ,dK]
       rfl
      refine ir (i:=13) (N:=some 27) (v:=undef) (a':=?_) (zb 24 16383) rfl rfl (a_ av.out (by kernel_rfl)) (fun _ _ _ h=>h) (Or.inr ⟨by rfl,rfl⟩) ?_ ?_;rotate_left
      ·simp only[Act.put,List.setIfInBounds_toArray,List.set_cons_zero,List.set_cons_succ,dJ,dK]
       rfl
      refine zU (i:=14) (N:=some 28) (zb 24 32767) (a_ av.out (by kernel_rfl)) ?_;refine zU (i:=15) (N:=some 29) (zb 24 65535) (a_ av.out (by kernel_rfl)) ?_;refine ir (i:=16) (N:=some 30) (v:=undef) (a':=?_) (zb 24 131071) rfl rfl (a_ av.out (by kernel_rfl)) (fun _ _ _ h=>h) (Or.inr ⟨by rfl,rfl⟩) ?_ ?_;rotate_left
      ·simp only[Act.put,List.setIfInBounds_toArray,List.set_cons_zero,List.set_cons_succ,dJ,dK]
       rfl
      refine ir (i:=17) (N:=some 31) (v:=undef) (a':=?_) (zb 24 262143) rfl rfl (a_ av.out (by kernel_rfl)) (fun _ _ _ h=>h) (Or.inr ⟨by rfl,rfl⟩) ?_ ?_;rotate_left
      ·simp only[Act.put,List.setIfInBounds_toArray,List.set_cons_zero,List.set_cons_succ,dJ,dK]
       rfl
      refine ir (i:=18) (N:=some 32) (v:=undef) (a':=?_) (zb 24 524287) rfl rfl (a_ av.out (by kernel_rfl)) (fun _ _ _ h=>h) (Or.inr ⟨by rfl,rfl⟩) ?_ ?_;rotate_left
      ·simp only[Act.put,List.setIfInBounds_toArray,List.set_cons_zero,List.set_cons_succ,dJ,dK]
       rfl
      refine ir (i:=19) (N:=some 33) (v:=undef) (a':=?_) (zb 24 1048575) rfl rfl (a_ av.out (by kernel_rfl)) (fun _ _ _ h=>h) (Or.inr ⟨by rfl,rfl⟩) ?_ ?_;rotate_left
      ·simp only[Act.put,List.setIfInBounds_toArray,List.set_cons_zero,List.set_cons_succ,dJ,dK]
       rfl
      refine ir (i:=20) (N:=some 34) (v:=undef) (a':=?_) (zb 24 2097151) rfl rfl (a_ av.out (by kernel_rfl)) (fun _ _ _ h=>h) (Or.inr ⟨by rfl,rfl⟩) ?_ ?_;rotate_left
      ·simp only[Act.put,List.setIfInBounds_toArray,List.set_cons_zero,List.set_cons_succ,dJ,dK]
       rfl
      refine ir (i:=21) (N:=some 35) (v:=undef) (a':=?_) (zb 24 4194303) rfl rfl (a_ av.out (by kernel_rfl)) (fun _ _ _ h=>h) (Or.inr ⟨by rfl,rfl⟩) ?_ ?_;rotate_left
      ·simp only[Act.put,List.setIfInBounds_toArray,List.set_cons_zero,List.set_cons_succ,dJ,dK]
       rfl
      refine ir (i:=22) (N:=some 36) (v:=undef) (a':=?_) (zb 24 8388607) rfl rfl (a_ av.out (by kernel_rfl)) (fun _ _ _ h=>h) (Or.inr ⟨by rfl,rfl⟩) ?_ ?_;rotate_left
      ·simp only[Act.put,List.setIfInBounds_toArray,List.set_cons_zero,List.set_cons_succ,dJ,dK]
       rfl
      refine zU (i:=23) (N:=some 37) (zb 24 16777215) (a_ av.out (by kernel_rfl)) ?_;refine mj (nE av.out (by kernel_rfl)) ?_;try go_wp2
      go_meet
      case rel=>exact⟨_,(true),zR,H',⟨by have:=BK.out;first|omega|exact Nat.le_refl _⟩,zK bX,⟨zT HB⟩⟩
    case rest =>
     clear cg;try clear c1;try clear p2;try clear c7;try clear c8;try clear c10;try clear nY;try clear Ay;try clear c12
     obtain⟨kq,NJ,rfl,HA,HJ7,bX,HB⟩:=hcut;cases kq with
     | zero=>exact absurd HA.out (by simp[fR.j1])
     | succ kj7 =>
      have H:=HA.out;clear HA;simp only[fR.j1]at H;by_cases Pz:NJ=true
      ·subst Pz
       rw[if_pos rfl]at H
       obtain rfl:=Option.some.inj H;go_wp2
       go_ret
       exact⟨zH,zT HB⟩
      ·replace Pz:=Bool.eq_false_iff.mpr Pz
       subst Pz;rw[if_neg zn]at H
       obtain rfl:=Option.some.inj H;go_wp2
       go_ret
       exact⟨zH,zT HB⟩
end Go.Proofs.aC.R
