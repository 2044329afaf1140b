import Derived.Test.YtfcjnhkkfmgmpaaGreatZtG34
set_option linter.all false
set_option maxRecDepth 100000
set_option maxHeartbeats 8000000
namespace Go.Proofs.aA.R
open Go.RowKit Go.Proofs.aA.Z Go.Proofs.aB.aZ Go.Proofs.aB.bT Go.Proofs.aB.bX
attribute [local go_sem] cm ct cz cA cj ck cu cw
mutual
def ez.l0:Nat->List (bg)->Int->Int->Option (Int)
 | 0,_,_,_=>none
 | k+1,x8,x9,nN=>if nN<x9 then (if 0<=nN then (if nN<(x8.length:Int) then ((some (([(⟨(⟨(aC x8 nN).f0.f0.f0,(aC x8 nN).f0.f0.f1⟩:aG),(aC x8 nN).f0.f1⟩:aF),(⟨(⟨(aC x8 nN).f1.f0.f0,(aC x8 nN).f1.f0.f1⟩:aG),(aC x8 nN).f1.f1⟩:aF)]:List (aF)):List (aF))).bind fun kD=>(ez.l1 k x8 x9 nN kD (kD.length:Int) 0 ((aC x8 nN).f0.f0.f0) ((aC x8 nN).f0.f0.f1) ((aC x8 nN).f0.f1) ((aC x8 nN).f1.f0.f0) ((aC x8 nN).f1.f0.f1) ((aC x8 nN).f1.f1))) else (none)) else (none)) else (some 0)
def ez.l1:Nat->List (bg)->Int->Int->List (aF)->Int->Int->Bool->ByteArray->ByteArray->Bool->ByteArray->ByteArray->Option (Int)
 | 0,_,_,_,_,_,_,_,_,_,_,_,_=>none
 | k+1,x8,x9,nN,Hf,N3,BX,La,Lb,Lc,Le,Lf,Lg=>if BX<N3 then (if 0<=BX then (if BX<(Hf.length:Int) then (if (((fE Hf BX).f0.f1).size:Int) > 100 then (ez.j2 k x8 x9 nN Hf N3 BX true La Lb Lc Le Lf Lg) else (ez.j2 k x8 x9 nN Hf N3 BX (decide ((((fE Hf BX).f1).size:Int) > 100)) La Lb Lc Le Lf Lg)) else (none)) else (none)) else ((uJ.f k La Lb Lc Le Lf Lg).bind fun JO=>(if JO=0 then (ez.l0 k x8 x9 (wrap64 (nN+1))) else (some JO)))
def ez.j2:Nat->List (bg)->Int->Int->List (aF)->Int->Int->Bool->Bool->ByteArray->ByteArray->Bool->ByteArray->ByteArray->Option (Int)
 | 0,_,_,_,_,_,_,_,_,_,_,_,_,_=>none
 | k+1,x8,x9,nN,Hf,N3,BX,x34,La,Lb,Lc,Le,Lf,Lg=>if x34=true then (some 5) else (ez.l1 k x8 x9 nN Hf N3 (wrap64 (BX+1)) La Lb Lc Le Lf Lg)
end
def ez.f (k:Nat) (l0:List (bg)):Option (Int):=ez.l0 k l0 (l0.length:Int) 0
theorem ez.calls (k:Nat) (A0:Option Addr) (c0:Nat) (l0:List (bg)) (r:Int) (w:World) (dm:Kd.C dX w A0 l0.length l0) (hc0:l0.length<=c0) (h:ez.f k l0=some r) :
  Calls Tryz.prog 56 #[.slice A0 l0.length c0] w fun e w'=>e = .returned (.int .i64 r)/\Below w.heap.size w w':=by
 have mq:=Tryz.underlying42;have ji:=Tryz.underlying40;have eN:=qa dm;have Ac:=qa hc0;clear dm hc0;have HB:=qa (Below.refl w.heap.size w);unfold ez.f at h;have H:=h;clear h;have H':=qa H;clear H;go_enter Tryz.func56,Tryz.ntmps56;go_wp2
 go_loopg [10] k (fun kq v10 w'=>∃ (bP:Int),v10 = .int .i64 bP/\aO (ez.l0 kq l0 (l0.length:Int) bP=some r)/\aO (kq<=k)/\aO (Below w.heap.size w w'))
 case atStart=>exact⟨(0),zR,H',⟨Nat.le_refl _⟩,⟨zT HB⟩⟩
 case round =>
  clear H';obtain⟨bP,rfl,HA,fL,HB⟩:=hrel;cases gk with
  | zero=>exact absurd HA.out (by simp[ez.l0])
  | succ k1 =>
   have H:=HA.out;clear HA;simp only[ez.l0]at H;by_cases c2:bP<(l0.length:Int)
   ·rw[if_pos c2]at H
    have ur:=decide_eq_true c2;clear c2;by_cases c3:0<=bP
    ·rw[if_pos c3]at H
     have vw:=decide_eq_true c3;clear c3;by_cases c4:bP<(l0.length:Int)
     ·rw[if_pos c4]at H
      have fW:=decide_eq_true c4;clear c4;obtain⟨kD,Md⟩:∃ y_:List (aF),y_=(([(⟨(⟨(aC l0 bP).f0.f0.f0,(aC l0 bP).f0.f0.f1⟩:aG),(aC l0 bP).f0.f1⟩:aF),(⟨(⟨(aC l0 bP).f1.f0.f0,(aC l0 bP).f1.f0.f1⟩:aG),(aC l0 bP).f1.f1⟩:aF)]:List (aF))):=⟨_,rfl⟩
      replace H:(ez.l1 k1 l0 (l0.length:Int) bP kD (kD.length:Int) 0 ((aC l0 bP).f0.f0.f0) ((aC l0 bP).f0.f0.f1) ((aC l0 bP).f0.f1) ((aC l0 bP).f1.f0.f0) ((aC l0 bP).f1.f0.f1) ((aC l0 bP).f1.f1))=some r:=by first|(rw[Md];with_reducible exact H)|(have jP:=(Option.bind_some _ _).symm.trans H;rw[Md];with_reducible exact jP)|(have jP:=(Option.bind_some _ _).symm.trans H;with_reducible exact jP)|with_reducible exact H|(rw[Md];exact H)|exact H
      have aeR:=qa Md;clear Md;have H':=qa H;clear H;have MA:0<=(bP:Int):=of_decide_eq_true (by first|(with_reducible assumption)|assumption);have MC:bP<(l0.length:Int):=of_decide_eq_true (by first|(with_reducible assumption)|assumption);obtain⟨az3,auf,Lh,Li,Lj,Lk,Ll,Lm⟩:=oB eN.out bP MA MC;cases auf;replace Lh:=(HB.out.cell (World.block_lt_of_cell? w _ Lh)).trans Lh;replace Li:=(HB.out.cell (World.block_lt_of_cell? w _ Li)).trans Li;replace Lj:=(HB.out.cell (World.block_lt_of_cell? w _ Lj)).trans Lj;replace Lk:=(HB.out.cell (World.block_lt_of_cell? w _ Lk)).trans Lk;replace Ll:=(HB.out.cell (World.block_lt_of_cell? w _ Ll)).trans Ll;replace Lm:=(HB.out.cell (World.block_lt_of_cell? w _ Lm)).trans Lm;replace MA:=eq_true MA;replace MC:=eq_true MC;go_wp2_with (first|((with_reducible refine aR (N:=4) rfl ?_);(try(refine Et (by rfl) ?_;dsimp only));refine zY 4 #[.bool false,.string ⟨#[]⟩,.string ⟨#[]⟩,.bool false,.string ⟨#[]⟩,.string ⟨#[]⟩] 42 ?_;intro WS hg w5 ah hb;have pU:=qa (ah);have az4:=zG hg HB;have az5:=zG hg HB;replace HB:=zS HB hb;clear hb ah hg;obtain⟨xu,xw,AJ,adw,adx,ady,xx,xy,AK,adz,adA,adB⟩:=z6 pU)|((with_reducible refine aR (N:=18) rfl ?_);(try(refine Et (by rfl) ?_;dsimp only));refine Kd.uf jc _ 40 ?hg (N:=18) ?hd (xs:=([(⟨(⟨(aC l0 bP).f0.f0.f0,(aC l0 bP).f0.f0.f1⟩:aG),(aC l0 bP).f0.f1⟩:aF),(⟨(⟨(aC l0 bP).f1.f0.f0,(aC l0 bP).f1.f0.f1⟩:aG),(aC l0 bP).f1.f1⟩:aF)]:List (aF))) (inner:=[.bool ((aC l0 bP).f0.f0.f0),.string ((aC l0 bP).f0.f0.f1),.string ((aC l0 bP).f0.f1),.bool ((aC l0 bP).f1.f0.f0),.string ((aC l0 bP).f1.f0.f1),.string ((aC l0 bP).f1.f1)]) (ok:=fun _=>True) (qE:=fun _=>True) ?hr ?hp (fun _ hk=>hk) trivial (Below.refl _ _) (Nat.le_refl _) (by simp) ?_;(case hd=>rfl);(case hg=>rfl);(case hr=>first|(go_simp;done)|(go_simp;rfl));(case hp=>exact(bz.c3 (show Kd.M jc _ _ _ (⟨(⟨(aC l0 bP).f0.f0.f0,(aC l0 bP).f0.f0.f1⟩:aG),(aC l0 bP).f0.f1⟩:aF) [.bool ((aC l0 bP).f0.f0.f0),.string ((aC l0 bP).f0.f0.f1),.string ((aC l0 bP).f0.f1)] from(ni _ _ _ (⟨(⟨(aC l0 bP).f0.f0.f0,(aC l0 bP).f0.f0.f1⟩:aG),(aC l0 bP).f0.f1⟩:aF) )) (bz.c3 (show Kd.M jc _ _ _ (⟨(⟨(aC l0 bP).f1.f0.f0,(aC l0 bP).f1.f0.f1⟩:aG),(aC l0 bP).f1.f1⟩:aF) [.bool ((aC l0 bP).f1.f0.f0),.string ((aC l0 bP).f1.f0.f1),.string ((aC l0 bP).f1.f1)] from(ni _ _ _ (⟨(⟨(aC l0 bP).f1.f0.f0,(aC l0 bP).f1.f0.f1⟩:aG),(aC l0 bP).f1.f1⟩:aF) )) (bz.none _ _))));intro aCc w7 N4 hb lp k5;clear lp k5;(first|rw[<- aeR.out]at N4|(simp only[Int.reduceToNat]at N4;rw[<- aeR.out]at N4));have aeS:=qa (Kd.sq N4 (rO (zT HB)));replace pU:=qa (eW (g:=WS) (o := .cells #[.bool ((aC l0 bP).f0.f0.f0),.string ((aC l0 bP).f0.f0.f1),.string ((aC l0 bP).f0.f1),.bool ((aC l0 bP).f1.f0.f0),.string ((aC l0 bP).f1.f0.f1),.string ((aC l0 bP).f1.f1)] 42 (0,0)) (Kx pU) hb);replace HB:=zS HB hb;clear hb N4;obtain⟨Ao9,co9,eo9⟩:=Kd.tT aeS.out;subst eo9))
      go_loopg [20] k1 (fun kq v20 w'=>∃ (mm:Int),v20 = .int .i64 mm/\aO (ez.l1 kq l0 (l0.length:Int) bP kD (kD.length:Int) mm ((aC l0 bP).f0.f0.f0) ((aC l0 bP).f0.f0.f1) ((aC l0 bP).f0.f1) ((aC l0 bP).f1.f0.f0) ((aC l0 bP).f1.f0.f1) ((aC l0 bP).f1.f1)=some r)/\aO (kq<=k1)/\aO (Kd.R jc 40 w' w.heap.size (fun _=>True) (.slice Ao9 kD.length co9) kD)/\aO (w'.heap[WS]?=some (.cells #[.bool ((aC l0 bP).f0.f0.f0),.string ((aC l0 bP).f0.f0.f1),.string ((aC l0 bP).f0.f1),.bool ((aC l0 bP).f1.f0.f0),.string ((aC l0 bP).f1.f0.f1),.string ((aC l0 bP).f1.f1)] 42 (0,0)))/\aO (Below w.heap.size w w'))
      case atStart=>exact⟨(0),zR,H',⟨Nat.le_refl _⟩,⟨by (with_reducible repeat(first|apply Kd.jJ|apply Kd.jK|apply Kd.jf));exact aeS.out⟩,zK pU,⟨zT HB⟩⟩
      case round =>
       clear H';try clear c2;try clear ur;try clear p2;try clear q2;try clear hx2;try clear c3;try clear vw;try clear c4;try clear fW;try clear c5;try clear xu;try clear xw;try clear AJ;try clear adw;try clear adx;try clear ady;try clear xx;try clear xy;try clear AK;try clear adz;try clear adA;try clear adB;try clear Lh;try clear Li;try clear Lj;try clear Lk;try clear Ll;try clear Lm;try clear MA;try clear MC
       obtain⟨mm,rfl,HA,Km,xC,pU,HB⟩:=hrel;cases gk with
       | zero=>exact absurd HA.out (by simp[ez.l1])
       | succ k2 =>
        have H:=HA.out;clear HA;simp only[ez.l1]at H;by_cases c10:mm<(kD.length:Int)
        ·rw[if_pos c10]at H
         have oX:=decide_eq_true c10;clear c10;by_cases c11:0<=mm
         ·rw[if_pos c11]at H
          have aqU:=decide_eq_true c11;clear c11;by_cases c12:mm<(kD.length:Int)
          ·rw[if_pos c12]at H
           have aeH:=decide_eq_true c12;clear c12;have Ya:=qa H;clear H;have RO:0<=(mm:Int):=of_decide_eq_true (by first|(with_reducible assumption)|assumption);have RQ:mm<(kD.length:Int):=of_decide_eq_true (by first|(with_reducible assumption)|assumption);obtain⟨aqV,aug,amm,amn,amo⟩:=V6 (Kd.kX xC.out).2.2 mm RO RQ;cases aug;replace RO:=eq_true RO;replace RQ:=eq_true RQ;go_upto_region 7 with (first|((with_reducible refine aR (N:=6) rfl ?_);(try(refine Et (by rfl) ?_;dsimp only));refine zY 6 #[.bool false,.string ⟨#[]⟩,.string ⟨#[]⟩] 40 ?_;intro xD hg iq ah hb;have Je:=qa (ah);have az6:=zG hg HB;have az7:=zG hg HB;obtain⟨Ty,Tz⟩:=zQ hg pU;replace xC:=qa (Kd.jY (Kd.akB (by (with_reducible repeat(first|apply Kd.jJ|apply Kd.jK|apply Kd.jf));exact xC.out) xD (Nat.le_of_eq hg.symm)) hb);replace pU:=zB pU hb;replace HB:=zS HB hb;clear hb ah hg;have FF:=Tz.out;have FH:=Ty.out;obtain⟨EJ,EK,K2,EL,EM,K3⟩:=z3 Je))
           (try simp only[Act.put,List.setIfInBounds_toArray,List.set_cons_zero,List.set_cons_succ])
           go_cut [34] (fun v34 wc=>∃ (kq:Nat) (Qp:Bool),v34 = .bool Qp/\aO (ez.j2 kq l0 (l0.length:Int) bP kD (kD.length:Int) mm Qp ((aC l0 bP).f0.f0.f0) ((aC l0 bP).f0.f0.f1) ((aC l0 bP).f0.f1) ((aC l0 bP).f1.f0.f0) ((aC l0 bP).f1.f0.f1) ((aC l0 bP).f1.f1)=some r)/\aO (kq<=k2)/\aO (Kd.R jc 40 wc w.heap.size (fun k_=>k_≠xD) (.slice (some aqV) kD.length co9) kD)/\aO (wc.heap[WS]?=some (.cells #[.bool ((aC l0 bP).f0.f0.f0),.string ((aC l0 bP).f0.f0.f1),.string ((aC l0 bP).f0.f1),.bool ((aC l0 bP).f1.f0.f0),.string ((aC l0 bP).f1.f0.f1),.string ((aC l0 bP).f1.f1)] 42 (0,0)))/\aO (wc.heap[xD]?=some (.cells #[.bool ((fE kD mm).f0.f0),.string ((fE kD mm).f0.f1),.string ((fE kD mm).f1)] 40 (0,0)))/\aO (Below w.heap.size w wc))
           case first =>
            have H:=Ya.out;clear Ya;by_cases c17:(((fE kD mm).f0.f1).size:Int) > 100
            ·rw[if_pos c17]at H
             have Jf:=decide_eq_true c17;have aeT:decide (100<((fE kD mm).f0.f1).size)=true:=decide_eq_true qo;clear c17
             (first|rw[Jf]|(simp only[dL,dM];rw[Jf])|skip)
             have H':=qa H;clear H;have LZ:=Tz.out;have L4:=Ty.out;obtain⟨xk,xm,AF,xp,xq,AG⟩:=z3 Je;go_wp2
             go_meet
             case rel=>exact⟨_,(true),zR,H',⟨by have:=fL.out;have:=Km.out;first|omega|exact Nat.le_refl _⟩,⟨by (with_reducible repeat(first|apply Kd.jJ|apply Kd.jK|apply Kd.jf));exact Kd.AI (Kd.I2 (p:=⟨xD,2,none⟩) (Kd.I2 (p:=⟨xD,1,none⟩) (Kd.I2 (p:=⟨xD,0,none⟩) (Kd.AI xC.out (fun k_ hk=>(⟨hk,hk.2⟩:_/\k_≠xD))) (fun _ hk=>hk.2) (.bool ((fE kD mm).f0.f0))) (fun _ hk=>hk.2) (.string ((fE kD mm).f0.f1))) (fun _ hk=>hk.2) (.string ((fE kD mm).f1))) (fun _ hk=>hk.1.2)⟩,zK pU,⟨Kx Je⟩,⟨zT HB⟩⟩
            ·rw[if_neg c17]at H
             have Jf:=decide_eq_false c17;have aeT:decide (100<((fE kD mm).f0.f1).size)=false:=decide_eq_false qo;clear c17
             (first|rw[Jf]|(simp only[dL,dM];rw[Jf])|skip)
             have H':=qa H;clear H;have Q3:=Tz.out;have Q4:=Ty.out;obtain⟨II,IJ,Pa,IK,IL,Pb⟩:=z3 Je;go_wp2
             go_meet
             case rel=>exact⟨_,(decide ((((fE kD mm).f1).size:Int) > 100)),zR,H',⟨by have:=fL.out;have:=Km.out;first|omega|exact Nat.le_refl _⟩,⟨by (with_reducible repeat(first|apply Kd.jJ|apply Kd.jK|apply Kd.jf));exact Kd.AI (Kd.I2 (p:=⟨xD,2,none⟩) (Kd.I2 (p:=⟨xD,1,none⟩) (Kd.I2 (p:=⟨xD,0,none⟩) (Kd.AI xC.out (fun k_ hk=>(⟨hk,hk.2⟩:_/\k_≠xD))) (fun _ hk=>hk.2) (.bool ((fE kD mm).f0.f0))) (fun _ hk=>hk.2) (.string ((fE kD mm).f0.f1))) (fun _ hk=>hk.2) (.string ((fE kD mm).f1))) (fun _ hk=>hk.1.2)⟩,zK pU,⟨Kx Je⟩,⟨zT HB⟩⟩
           case rest =>
            clear Ya;try clear c1;try clear c2;try clear ur;try clear p2;try clear q2;try clear hx2;try clear c3;try clear vw;try clear c4;try clear fW;try clear c5;try clear c10;try clear oX;try clear c11;try clear aqU;try clear c12;try clear aeH;try clear c15;try clear c17;try clear Jf;try clear aeT;try clear c18;try clear c20;try clear EJ;try clear EK;try clear K2;try clear xk;try clear xm;try clear AF;try clear II;try clear IJ;try clear Pa;try clear xu;try clear xw;try clear AJ;try clear adw;try clear adx;try clear ady;try clear EL;try clear EM;try clear K3;try clear xp;try clear xq;try clear AG;try clear IK;try clear IL;try clear Pb;try clear xx;try clear xy;try clear AK;try clear adz;try clear adA;try clear adB;try clear Lh;try clear Li;try clear Lj;try clear Lk;try clear Ll;try clear Lm;try clear amm;try clear amn;try clear amo;try clear p2;try clear MA;try clear RO;try clear q2;try clear MC;try clear RQ
            obtain⟨kq,Qp,rfl,HA,agP,xC,pU,Je,HB⟩:=hcut;cases kq with
            | zero=>exact absurd HA.out (by simp[ez.j2])
            | succ auh =>
             have H:=HA.out;clear HA;simp only[ez.j2]at H;by_cases N5:Qp=true
             ·subst N5
              rw[if_pos rfl]at H
              obtain rfl:=Option.some.inj H;go_wp2
              go_ret
              exact⟨zH,zT HB⟩
             ·replace N5:=Bool.eq_false_iff.mpr N5
              subst N5;rw[if_neg zn]at H
              have H':=qa H;clear H;go_wp2
              go_roundg auh
              case measure=>have:=fL.out;have:=Km.out;have:=agP.out;omega
              case rel=>exact⟨(wrap64 (mm+1)),zR,H',⟨by have:=fL.out;have:=Km.out;have:=agP.out;omega⟩,⟨by (with_reducible repeat(first|apply Kd.jJ|apply Kd.jK|apply Kd.jf));exact Kd.AI xC.out (fun _ hk=>trivial)⟩,zK pU,⟨zT HB⟩⟩
          ·rw[if_neg c12]at H
           exact absurd H (by simp)
         ·rw[if_neg c11]at H
          exact absurd H (by simp)
        ·rw[if_neg c10]at H
         have oX:=decide_eq_false c10;clear c10;obtain⟨JO,A23,H⟩:=zo H;by_cases wS:JO=0
         ·rw[if_pos wS]at H
          have aqW:=beq_iff_eq.mpr wS;have aqX:=bne_eq_false_iff_eq.mpr wS;clear wS;have H':=qa H;clear H;obtain⟨ab0,ab1,ab2,aww,awx,awy,ab3,ab4,ab5,awz,awA,awB⟩:=z6 pU;go_wp2_with (first|((with_reducible refine cU (f:=66) rfl ?_);refine zO Tryz.func66 qk (uJ.calls k2 ((aC l0 bP).f0.f0.f0) ((aC l0 bP).f0.f0.f1) ((aC l0 bP).f0.f1) ((aC l0 bP).f1.f0.f0) ((aC l0 bP).f1.f0.f1) ((aC l0 bP).f1.f1) JO _ A23.out) fun SC hb=>?_;replace xC:=qa (Kd.jY (by (with_reducible repeat(first|apply Kd.jJ|apply Kd.jK|apply Kd.jf));exact xC.out) hb);replace pU:=zB pU hb;replace HB:=zS HB hb;(try clear hb)))
          go_roundg k2
          case measure=>have:=fL.out;have:=Km.out;omega
          case rel=>exact⟨(wrap64 (bP+1)),zR,H',⟨by have:=fL.out;have:=Km.out;omega⟩,⟨zT HB⟩⟩
         ·rw[if_neg wS]at H
          have aqW:=beq_eq_false_iff_ne.mpr wS;have aqX:=bne_iff_ne.mpr wS;obtain rfl:=Option.some.inj H;obtain⟨amp,amq,amr,ams,amt,amu,amv,amw,amx,amy,amz,amA⟩:=z6 pU;go_wp2_with (first|((with_reducible refine cU (f:=66) rfl ?_);refine zO Tryz.func66 qk (uJ.calls k2 ((aC l0 bP).f0.f0.f0) ((aC l0 bP).f0.f0.f1) ((aC l0 bP).f0.f1) ((aC l0 bP).f1.f0.f0) ((aC l0 bP).f1.f0.f1) ((aC l0 bP).f1.f1) JO _ A23.out) fun Zz hb=>?_;replace xC:=qa (Kd.jY (by (with_reducible repeat(first|apply Kd.jJ|apply Kd.jK|apply Kd.jf));exact xC.out) hb);replace pU:=zB pU hb;replace HB:=zS HB hb;(try clear hb)))
          go_ret
          exact⟨zH,zT HB⟩
     ·rw[if_neg c4]at H
      exact absurd H (by simp)
    ·rw[if_neg c3]at H
     exact absurd H (by simp)
   ·rw[if_neg c2]at H
    have ur:=decide_eq_false c2;clear c2;obtain rfl:=Option.some.inj H;go_wp2
    go_ret
    exact⟨zH,zT HB⟩
end Go.Proofs.aA.R
namespace Go.Proofs.aA.R
open Go.RowKit Go.Proofs.aA.Z Go.Proofs.aB.aZ Go.Proofs.aB.bT Go.Proofs.aB.bX
theorem apz (a0:Bool) (a1 a2:ByteArray) (b0:Bool) (b1 b2:ByteArray) (r1:Bool) (r2 r3:ByteArray) (x:Int)
  (H:aO (∀ w,Calls Tryz.prog 98 #[.agg #[.bool a0,.string a1,.string a2],.agg #[.bool b0,.string b1,.string b2]] w fun e w'=>e = .returned (.tuple #[.agg #[.bool r1,.string r2,.string r3],.int .i64 x])/\Below w.heap.size w w')) (w:World) :
  Calls Tryz.prog 110 #[.func (.func 98) #[] #[],.agg #[.bool a0,.string a1,.string a2],.agg #[.bool b0,.string b1,.string b2]] w fun e w'=>e = .returned (.agg #[.bool r1,.string r2,.string r3])/\Below w.heap.size w w':=by
 have hu:=Tryz.underlying40;have HB:=qa (Below.refl w.heap.size w);go_enter Tryz.func110,Tryz.ntmps110;go_wp2_with (first|((with_reducible refine aR (N:=4) rfl ?_);refine zY 4 #[.bool a0,.string a1,.string a2] 40 ?_;intro p hg w4 ah hb;have iM:=qa (ah);have GWp:=zG hg HB;replace HB:=zS HB hb;clear hb ah hg)|((with_reducible refine aR (N:=5) rfl ?_);refine zY 5 #[.bool b0,.string b1,.string b2] 40 ?_;intro q hg w5 ah hb;have kJ:=qa (ah);have GWq:=zG hg HB;obtain⟨MD,ME⟩:=zQ hg iM;replace iM:=zB iM hb;replace HB:=zS HB hb;clear hb ah hg)|((with_reducible refine aR (N:=6) rfl ?_);refine zY 6 #[.bool false,.string ⟨#[]⟩,.string ⟨#[]⟩] 40 ?_;intro s hg w6 ah hb;have mV:=qa (ah);have GWs:=zG hg HB;obtain⟨MF,MG⟩:=zQ hg iM;obtain⟨MH,MI⟩:=zQ hg kJ;obtain⟨iM,kJ⟩:=eo iM kJ hb;replace HB:=zS HB hb;clear hb ah hg;have mpq:=MD.out;have mqp:=ME.out;have mps:=MF.out;have msp:=MG.out;obtain⟨aeU,aeV,aeW,aeX,aeY,aeZ⟩:=z3 iM;have mqs:=MH.out;have msq:=MI.out;obtain⟨ae0,ae1,ae2,ae3,ae4,ae5⟩:=z3 kJ))
 refine(H.out _).mono ?_;rintro e gh ⟨rfl,hb⟩;obtain⟨iM,kJ,mV⟩:=bB iM kJ mV hb;replace HB:=zS HB hb;clear hb;go_wp2_with (first|((with_reducible refine aR (N:=7) rfl ?_);refine zY 7 #[.bool false,.string ⟨#[]⟩,.string ⟨#[]⟩] 40 ?_;intro d hg w7 ah hb;have Eh:=qa (ah);have GWd:=zG hg HB;obtain⟨MJ,MK⟩:=zQ hg iM;obtain⟨ML,MM⟩:=zQ hg kJ;obtain⟨ux,MN⟩:=zQ hg mV;obtain⟨iM,kJ,mV⟩:=bB iM kJ mV hb;replace HB:=zS HB hb;clear hb ah hg;have mdp:=MK.out;have mpd:=MJ.out;have mdq:=MM.out;have mqd:=ML.out;have mds:=MN.out;have msd:=ux.out;obtain⟨ae6,ae7,ae8,ae9,ae_,ae'⟩:=z3 Eh;obtain⟨afa,afb,afc,afd,afe,aff⟩:=z3 mV))
 refine bodyPost_ret (results_cell_row rfl _ _ s 40 #[.bool r1,.string r2,.string r3] (0,0) _ rfl (by (with_reducible repeat(first|refine eV ?_ _|refine eB ?_|refine dK ?_ _));refine zP (cs:=#[.bool r1,.string r2,.string ⟨#[]⟩]) ?_ 2 _;(with_reducible repeat(first|refine eV ?_ _|refine eB ?_|refine dK ?_ _));refine zP (cs:=#[.bool r1,.string ⟨#[]⟩,.string ⟨#[]⟩]) ?_ 1 _;(with_reducible repeat(first|refine eV ?_ _|refine eB ?_|refine dK ?_ _));refine zP (cs:=#[.bool false,.string ⟨#[]⟩,.string ⟨#[]⟩]) ?_ 0 _;(with_reducible repeat(first|refine eV ?_ _|refine eB ?_|refine dK ?_ _));refine dQ ?_ ux.out _;(with_reducible repeat(first|refine eV ?_ _|refine eB ?_|refine dK ?_ _));refine dQ ?_ ux.out _;(with_reducible repeat(first|refine eV ?_ _|refine eB ?_|refine dK ?_ _));refine dQ ?_ ux.out _;(with_reducible repeat(first|refine eV ?_ _|refine eB ?_|refine dK ?_ _));exact mV.out) Tryz.underlying40 rfl qk) rfl ?_;exact⟨zH,zT HB⟩
theorem apA (a0:Bool) (a1 a2:ByteArray) (b0:Bool) (b1 b2:ByteArray) (r1:Bool) (r2 r3:ByteArray) (x:Int)
  (H:aO (∀ w,Calls Tryz.prog 100 #[.agg #[.bool a0,.string a1,.string a2],.agg #[.bool b0,.string b1,.string b2]] w fun e w'=>e = .returned (.tuple #[.agg #[.bool r1,.string r2,.string r3],.int .i64 x])/\Below w.heap.size w w')) (w:World) :
  Calls Tryz.prog 110 #[.func (.func 100) #[] #[],.agg #[.bool a0,.string a1,.string a2],.agg #[.bool b0,.string b1,.string b2]] w fun e w'=>e = .returned (.agg #[.bool r1,.string r2,.string r3])/\Below w.heap.size w w':=by
 have hu:=Tryz.underlying40;have HB:=qa (Below.refl w.heap.size w);go_enter Tryz.func110,Tryz.ntmps110;go_wp2_with (first|((with_reducible refine aR (N:=4) rfl ?_);refine zY 4 #[.bool a0,.string a1,.string a2] 40 ?_;intro p hg w4 ah hb;have iM:=qa (ah);have GWp:=zG hg HB;replace HB:=zS HB hb;clear hb ah hg)|((with_reducible refine aR (N:=5) rfl ?_);refine zY 5 #[.bool b0,.string b1,.string b2] 40 ?_;intro q hg w5 ah hb;have kJ:=qa (ah);have GWq:=zG hg HB;obtain⟨MD,ME⟩:=zQ hg iM;replace iM:=zB iM hb;replace HB:=zS HB hb;clear hb ah hg)|((with_reducible refine aR (N:=6) rfl ?_);refine zY 6 #[.bool false,.string ⟨#[]⟩,.string ⟨#[]⟩] 40 ?_;intro s hg w6 ah hb;have mV:=qa (ah);have GWs:=zG hg HB;obtain⟨MF,MG⟩:=zQ hg iM;obtain⟨MH,MI⟩:=zQ hg kJ;obtain⟨iM,kJ⟩:=eo iM kJ hb;replace HB:=zS HB hb;clear hb ah hg;have mpq:=MD.out;have mqp:=ME.out;have mps:=MF.out;have msp:=MG.out;obtain⟨aeU,aeV,aeW,aeX,aeY,aeZ⟩:=z3 iM;have mqs:=MH.out;have msq:=MI.out;obtain⟨ae0,ae1,ae2,ae3,ae4,ae5⟩:=z3 kJ))
 refine(H.out _).mono ?_;rintro e gh ⟨rfl,hb⟩;obtain⟨iM,kJ,mV⟩:=bB iM kJ mV hb;replace HB:=zS HB hb;clear hb;go_wp2_with (first|((with_reducible refine aR (N:=7) rfl ?_);refine zY 7 #[.bool false,.string ⟨#[]⟩,.string ⟨#[]⟩] 40 ?_;intro d hg w7 ah hb;have Eh:=qa (ah);have GWd:=zG hg HB;obtain⟨MJ,MK⟩:=zQ hg iM;obtain⟨ML,MM⟩:=zQ hg kJ;obtain⟨ux,MN⟩:=zQ hg mV;obtain⟨iM,kJ,mV⟩:=bB iM kJ mV hb;replace HB:=zS HB hb;clear hb ah hg;have mdp:=MK.out;have mpd:=MJ.out;have mdq:=MM.out;have mqd:=ML.out;have mds:=MN.out;have msd:=ux.out;obtain⟨ae6,ae7,ae8,ae9,ae_,ae'⟩:=z3 Eh;obtain⟨afa,afb,afc,afd,afe,aff⟩:=z3 mV))
 refine bodyPost_ret (results_cell_row rfl _ _ s 40 #[.bool r1,.string r2,.string r3] (0,0) _ rfl (by (with_reducible repeat(first|refine eV ?_ _|refine eB ?_|refine dK ?_ _));refine zP (cs:=#[.bool r1,.string r2,.string ⟨#[]⟩]) ?_ 2 _;(with_reducible repeat(first|refine eV ?_ _|refine eB ?_|refine dK ?_ _));refine zP (cs:=#[.bool r1,.string ⟨#[]⟩,.string ⟨#[]⟩]) ?_ 1 _;(with_reducible repeat(first|refine eV ?_ _|refine eB ?_|refine dK ?_ _));refine zP (cs:=#[.bool false,.string ⟨#[]⟩,.string ⟨#[]⟩]) ?_ 0 _;(with_reducible repeat(first|refine eV ?_ _|refine eB ?_|refine dK ?_ _));refine dQ ?_ ux.out _;(with_reducible repeat(first|refine eV ?_ _|refine eB ?_|refine dK ?_ _));refine dQ ?_ ux.out _;(with_reducible repeat(first|refine eV ?_ _|refine eB ?_|refine dK ?_ _));refine dQ ?_ ux.out _;(with_reducible repeat(first|refine eV ?_ _|refine eB ?_|refine dK ?_ _));exact mV.out) Tryz.underlying40 rfl qk) rfl ?_;exact⟨zH,zT HB⟩
theorem apB (a0:Bool) (a1 a2:ByteArray) (b0:Bool) (b1 b2:ByteArray) (r1:Bool) (r2 r3:ByteArray) (x:Int)
  (H:aO (∀ w,Calls Tryz.prog 111 #[.agg #[.bool a0,.string a1,.string a2],.agg #[.bool b0,.string b1,.string b2]] w fun e w'=>e = .returned (.tuple #[.agg #[.bool r1,.string r2,.string r3],.int .i64 x])/\Below w.heap.size w w')) (w:World) :
  Calls Tryz.prog 110 #[.func (.func 111) #[] #[],.agg #[.bool a0,.string a1,.string a2],.agg #[.bool b0,.string b1,.string b2]] w fun e w'=>e = .returned (.agg #[.bool r1,.string r2,.string r3])/\Below w.heap.size w w':=by
 have hu:=Tryz.underlying40;have HB:=qa (Below.refl w.heap.size w);go_enter Tryz.func110,Tryz.ntmps110;go_wp2_with (first|((with_reducible refine aR (N:=4) rfl ?_);refine zY 4 #[.bool a0,.string a1,.string a2] 40 ?_;intro p hg w4 ah hb;have iM:=qa (ah);have GWp:=zG hg HB;replace HB:=zS HB hb;clear hb ah hg)|((with_reducible refine aR (N:=5) rfl ?_);refine zY 5 #[.bool b0,.string b1,.string b2] 40 ?_;intro q hg w5 ah hb;have kJ:=qa (ah);have GWq:=zG hg HB;obtain⟨MD,ME⟩:=zQ hg iM;replace iM:=zB iM hb;replace HB:=zS HB hb;clear hb ah hg)|((with_reducible refine aR (N:=6) rfl ?_);refine zY 6 #[.bool false,.string ⟨#[]⟩,.string ⟨#[]⟩] 40 ?_;intro s hg w6 ah hb;have mV:=qa (ah);have GWs:=zG hg HB;obtain⟨MF,MG⟩:=zQ hg iM;obtain⟨MH,MI⟩:=zQ hg kJ;obtain⟨iM,kJ⟩:=eo iM kJ hb;replace HB:=zS HB hb;clear hb ah hg;have mpq:=MD.out;have mqp:=ME.out;have mps:=MF.out;have msp:=MG.out;obtain⟨aeU,aeV,aeW,aeX,aeY,aeZ⟩:=z3 iM;have mqs:=MH.out;have msq:=MI.out;obtain⟨ae0,ae1,ae2,ae3,ae4,ae5⟩:=z3 kJ))
 refine(H.out _).mono ?_;rintro e gh ⟨rfl,hb⟩;obtain⟨iM,kJ,mV⟩:=bB iM kJ mV hb;replace HB:=zS HB hb;clear hb;go_wp2_with (first|((with_reducible refine aR (N:=7) rfl ?_);refine zY 7 #[.bool false,.string ⟨#[]⟩,.string ⟨#[]⟩] 40 ?_;intro d hg w7 ah hb;have Eh:=qa (ah);have GWd:=zG hg HB;obtain⟨MJ,MK⟩:=zQ hg iM;obtain⟨ML,MM⟩:=zQ hg kJ;obtain⟨ux,MN⟩:=zQ hg mV;obtain⟨iM,kJ,mV⟩:=bB iM kJ mV hb;replace HB:=zS HB hb;clear hb ah hg;have mdp:=MK.out;have mpd:=MJ.out;have mdq:=MM.out;have mqd:=ML.out;have mds:=MN.out;have msd:=ux.out;obtain⟨ae6,ae7,ae8,ae9,ae_,ae'⟩:=z3 Eh;obtain⟨afa,afb,afc,afd,afe,aff⟩:=z3 mV))
 refine bodyPost_ret (results_cell_row rfl _ _ s 40 #[.bool r1,.string r2,.string r3] (0,0) _ rfl (by (with_reducible repeat(first|refine eV ?_ _|refine eB ?_|refine dK ?_ _));refine zP (cs:=#[.bool r1,.string r2,.string ⟨#[]⟩]) ?_ 2 _;(with_reducible repeat(first|refine eV ?_ _|refine eB ?_|refine dK ?_ _));refine zP (cs:=#[.bool r1,.string ⟨#[]⟩,.string ⟨#[]⟩]) ?_ 1 _;(with_reducible repeat(first|refine eV ?_ _|refine eB ?_|refine dK ?_ _));refine zP (cs:=#[.bool false,.string ⟨#[]⟩,.string ⟨#[]⟩]) ?_ 0 _;(with_reducible repeat(first|refine eV ?_ _|refine eB ?_|refine dK ?_ _));refine dQ ?_ ux.out _;(with_reducible repeat(first|refine eV ?_ _|refine eB ?_|refine dK ?_ _));refine dQ ?_ ux.out _;(with_reducible repeat(first|refine eV ?_ _|refine eB ?_|refine dK ?_ _));refine dQ ?_ ux.out _;(with_reducible repeat(first|refine eV ?_ _|refine eB ?_|refine dK ?_ _));exact mV.out) Tryz.underlying40 rfl qk) rfl ?_;exact⟨zH,zT HB⟩
def Ku.f (k:Nat) (af:Bool) (aa aj:ByteArray) (aq:Bool) (ak au:ByteArray):Option (Bool × ByteArray × ByteArray × Int):=iR.f Ck.f k af aa aj aq ak au
theorem Ku.calls (k:Nat) (af:Bool) (aa aj:ByteArray) (aq:Bool) (ak au:ByteArray) (r1:Bool) (r2 r3:ByteArray) (r4:Int) (w:World) (h:Ku.f k af aa aj aq ak au=some (r1,r2,r3,r4)) :
  Calls Tryz.prog 112 #[.agg #[.bool af,.string aa,.string aj],.agg #[.bool aq,.string ak,.string au],.func (.func 113) #[] #[]] w fun e w'=>e = .returned (.tuple #[.agg #[.bool r1,.string r2,.string r3],.int .i64 r4])/\Below w.heap.size w w' :=
 iR.calls 113 _ ⟨fun n s m t r1 r2 w h=>Ck.calls n s m t r1 r2 w h⟩ k _ _ _ _ _ _ _ _ _ _ w h
def Kv.f (k:Nat) (af:Bool) (aa aj:ByteArray) (aq:Bool) (ak au:ByteArray):Option (Bool × ByteArray × ByteArray × Int):=iR.f Cl.f k af aa aj aq ak au
theorem Kv.calls (k:Nat) (af:Bool) (aa aj:ByteArray) (aq:Bool) (ak au:ByteArray) (r1:Bool) (r2 r3:ByteArray) (r4:Int) (w:World) (h:Kv.f k af aa aj aq ak au=some (r1,r2,r3,r4)) :
  Calls Tryz.prog 112 #[.agg #[.bool af,.string aa,.string aj],.agg #[.bool aq,.string ak,.string au],.func (.func 114) #[] #[]] w fun e w'=>e = .returned (.tuple #[.agg #[.bool r1,.string r2,.string r3],.int .i64 r4])/\Below w.heap.size w w' :=
 iR.calls 114 _ ⟨fun n s m t r1 r2 w h=>Cl.calls n s m t r1 r2 w h⟩ k _ _ _ _ _ _ _ _ _ _ w h
end Go.Proofs.aA.R
