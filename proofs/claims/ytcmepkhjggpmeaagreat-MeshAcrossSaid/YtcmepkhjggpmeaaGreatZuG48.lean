import Derived.Test.YtcmepkhjggpmeaaGreatZuG38
import Derived.StillTail
import Derived.Deep.Quiet
set_option linter.all false
set_option maxRecDepth 100000
set_option maxHeartbeats 8000000
namespace Go.Proofs.aF.R
open Go.RowKit Go.Proofs.aF.Z Go.Proofs.aD.aY Go.Proofs.aD.bO Go.Proofs.aD.bT
attribute [local go_sem] ct cu cA cC ck cm cw cz
mutual
def ia.l0:Nat->List (aZ)->Int->Int->Option (Int)
 | 0,_,_,_=>none
 | k+1,x8,x9,mH=>if mH<x9 then (if 0<=mH then (if mH<(x8.length:Int) then ((some (([(⟨(⟨(aB x8 mH).f0.f0.f0,(aB x8 mH).f0.f0.f1⟩:aI),(aB x8 mH).f0.f1⟩:aH),(⟨(⟨(aB x8 mH).f1.f0.f0,(aB x8 mH).f1.f0.f1⟩:aI),(aB x8 mH).f1.f1⟩:aH)]:List (aH)):List (aH))).bind fun jJ=>(ia.l1 k x8 x9 mH jJ (jJ.length:Int) 0 ((aB x8 mH).f0.f0.f0) ((aB x8 mH).f0.f0.f1) ((aB x8 mH).f0.f1) ((aB x8 mH).f1.f0.f0) ((aB x8 mH).f1.f0.f1) ((aB x8 mH).f1.f1))) else (none)) else (none)) else (some 0)
def ia.l1:Nat->List (aZ)->Int->Int->List (aH)->Int->Int->Bool->ByteArray->ByteArray->Bool->ByteArray->ByteArray->Option (Int)
 | 0,_,_,_,_,_,_,_,_,_,_,_,_=>none
 | k+1,x8,x9,mH,Fe,LC,AF,Jh,Ji,Jj,Jk,Jl,Jm=>if AF<LC then (if 0<=AF then (if AF<(Fe.length:Int) then (if (((fP Fe AF).f0.f1).size:Int) > 100 then (ia.j2 k x8 x9 mH Fe LC AF true Jh Ji Jj Jk Jl Jm) else (ia.j2 k x8 x9 mH Fe LC AF (decide ((((fP Fe AF).f1).size:Int) > 100)) Jh Ji Jj Jk Jl Jm)) else (none)) else (none)) else ((vG.f k Jh Ji Jj Jk Jl Jm).bind fun Hl=>(if Hl=0 then (ia.l0 k x8 x9 (wrap64 (mH+1))) else (some Hl)))
def ia.j2:Nat->List (aZ)->Int->Int->List (aH)->Int->Int->Bool->Bool->ByteArray->ByteArray->Bool->ByteArray->ByteArray->Option (Int)
 | 0,_,_,_,_,_,_,_,_,_,_,_,_,_=>none
 | k+1,x8,x9,mH,Fe,LC,AF,x34,Jh,Ji,Jj,Jk,Jl,Jm=>if x34=true then (some 5) else (ia.l1 k x8 x9 mH Fe LC (wrap64 (AF+1)) Jh Ji Jj Jk Jl Jm)
end
def ia.f (k:Nat) (l0:List (aZ)):Option (Int):=ia.l0 k l0 (l0.length:Int) 0
theorem ia.calls (k:Nat) (A0:Option Addr) (c0:Nat) (l0:List (aZ)) (r:Int) (w:World) (fZ:Kd.C eA w A0 l0.length l0) (hc0:l0.length<=c0) (h:ia.f k l0=some r) :
  Calls Tryz.prog 78 #[.slice A0 l0.length c0] w fun e w'=>e = .returned (.int .i64 r)/\Below w.heap.size w w':=by
 have ng:=Tryz.underlying54;have iL:=Tryz.underlying40;have dY:=qa fZ;have Ay:=qa hc0;clear fZ hc0;have HB:=qa (Below.refl w.heap.size w);unfold ia.f at h;have H:=h;clear h;have H':=qa H;clear H;go_enter Tryz.func78,Tryz.ntmps78;go_wp2
 go_loopg [10] k (fun kq v10 w'=>∃ (bA:Int),v10 = .int .i64 bA/\aO (ia.l0 kq l0 (l0.length:Int) bA=some r)/\aO (kq<=k)/\aO (Below w.heap.size w w'))
 case atStart=>exact⟨(0),zR,H',⟨Nat.le_refl _⟩,⟨zT HB⟩⟩
 case round =>
  clear H';obtain⟨bA,rfl,HA,iA,HB⟩:=hrel;cases gk with
  | zero=>exact absurd HA.out (by simp[ia.l0])
  | succ k1 =>
   have H:=HA.out;clear HA;simp only[ia.l0]at H;by_cases c2:bA<(l0.length:Int)
   ·rw[if_pos c2]at H
    have qF:=decide_eq_true c2;clear c2;by_cases c3:0<=bA
    ·rw[if_pos c3]at H
     have Cf:=decide_eq_true c3;clear c3;by_cases c4:bA<(l0.length:Int)
     ·rw[if_pos c4]at H
      have fV:=decide_eq_true c4;clear c4;obtain⟨jJ,J2⟩:∃ y_:List (aH),y_=(([(⟨(⟨(aB l0 bA).f0.f0.f0,(aB l0 bA).f0.f0.f1⟩:aI),(aB l0 bA).f0.f1⟩:aH),(⟨(⟨(aB l0 bA).f1.f0.f0,(aB l0 bA).f1.f0.f1⟩:aI),(aB l0 bA).f1.f1⟩:aH)]:List (aH))):=⟨_,rfl⟩
      replace H:(ia.l1 k1 l0 (l0.length:Int) bA jJ (jJ.length:Int) 0 ((aB l0 bA).f0.f0.f0) ((aB l0 bA).f0.f0.f1) ((aB l0 bA).f0.f1) ((aB l0 bA).f1.f0.f0) ((aB l0 bA).f1.f0.f1) ((aB l0 bA).f1.f1))=some r:=by first|(rw[J2];with_reducible exact H)|(have kj:=(Option.bind_some _ _).symm.trans H;rw[J2];with_reducible exact kj)|(have kj:=(Option.bind_some _ _).symm.trans H;with_reducible exact kj)|with_reducible exact H|(rw[J2];exact H)|exact H
      have abq:=qa J2;clear J2;have H':=qa H;clear H;have Ko:0<=(bA:Int):=of_decide_eq_true (by first|(with_reducible assumption)|assumption);have Kp:bA<(l0.length:Int):=of_decide_eq_true (by first|(with_reducible assumption)|assumption);obtain⟨ayi,aqQ,Jn,Jo,Jp,Jq,Jr,Js⟩:=oW dY.out bA Ko Kp;cases aqQ;replace Jn:=(HB.out.cell (World.block_lt_of_cell? w _ Jn)).trans Jn;replace Jo:=(HB.out.cell (World.block_lt_of_cell? w _ Jo)).trans Jo;replace Jp:=(HB.out.cell (World.block_lt_of_cell? w _ Jp)).trans Jp;replace Jq:=(HB.out.cell (World.block_lt_of_cell? w _ Jq)).trans Jq;replace Jr:=(HB.out.cell (World.block_lt_of_cell? w _ Jr)).trans Jr;replace Js:=(HB.out.cell (World.block_lt_of_cell? w _ Js)).trans Js;replace Ko:=eq_true Ko;replace Kp:=eq_true Kp;go_wp2_with (first|((with_reducible refine aV (N:=4) rfl ?_);(try(refine C6 (by rfl) ?_;dsimp only));refine zY 4 #[.bool false,.string ⟨#[]⟩,.string ⟨#[]⟩,.bool false,.string ⟨#[]⟩,.string ⟨#[]⟩] 54 ?_;intro T2 hg w5 ah hb;have oZ:=qa (ah);have ayj:=zG hg HB;have ayk:=zG hg HB;replace HB:=zS HB hb;clear hb ah hg;obtain⟨vR,vS,yI,aaf,aag,aah,vT,vU,yJ,aai,aaj,aak⟩:=z6 oZ)|((with_reducible refine aV (N:=18) rfl ?_);(try(refine C6 (by rfl) ?_;dsimp only));refine Kd.uD kO _ 40 ?hg (N:=18) ?hd (xs:=([(⟨(⟨(aB l0 bA).f0.f0.f0,(aB l0 bA).f0.f0.f1⟩:aI),(aB l0 bA).f0.f1⟩:aH),(⟨(⟨(aB l0 bA).f1.f0.f0,(aB l0 bA).f1.f0.f1⟩:aI),(aB l0 bA).f1.f1⟩:aH)]:List (aH))) (inner:=[.bool ((aB l0 bA).f0.f0.f0),.string ((aB l0 bA).f0.f0.f1),.string ((aB l0 bA).f0.f1),.bool ((aB l0 bA).f1.f0.f0),.string ((aB l0 bA).f1.f0.f1),.string ((aB l0 bA).f1.f1)]) (ok:=fun _=>True) (rV:=fun _=>True) ?hr ?hp (fun _ hk=>hk) trivial (Below.refl _ _) (Nat.le_refl _) (by simp) ?_;(case hd=>rfl);(case hg=>rfl);(case hr=>first|(go_simp;done)|(go_simp;rfl));(case hp=>exact(bp.c3 (show Kd.M kO _ _ _ (⟨(⟨(aB l0 bA).f0.f0.f0,(aB l0 bA).f0.f0.f1⟩:aI),(aB l0 bA).f0.f1⟩:aH) [.bool ((aB l0 bA).f0.f0.f0),.string ((aB l0 bA).f0.f0.f1),.string ((aB l0 bA).f0.f1)] from(sJ _ _ _ (⟨(⟨(aB l0 bA).f0.f0.f0,(aB l0 bA).f0.f0.f1⟩:aI),(aB l0 bA).f0.f1⟩:aH) )) (bp.c3 (show Kd.M kO _ _ _ (⟨(⟨(aB l0 bA).f1.f0.f0,(aB l0 bA).f1.f0.f1⟩:aI),(aB l0 bA).f1.f1⟩:aH) [.bool ((aB l0 bA).f1.f0.f0),.string ((aB l0 bA).f1.f0.f1),.string ((aB l0 bA).f1.f1)] from(sJ _ _ _ (⟨(⟨(aB l0 bA).f1.f0.f0,(aB l0 bA).f1.f0.f1⟩:aI),(aB l0 bA).f1.f1⟩:aH) )) (bp.none _ _))));intro aA0 w7 LD hb lY lH;clear lY lH;(first|rw[<- abq.out]at LD|(simp only[Int.reduceToNat]at LD;rw[<- abq.out]at LD));have abr:=qa (Kd.tu LD (tj (zT HB)));replace oZ:=qa (gP (g:=T2) (o := .cells #[.bool ((aB l0 bA).f0.f0.f0),.string ((aB l0 bA).f0.f0.f1),.string ((aB l0 bA).f0.f1),.bool ((aB l0 bA).f1.f0.f0),.string ((aB l0 bA).f1.f0.f1),.string ((aB l0 bA).f1.f1)] 54 (0,0)) (Kx oZ) hb);replace HB:=zS HB hb;clear hb LD;obtain⟨Ao9,co9,eo9⟩:=Kd.uy abr.out;subst eo9))
      go_loopg [20] k1 (fun kq v20 w'=>∃ (k7:Int),v20 = .int .i64 k7/\aO (ia.l1 kq l0 (l0.length:Int) bA jJ (jJ.length:Int) k7 ((aB l0 bA).f0.f0.f0) ((aB l0 bA).f0.f0.f1) ((aB l0 bA).f0.f1) ((aB l0 bA).f1.f0.f0) ((aB l0 bA).f1.f0.f1) ((aB l0 bA).f1.f1)=some r)/\aO (kq<=k1)/\aO (Kd.R kO 40 w' w.heap.size (fun _=>True) (.slice Ao9 jJ.length co9) jJ)/\aO (w'.heap[T2]?=some (.cells #[.bool ((aB l0 bA).f0.f0.f0),.string ((aB l0 bA).f0.f0.f1),.string ((aB l0 bA).f0.f1),.bool ((aB l0 bA).f1.f0.f0),.string ((aB l0 bA).f1.f0.f1),.string ((aB l0 bA).f1.f1)] 54 (0,0)))/\aO (Below w.heap.size w w'))
      case atStart=>exact⟨(0),zR,H',⟨Nat.le_refl _⟩,⟨by (with_reducible repeat(first|apply Kd.jO|apply Kd.jP|apply Kd.jf));exact abr.out⟩,zK oZ,⟨zT HB⟩⟩
      case round =>
       clear H';try clear c2;try clear qF;try clear p2;try clear q2;try clear hx2;try clear c3;try clear Cf;try clear c4;try clear fV;try clear c7;try clear vR;try clear vS;try clear yI;try clear aaf;try clear aag;try clear aah;try clear vT;try clear vU;try clear yJ;try clear aai;try clear aaj;try clear aak;try clear Jn;try clear Jo;try clear Jp;try clear Jq;try clear Jr;try clear Js;try clear Ko;try clear Kp
       obtain⟨k7,rfl,HA,AG,wh,oZ,HB⟩:=hrel;cases gk with
       | zero=>exact absurd HA.out (by simp[ia.l1])
       | succ k2 =>
        have H:=HA.out;clear HA;simp only[ia.l1]at H;by_cases c10:k7<(jJ.length:Int)
        ·rw[if_pos c10]at H
         have ot:=decide_eq_true c10;clear c10;by_cases c11:0<=k7
         ·rw[if_pos c11]at H
          have anM:=decide_eq_true c11;clear c11;by_cases c12:k7<(jJ.length:Int)
          ·rw[if_pos c12]at H
           have abi:=decide_eq_true c12;clear c12;have Vb:=qa H;clear H;have OW:0<=(k7:Int):=of_decide_eq_true (by first|(with_reducible assumption)|assumption);have OX:k7<(jJ.length:Int):=of_decide_eq_true (by first|(with_reducible assumption)|assumption);obtain⟨anN,aqR,ajr,ajs,ajt⟩:=SZ (Kd.lD wh.out).2.2 k7 OW OX;cases aqR;replace OW:=eq_true OW;replace OX:=eq_true OX;go_upto_region 7 with (first|((with_reducible refine aV (N:=6) rfl ?_);(try(refine C6 (by rfl) ?_;dsimp only));refine zY 6 #[.bool false,.string ⟨#[]⟩,.string ⟨#[]⟩] 40 ?_;intro wj hg ue ah hb;have GH:=qa (ah);have ayl:=zG hg HB;have aym:=zG hg HB;obtain⟨QD,QE⟩:=zQ hg oZ;replace wh:=qa (Kd.jZ (Kd.ahd (by (with_reducible repeat(first|apply Kd.jO|apply Kd.jP|apply Kd.jf));exact wh.out) wj (Nat.le_of_eq hg.symm)) hb);replace oZ:=zB oZ hb;replace HB:=zS HB hb;clear hb ah hg;have yN:=QE.out;have yO:=QD.out;obtain⟨Bg,Bh,F_,Bi,Bj,Ga⟩:=z3 GH))
           (try simp only[Act.put,List.setIfInBounds_toArray,List.set_cons_zero,List.set_cons_succ])
           go_cut [34] (fun v34 wc=>∃ (kq:Nat) (NC:Bool),v34 = .bool NC/\aO (ia.j2 kq l0 (l0.length:Int) bA jJ (jJ.length:Int) k7 NC ((aB l0 bA).f0.f0.f0) ((aB l0 bA).f0.f0.f1) ((aB l0 bA).f0.f1) ((aB l0 bA).f1.f0.f0) ((aB l0 bA).f1.f0.f1) ((aB l0 bA).f1.f1)=some r)/\aO (kq<=k2)/\aO (Kd.R kO 40 wc w.heap.size (fun k_=>k_≠wj) (.slice (some anN) jJ.length co9) jJ)/\aO (wc.heap[T2]?=some (.cells #[.bool ((aB l0 bA).f0.f0.f0),.string ((aB l0 bA).f0.f0.f1),.string ((aB l0 bA).f0.f1),.bool ((aB l0 bA).f1.f0.f0),.string ((aB l0 bA).f1.f0.f1),.string ((aB l0 bA).f1.f1)] 54 (0,0)))/\aO (wc.heap[wj]?=some (.cells #[.bool ((fP jJ k7).f0.f0),.string ((fP jJ k7).f0.f1),.string ((fP jJ k7).f1)] 40 (0,0)))/\aO (Below w.heap.size w wc))
           case first =>
            have H:=Vb.out;clear Vb;by_cases c17:(((fP jJ k7).f0.f1).size:Int) > 100
            ·rw[if_pos c17]at H
             have GI:=decide_eq_true c17;have abt:decide (100<((fP jJ k7).f0.f1).size)=true:=decide_eq_true qo;clear c17
             (first|rw[GI]|(simp only[dB,dD];rw[GI])|skip)
             have H':=qa H;clear H;have JT:=QE.out;have JU:=QD.out;obtain⟨yB,yC,Dl,yD,yE,Dm⟩:=z3 GH;go_wp2
             go_meet
             case rel=>exact⟨_,(true),zR,H',⟨by have:=iA.out;have:=AG.out;first|omega|exact Nat.le_refl _⟩,⟨by (with_reducible repeat(first|apply Kd.jO|apply Kd.jP|apply Kd.jf));exact Kd.yF (Kd.Gt (p:=⟨wj,2,none⟩) (Kd.Gt (p:=⟨wj,1,none⟩) (Kd.Gt (p:=⟨wj,0,none⟩) (Kd.yF wh.out (fun k_ hk=>(⟨hk,hk.2⟩:_/\k_≠wj))) (fun _ hk=>hk.2) (.bool ((fP jJ k7).f0.f0))) (fun _ hk=>hk.2) (.string ((fP jJ k7).f0.f1))) (fun _ hk=>hk.2) (.string ((fP jJ k7).f1))) (fun _ hk=>hk.1.2)⟩,zK oZ,⟨Kx GH⟩,⟨zT HB⟩⟩
            ·rw[if_neg c17]at H
             have GI:=decide_eq_false c17;have abt:decide (100<((fP jJ k7).f0.f1).size)=false:=decide_eq_false qo;clear c17
             (first|rw[GI]|(simp only[dB,dD];rw[GI])|skip)
             have H':=qa H;clear H;have T5:=QE.out;have T8:=QD.out;obtain⟨Gc,Gd,MV,Ge,Gf,MW⟩:=z3 GH;go_wp2
             go_meet
             case rel=>exact⟨_,(decide ((((fP jJ k7).f1).size:Int) > 100)),zR,H',⟨by have:=iA.out;have:=AG.out;first|omega|exact Nat.le_refl _⟩,⟨by (with_reducible repeat(first|apply Kd.jO|apply Kd.jP|apply Kd.jf));exact Kd.yF (Kd.Gt (p:=⟨wj,2,none⟩) (Kd.Gt (p:=⟨wj,1,none⟩) (Kd.Gt (p:=⟨wj,0,none⟩) (Kd.yF wh.out (fun k_ hk=>(⟨hk,hk.2⟩:_/\k_≠wj))) (fun _ hk=>hk.2) (.bool ((fP jJ k7).f0.f0))) (fun _ hk=>hk.2) (.string ((fP jJ k7).f0.f1))) (fun _ hk=>hk.2) (.string ((fP jJ k7).f1))) (fun _ hk=>hk.1.2)⟩,zK oZ,⟨Kx GH⟩,⟨zT HB⟩⟩
           case rest =>
            clear Vb;try clear c1;try clear c2;try clear qF;try clear p2;try clear q2;try clear hx2;try clear c3;try clear Cf;try clear c4;try clear fV;try clear c7;try clear c10;try clear ot;try clear c11;try clear anM;try clear c12;try clear abi;try clear c15;try clear c17;try clear GI;try clear abt;try clear c18;try clear c20;try clear Bg;try clear Bh;try clear F_;try clear yB;try clear yC;try clear Dl;try clear Gc;try clear Gd;try clear MV;try clear vR;try clear vS;try clear yI;try clear aaf;try clear aag;try clear aah;try clear Bi;try clear Bj;try clear Ga;try clear yD;try clear yE;try clear Dm;try clear Ge;try clear Gf;try clear MW;try clear vT;try clear vU;try clear yJ;try clear aai;try clear aaj;try clear aak;try clear Jn;try clear Jo;try clear Jp;try clear Jq;try clear Jr;try clear Js;try clear ajr;try clear ajs;try clear ajt;try clear p2;try clear Ko;try clear OW;try clear q2;try clear Kp;try clear OX
            obtain⟨kq,NC,rfl,HA,ac5,wh,oZ,GH,HB⟩:=hcut;cases kq with
            | zero=>exact absurd HA.out (by simp[ia.j2])
            | succ aqS =>
             have H:=HA.out;clear HA;simp only[ia.j2]at H;by_cases LF:NC=true
             ·subst LF
              rw[if_pos rfl]at H
              obtain rfl:=Option.some.inj H;go_wp2
              go_ret
              exact⟨zH,zT HB⟩
             ·replace LF:=Bool.eq_false_iff.mpr LF
              subst LF;rw[if_neg zn]at H
              have H':=qa H;clear H;go_wp2
              go_roundg aqS
              case measure=>have:=iA.out;have:=AG.out;have:=ac5.out;omega
              case rel=>exact⟨(wrap64 (k7+1)),zR,H',⟨by have:=iA.out;have:=AG.out;have:=ac5.out;omega⟩,⟨by (with_reducible repeat(first|apply Kd.jO|apply Kd.jP|apply Kd.jf));exact Kd.yF wh.out (fun _ hk=>trivial)⟩,zK oZ,⟨zT HB⟩⟩
          ·rw[if_neg c12]at H
           exact absurd H (by simp)
         ·rw[if_neg c11]at H
          exact absurd H (by simp)
        ·rw[if_neg c10]at H
         have ot:=decide_eq_false c10;clear c10;obtain⟨Hl,A23,H⟩:=zo H;by_cases vw:Hl=0
         ·rw[if_pos vw]at H
          have anO:=beq_iff_eq.mpr vw;have anP:=bne_eq_false_iff_eq.mpr vw;clear vw;have H':=qa H;clear H;obtain⟨Zf,Zg,Zh,ata,atb,atc,Zi,Zj,Zk,atd,ate,atf⟩:=z6 oZ;go_wp2_with (first|((with_reducible refine cW (f:=118) rfl ?_);refine zO Tryz.func118 qk (vG.calls k2 ((aB l0 bA).f0.f0.f0) ((aB l0 bA).f0.f0.f1) ((aB l0 bA).f0.f1) ((aB l0 bA).f1.f0.f0) ((aB l0 bA).f1.f0.f1) ((aB l0 bA).f1.f1) Hl _ A23.out) fun PK hb=>?_;replace wh:=qa (Kd.jZ (by (with_reducible repeat(first|apply Kd.jO|apply Kd.jP|apply Kd.jf));exact wh.out) hb);replace oZ:=zB oZ hb;replace HB:=zS HB hb;(try clear hb)))
          go_roundg k2
          case measure=>have:=iA.out;have:=AG.out;omega
          case rel=>exact⟨(wrap64 (bA+1)),zR,H',⟨by have:=iA.out;have:=AG.out;omega⟩,⟨zT HB⟩⟩
         ·rw[if_neg vw]at H
          have anO:=beq_eq_false_iff_ne.mpr vw;have anP:=bne_iff_ne.mpr vw;obtain rfl:=Option.some.inj H;obtain⟨aju,ajv,ajw,ajx,ajy,ajz,ajA,ajB,ajC,ajD,ajE,ajF⟩:=z6 oZ;go_wp2_with (first|((with_reducible refine cW (f:=118) rfl ?_);refine zO Tryz.func118 qk (vG.calls k2 ((aB l0 bA).f0.f0.f0) ((aB l0 bA).f0.f0.f1) ((aB l0 bA).f0.f1) ((aB l0 bA).f1.f0.f0) ((aB l0 bA).f1.f0.f1) ((aB l0 bA).f1.f1) Hl _ A23.out) fun PL hb=>?_;replace wh:=qa (Kd.jZ (by (with_reducible repeat(first|apply Kd.jO|apply Kd.jP|apply Kd.jf));exact wh.out) hb);replace oZ:=zB oZ hb;replace HB:=zS HB hb;(try clear hb)))
          go_ret
          exact⟨zH,zT HB⟩
     ·rw[if_neg c4]at H
      exact absurd H (by simp)
    ·rw[if_neg c3]at H
     exact absurd H (by simp)
   ·rw[if_neg c2]at H
    have qF:=decide_eq_false c2;clear c2;obtain rfl:=Option.some.inj H;go_wp2
    go_ret
    exact⟨zH,zT HB⟩
def pL.f (k:Nat) (af:Bool) (aa aj:ByteArray) (aL:Bool) (aM aN:ByteArray) (aq:Bool) (ak ay:ByteArray) (aS:Bool) (aT aU:ByteArray) (bD:Bool) (bE bF:ByteArray) (cD:Bool) (cE cF:ByteArray):Option (Int):=(sB.f k aq ak ay aS aT aU af aa aj aL aM aN).bind fun GX=>((sB.f k bD bE bF cD cE cF af aa aj aL aM aN).bind fun GY=>((AX.f k GX.1 GX.2.1 GX.2.2.1 GX.2.2.2.1 GX.2.2.2.2.1 GX.2.2.2.2.2 GY.1 GY.2.1 GY.2.2.1 GY.2.2.2.1 GY.2.2.2.2.1 GY.2.2.2.2.2).bind fun Up=>((C8.f k Up.1 Up.2.1 Up.2.2).bind fun Vt=>(some Vt))))
def pL.T1:Bool × List (List Nat × List Nat):=(true,[([],[]),([],[]),([0,1],[0,1]),([],[]),([],[]),([3,4,2],[3,4]),([2,5,5],[2,5]),([6,6],[6]),([7,7,0,1,2,3,4,5,6,7],[7])])
def pL.B1:List Nat:=[0,0,3,0,0,31,63,127,255]
theorem pL.zu:gR .any (opsOf Tryz.f79 1)=pL.T1:=by kernel_rfl
theorem pL.yM:nI pL.T1.2 pL.B1=true:=by kernel_rfl
theorem pL.calls (k:Nat) (af:Bool) (aa aj:ByteArray) (aL:Bool) (aM aN:ByteArray) (aq:Bool) (ak ay:ByteArray) (aS:Bool) (aT aU:ByteArray) (bD:Bool) (bE bF:ByteArray) (cD:Bool) (cE cF:ByteArray) (r:Int) (w:World) (h:pL.f k af aa aj aL aM aN aq ak ay aS aT aU bD bE bF cD cE cF=some r) :
  Calls Tryz.prog 79 #[.agg #[.bool af,.string aa,.string aj,.bool aL,.string aM,.string aN],.agg #[.bool aq,.string ak,.string ay,.bool aS,.string aT,.string aU],.agg #[.bool bD,.string bE,.string bF,.bool cD,.string cE,.string cF]] w fun e w'=>e = .returned (.int .i64 r)/\Below w.heap.size w w':=by
 have ng:=Tryz.underlying54;have HB:=qa (Below.refl w.heap.size w);unfold pL.f at h;have H:=h;clear h;obtain⟨⟨ad1,ad3,ad4,ad5,ad6,ad7⟩,A4,H⟩:=zo H;try dsimp only at H
 obtain⟨⟨ad8,ad9,ad_,aea,aeb,aec⟩,A5,H⟩:=zo H;try dsimp only at H
 obtain⟨⟨aed,aee,aef⟩,A6,H⟩:=zo H;try dsimp only at H
 obtain⟨Vt,A7,H⟩:=zo H;obtain rfl:=Option.some.inj H;go_enter Tryz.func79,Tryz.ntmps79;try go_wp2_with (first|((with_reducible refine aV (N:=3) rfl ?_);refine zY 3 #[.bool af,.string aa,.string aj,.bool aL,.string aM,.string aN] 54 ?_;intro GZ hg w8 ah hb;have eD:=qa (ah);have azF:=zG hg HB;have azG:=zG hg HB;replace HB:=zS HB hb;clear hb ah hg)|((with_reducible refine aV (N:=4) rfl ?_);refine zY 4 #[.bool aq,.string ak,.string ay,.bool aS,.string aT,.string aU] 54 ?_;intro G3 hg w9 ah hb;have fu:=qa (ah);have azH:=zG hg HB;have azI:=zG hg HB;obtain⟨asq,asr⟩:=zQ hg eD;replace eD:=zB eD hb;replace HB:=zS HB hb;clear hb ah hg)|((with_reducible refine aV (N:=5) rfl ?_);refine zY 5 #[.bool bD,.string bE,.string bF,.bool cD,.string cE,.string cF] 54 ?_;intro G4 hg iC ah hb;have fU:=qa (ah);have azJ:=zG hg HB;have azK:=zG hg HB;obtain⟨ast,asu⟩:=zQ hg eD;obtain⟨asv,asw⟩:=zQ hg fu;obtain⟨eD,fu⟩:=eX eD fu hb;replace HB:=zS HB hb;clear hb ah hg))
 replace eD:=zD eD;replace fu:=zD fu;replace fU:=zD fU;replace HB:=zF HB;refine l9 (n:=9) (S:=fun w'=>w'.cell? ⟨G3,0,none⟩=some (.bool aq)/\w'.cell? ⟨G3,1,none⟩=some (.string ak)/\w'.cell? ⟨G3,2,none⟩=some (.string ay)/\w'.cell? ⟨G3,3,none⟩=some (.bool aS)/\w'.cell? ⟨G3,4,none⟩=some (.string aT)/\w'.cell? ⟨G3,5,none⟩=some (.string aU)/\w'.cell? ⟨GZ,0,none⟩=some (.bool af)/\w'.cell? ⟨GZ,1,none⟩=some (.string aa)/\w'.cell? ⟨GZ,2,none⟩=some (.string aj)/\w'.cell? ⟨GZ,3,none⟩=some (.bool aL)/\w'.cell? ⟨GZ,4,none⟩=some (.string aM)/\w'.cell? ⟨GZ,5,none⟩=some (.string aN)/\w'.cell? ⟨G4,0,none⟩=some (.bool bD)/\w'.cell? ⟨G4,1,none⟩=some (.string bE)/\w'.cell? ⟨G4,2,none⟩=some (.string bF)/\w'.cell? ⟨G4,3,none⟩=some (.bool cD)/\w'.cell? ⟨G4,4,none⟩=some (.string cE)/\w'.cell? ⟨G4,5,none⟩=some (.string cF)) (ds:=[]) (zb 9 0) qk rfl rfl ⟨zc fu 0,zc fu 1,zc fu 2,zc fu 3,zc fu 4,zc fu 5,zc eD 0,zc eD 1,zc eD 2,zc eD 3,zc eD 4,zc eD 5,zc fU 0,zc fU 1,zc fU 2,zc fU 3,zc fU 4,zc fU 5⟩ (fun hHeld=>?_);refine nD pL.zu pL.yM (fun aA bJ=>?_);generalize iC.drew=nk at eD fu fU HB hHeld ⊢;refine zV (i:=0) (N:=some 7) (zb 9 1) (cH aA.out bJ.out qk) hHeld ?_;refine zV (i:=1) (N:=some 8) (zb 9 3) (cH aA.out bJ.out qk) hHeld ?_;refine zV (i:=3) (N:=some 10) (zb 9 11) (cH aA.out bJ.out qk) hHeld ?_;refine zV (i:=4) (N:=some 11) (zb 9 27) (cH aA.out bJ.out qk) hHeld ?_;refine bH (i:=2) (N:=some 9) (zb 9 31) rfl rfl (bL aA.out qk) qd (fun K hK=>?_);refine zJ Tryz.func121 qk (sB.calls k aq ak ay aS aT aU af aa aj aL aM aN ad1 ad3 ad4 ad5 ad6 ad7 _ A4.out) fun iH hb=>?_;obtain⟨eD,fu,fU⟩:=bC eD fu fU hb;replace HB:=zS HB hb
 (try clear hb)
 refine hK.out _ _ ⟨zc fu 0,zc fu 1,zc fu 2,zc fu 3,zc fu 4,zc fu 5,zc eD 0,zc eD 1,zc eD 2,zc eD 3,zc eD 4,zc eD 5,zc fU 0,zc fU 1,zc fU 2,zc fU 3,zc fU 4,zc fU 5⟩ (fun hHeld=>?_);clear hK K;refine zW (some 9) ?_;refine bH (i:=5) (N:=some 12) (zb 9 63) rfl rfl (bL aA.out qk) qd (fun K hK=>?_);refine zJ Tryz.func121 qk (sB.calls k bD bE bF cD cE cF af aa aj aL aM aN ad8 ad9 ad_ aea aeb aec _ A5.out) fun oL hb=>?_;obtain⟨eD,fu,fU⟩:=bC eD fu fU hb;replace HB:=zS HB hb
 (try clear hb)
 refine hK.out _ _ ⟨zc fu 0,zc fu 1,zc fu 2,zc fu 3,zc fu 4,zc fu 5,zc eD 0,zc eD 1,zc eD 2,zc eD 3,zc eD 4,zc eD 5,zc fU 0,zc fU 1,zc fU 2,zc fU 3,zc fU 4,zc fU 5⟩ (fun hHeld=>?_);clear hK K;refine zW (some 12) ?_;refine bH (i:=6) (N:=some 13) (zb 9 127) rfl rfl (bL aA.out qk) qd (fun K hK=>?_);refine zJ Tryz.func120 qk (AX.calls k ad1 ad3 ad4 ad5 ad6 ad7 ad8 ad9 ad_ aea aeb aec aed aee aef _ A6.out) fun ue hb=>?_;obtain⟨eD,fu,fU⟩:=bC eD fu fU hb;replace HB:=zS HB hb
 (try clear hb)
 refine hK.out _ _ ⟨zc fu 0,zc fu 1,zc fu 2,zc fu 3,zc fu 4,zc fu 5,zc eD 0,zc eD 1,zc eD 2,zc eD 3,zc eD 4,zc eD 5,zc fU 0,zc fU 1,zc fU 2,zc fU 3,zc fU 4,zc fU 5⟩ (fun hHeld=>?_);clear hK K;refine zW (some 13) ?_;refine bH (i:=7) (N:=some 14) (zb 9 255) rfl rfl (bL aA.out qk) qd (fun K hK=>?_);refine zJ Tryz.func119 qk (C8.calls k aed aee aef Vt _ A7.out) fun PI hb=>?_;obtain⟨eD,fu,fU⟩:=bC eD fu fU hb;replace HB:=zS HB hb
 (try clear hb)
 refine hK.out _ _ ⟨zc fu 0,zc fu 1,zc fu 2,zc fu 3,zc fu 4,zc fu 5,zc eD 0,zc eD 1,zc eD 2,zc eD 3,zc eD 4,zc eD 5,zc fU 0,zc fU 1,zc fU 2,zc fU 3,zc fU 4,zc fU 5⟩ (fun hHeld=>?_);clear hK K;refine zW (some 14) ?_;refine zU (i:=8) (N:=some 6) (zb 9 511) (bf aA.out qk) ?_;refine mg (nH aA.out qk) ?_;try go_wp2
 go_ret
 exact⟨zH,zT HB⟩
end Go.Proofs.aF.R
namespace Go.Proofs.YtcmepkhjggpmeaaGreat
open Go.RowKit
section
variable {P:Program} {ops:Array Oper} {md:Region.Mode} {C:World->Prop}
def J9 (P:Program) (md:Region.Mode) (ops:Array Oper) (C:World->Prop) (n:Nat) (L:Array Bool->Act->Prop):Nat->Array Bool->Act->Prop
 | 0,listed,a=>L listed a
 | f+1,listed,a=>Region.ready md ops listed≠[]/\∀ i∈Region.ready md ops listed,i<n/\qOp P ops C i (J9 P md ops C n L f (listed.setIfInBounds i true)) a
theorem Xq {n g:Nat} {L:Array Bool->Act->Prop} {Q':Exit->Act->World->Prop} (hL:∀ listed a w,C w->L listed a->wpAny P md ops Q' g listed a w) :
  ∀ (f:Nat) (listed:Array Bool) (a:Act) (w:World),C w->J9 P md ops C n L f listed a->wpAny P md ops Q' (f+g) listed a w
 | 0,_,_,_,hw,h=>by rw[Nat.zero_add];exact hL _ _ _ hw h
 | f+1,_,_,_,hw,h=>by
  rw[show f+1+g=(f+g)+1 by omega]
  exact⟨fun h0=>absurd h0 h.1,fun i hi=>wpOp_of_qOp hw (fun a' w' hw' h'=>Xq hL f _ a' w' hw' h') (h.2 i hi).2⟩
theorem afv {n i:Nat} {oi:Oper} {v:Value} {L:Array Bool->Act->Prop} (hi:ops[i]?=some oi) (hsel:∀ (j:Nat) (o:Oper) cs b,ops[j]?=some o->o.op ≠ .select cs b)
  (hs:Region.sinkB md ops n=true) (hc:Region.chainB md ops n=true) (hn:n<ops.size) (hin:i<n) (hdone:∀ listed a,L listed a->∀ j∈Region.ready md ops listed,n<=j) :
  ∀ (f:Nat) (listed:Array Bool) (a:Act),HeadInv md ops n listed ->
   (∀ j oj,ops[j]?=some oj->j≠i->listed.getD j true=false->(∀ e∈oj.after,Region.binds md e=true->e.on≠i)->oi.apart ops oj=true) ->
   i∈Region.ready md ops listed->YieldsIn P ops C oi v a->J9 P md ops C n L f (listed.setIfInBounds i true) (a.put oi.dst v)->J9 P md ops C n L (f+1) listed a:=by
 intro f;induction f with
 | zero =>
  intro listed a inv _ hr hy H;refine⟨fun h=>(by rw[h]at hr;cases hr),fun j hj=>?_⟩;have hjn:j<n:=Nat.lt_of_not_le fun h=>tail_waits hs hc hn inv _ i rfl hin (mem_ready.1 hr).1 j h hj;refine⟨hjn,?_⟩;by_cases hji:j=i
  ·subst hji;exact hy.qOp hi H
  ·have:=hdone _ _ H j (ready_mono hj hji)
   omega
 | succ f ih =>
  intro listed a inv hfree hr hy H;refine⟨fun h=>(by rw[h]at hr;cases hr),fun j hj=>?_⟩;have hjn:j<n:=Nat.lt_of_not_le fun h=>tail_waits hs hc hn inv _ i rfl hin (mem_ready.1 hr).1 j h hj;refine⟨hjn,?_⟩;by_cases hji:j=i
  ·subst hji;exact hy.qOp hi H
  ·have h1:=(H.2 j (ready_mono hj hji)).2
   obtain⟨xK,oj,wE,hall⟩:=mem_ready.1 hj;have hnot:∀ e∈oj.after,Region.binds md e=true->e.on≠i:=fun e he hb heq=>by
    have h1:=hall e he hb;rw[heq,getD_both (mem_ready.1 hr).1]at h1
    cases h1
   have h2:=qOp_put wE (hfree j oj wE hji xK hnot) (fun cs b=>hsel i oi cs b hi) (fun cs b=>hsel j oj cs b wE) hy h1;refine qOp_mono (fun a' h3=>ih (listed.setIfInBounds j true) a' (inv.set hj hjn) (fun k ok hk hki hun hno=>?_) (ready_mono hr (Ne.symm hji)) h3.1 ?_) h2
   ·refine hfree k ok hk hki ?_ hno
    by_cases hjk:j=k
    ·subst hjk;exact xK
    ·rw[getD_set_ne true hjk]at hun;exact hun
   ·rw[Array.setIfInBounds_comm _ _ hji]
    exact h3.2
theorem XY {n g:Nat} {Lq:Act->Prop} (hsel:Region.noSelect ops=true) (hs:Region.sinkB md ops n=true) (hc:Region.chainB md ops n=true) (hn:n<ops.size) :
  ∀ (l:List Oper) (k:Nat) (listed:Array Bool) (a:Act),(∀ j,j<l.length->l[j]?=ops[k+j]?)->k+l.length=n->HeadInv md ops n listed ->
  Region.lexHead md ops g l.length k listed=true->wpQuiet P ops C Lq l a ->
  J9 P md ops C n (fun listed' a'=>Region.seqB md ops g n listed'=true/\Lq a') l.length listed a
 | [],k,listed,a,_,hk,_,hB,h=>by
  obtain rfl:k=n:=by simpa using hk
  exact⟨by simpa [Region.lexHead] using hB,h⟩
 | o::l,k,listed,a,hl,hk,inv,hB,h=>by
  have h0:ops[k]?=some o:=by simpa using (hl 0 (by simp)).symm
  simp only[List.length_cons,Region.lexHead,Bool.and_eq_true]at hB
  obtain⟨⟨hr,hf⟩,hB'⟩:=hB
  have hkn:k<n:=by simp only[List.length_cons]at hk;omega
  have hr':k∈Region.ready md ops listed:=by simpa using hr
  have hst:qOp P ops C k (wpQuiet P ops C Lq l) a:=by unfold qOp;simp only[h0];exact h
  obtain⟨v,hy,hK⟩:=yieldsIn_of_qOp h0 hst
  exact afv h0 (Region.noSelect_spec hsel) hs hc hn hkn (fun listed' a' hL=>seqB_ready hL.1) l.length listed a inv (Region.free_spec h0 hf) hr' hy
   (XY hsel hs hc hn l (k+1) _ _ (fun j hj=>by have:=hl (j+1) (by simp;omega);simpa [Nat.add_assoc,Nat.add_comm 1 j] using this) (by simp only[List.length_cons]at hk;omega) (inv.set hr' hkn) hB' hK)
theorem Xu {id:Nat} {Q:Exit->Act->World->Prop} {a:Act} {w:World} {l:List Oper} (n:Nat) (hm:P.follows .mixedOrders=true) (hB:Region.lexTailB .any l.toArray n=true) (hC:C { w with drawn:=w.drawn+1 })
  (h:wpQuiet P l.toArray C (fun a'=>∀ w',C w'->wpList P l.toArray Q (l.drop n) a' w') (l.take n) a):(Code.region id l.toArray true).wp P Q a w:=by
 simp only[Region.lexTailB,Bool.and_eq_true,decide_eq_true_eq]at hB;obtain⟨⟨⟨⟨hsel,hn⟩,hs⟩,hc⟩,arU⟩:=hB;have hn':n<l.length:=by simpa using hn
 have htl:(l.take n).length=n:=by simp;omega
 have hdl:(l.drop n).length=l.toArray.size-n:=by simp
 have arV:HeadInv .any l.toArray n (Array.replicate l.toArray.size false) :=
  ⟨by simp,fun j oj _ hl=>(by rw[getD_replicate_false]at hl;cases hl),fun t _ ht=>getD_in (by simpa using ht) (getD_replicate_false _ _)⟩
 have H:=XY (md := .any) (g:=l.toArray.size-n) hsel hs hc hn (l.take n) 0 _ a (fun j hj=>by
  have hj':j<n:=by rw[htl]at hj;exact hj
  simp[hj']) (by simpa using htl) arV (by rw[htl];exact arU) h
 refine wp_region_any hm ?_;have:=Xq (Q':=Q) (g:=l.toArray.size-n) (fun listed a' w' hw' hL=>by
  have:=wpAny_of_seq (md := .any) (Q':=Q) (l.drop n) n listed a' w' (fun j=>by simp[List.getElem?_drop]) (by rw[hdl];exact hL.1) (hL.2 w' hw');rwa [hdl]at this) _ _ _ _ hC H
 rw[htl,show n+(l.toArray.size-n)=l.toArray.size by omega]at this
 exact this
end
theorem agM {P:Program} {id:Nat} {Q:Exit->Act->World->Prop} {a:Act} (w:World) {l:List Oper} (n:Nat) (hm:P.follows .mixedOrders=true) (hB:Region.lexTailB .any l.toArray n=true)
  (h:wpQuiet P l.toArray (fun w'=>∃ p:BW w,w'=p.w) (fun a'=>∀ w',(∃ p:BW w,w'=p.w)->wpList P l.toArray Q (l.drop n) a' w') (l.take n) a):(Code.region id l.toArray true).wp P Q a w :=
 Xu (C:=fun w'=>∃ p:BW w,w'=p.w) n hm hB ⟨⟨_,(Below.refl w.heap.size w).drew⟩,rfl⟩ h
end Go.Proofs.YtcmepkhjggpmeaaGreat
