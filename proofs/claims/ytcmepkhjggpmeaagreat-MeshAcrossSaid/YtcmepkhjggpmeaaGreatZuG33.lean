import Derived.Test.YtcmepkhjggpmeaaGreatZuG21
import Derived.Test.YtcmepkhjggpmeaaGreatZuG31
set_option linter.all false
set_option maxRecDepth 100000
set_option maxHeartbeats 8000000
namespace Go.Proofs.aF.R
open Go.RowKit Go.Proofs.aF.Z Go.Proofs.aD.aY Go.Proofs.aD.bO Go.Proofs.aD.bT
attribute [local go_sem] ct cu cA cC ck cm cw cz
open Go.Proofs.YtcmepkhjggpmeaaGreat Go.Proofs.YtcmepkhjggpmeaaGreat.aP in
def wZ.f (af:Bool) (aa:ByteArray) (aq:Bool) (ak:ByteArray):Option (Bool × ByteArray):=if aa.size<=4000/\ak.size<=4000 then some ((pv (ival af aa+ival aq ak)).1,(pv (ival af aa+ival aq ak)).2) else none
open Go.Proofs.YtcmepkhjggpmeaaGreat Go.Proofs.YtcmepkhjggpmeaaGreat.aP in
theorem wZ.calls (af:Bool) (aa:ByteArray) (aq:Bool) (ak:ByteArray) (r1:Bool) (r2:ByteArray) (w:World) (h:wZ.f af aa aq ak=some (r1,r2)) :
  Calls Tryz.prog 69 #[.agg #[.bool af,.string aa],.agg #[.bool aq,.string ak]] w fun e w'=>e = .returned (.agg #[.bool r1,.string r2])/\Below w.heap.size w w':=by
 unfold wZ.f at h;split at h
 ·rename_i hc
  simp only[Option.some.injEq,Prod.mk.injEq]at h;obtain⟨rfl,rfl⟩:=h;exact am1 _ _ _ _ hc.1 hc.2 w
 ·exact absurd h (by simp)
open Go.Proofs.YtcmepkhjggpmeaaGreat Go.Proofs.YtcmepkhjggpmeaaGreat.aP in
def oa.f (af:Bool) (aa:ByteArray) (aq:Bool) (ak:ByteArray):Option (Bool × ByteArray):=if aa.size<=4000/\ak.size<=4000 then some ((pv (ival af aa*ival aq ak)).1,(pv (ival af aa*ival aq ak)).2) else none
open Go.Proofs.YtcmepkhjggpmeaaGreat Go.Proofs.YtcmepkhjggpmeaaGreat.aP in
theorem oa.calls (af:Bool) (aa:ByteArray) (aq:Bool) (ak:ByteArray) (r1:Bool) (r2:ByteArray) (w:World) (h:oa.f af aa aq ak=some (r1,r2)) :
  Calls Tryz.prog 70 #[.agg #[.bool af,.string aa],.agg #[.bool aq,.string ak]] w fun e w'=>e = .returned (.agg #[.bool r1,.string r2])/\Below w.heap.size w w':=by
 unfold oa.f at h;split at h
 ·rename_i hc
  simp only[Option.some.injEq,Prod.mk.injEq]at h;obtain⟨rfl,rfl⟩:=h;exact aio _ _ _ _ hc.1 hc.2 w
 ·exact absurd h (by simp)
open Go.Proofs.YtcmepkhjggpmeaaGreat Go.Proofs.YtcmepkhjggpmeaaGreat.aP in
def yh.f (af:Bool) (aa:ByteArray) (aq:Bool) (ak:ByteArray):Option (Bool × ByteArray × ByteArray):=if aa.size<=4000/\ak.size<=4000/\gF af aa=0/\gF aq ak=0/\ival aq ak≠0 then some ((pq (Rat.divInt (ival af aa) (ival aq ak))).1,(pq (Rat.divInt (ival af aa) (ival aq ak))).2.1,(pq (Rat.divInt (ival af aa) (ival aq ak))).2.2) else none
open Go.Proofs.YtcmepkhjggpmeaaGreat Go.Proofs.YtcmepkhjggpmeaaGreat.aP in
theorem yh.calls (af:Bool) (aa:ByteArray) (aq:Bool) (ak:ByteArray) (r1:Bool) (r2 r3:ByteArray) (w:World) (h:yh.f af aa aq ak=some (r1,r2,r3)) :
  Calls Tryz.prog 72 #[.agg #[.bool af,.string aa],.agg #[.bool aq,.string ak]] w fun e w'=>e = .returned (.agg #[.bool r1,.string r2,.string r3])/\Below w.heap.size w w':=by
 unfold yh.f at h;split at h
 ·rename_i hc
  simp only[Option.some.injEq,Prod.mk.injEq]at h;obtain⟨rfl,rfl,rfl⟩:=h;exact ahI _ _ _ _ hc.1 hc.2.1 (q9.1 hc.2.2.1) (q9.1 hc.2.2.2.1) hc.2.2.2.2 w
 ·exact absurd h (by simp)
mutual
def i_.l0:Nat->List (pT)->Int->Int->Int->Option (Int)
 | 0,_,_,_,_=>none
 | k+1,x0,x1,x2,x7=>if x7<(x0.length:Int) then (if 0<=x7 then (if ((kJ x0 x7).f0)=x1 then (if ((kJ x0 x7).f1)=x2 then (i_.j1 k x0 x1 x2 x7 true) else (if ((kJ x0 x7).f0)=x2 then (i_.j1 k x0 x1 x2 x7 (((kJ x0 x7).f1)==x1)) else (i_.j1 k x0 x1 x2 x7 false))) else (if ((kJ x0 x7).f0)=x2 then (i_.j1 k x0 x1 x2 x7 (((kJ x0 x7).f1)==x1)) else (i_.j1 k x0 x1 x2 x7 false))) else (none)) else (some (-1))
def i_.j1:Nat->List (pT)->Int->Int->Int->Bool->Option (Int)
 | 0,_,_,_,_,_=>none
 | k+1,x0,x1,x2,x7,x47=>if x47=true then (some x7) else (i_.l0 k x0 x1 x2 (wrap64 (x7+1)))
end
def i_.f (k:Nat) (l0:List (pT)) (a1 a2:Int):Option (Int):=i_.l0 k l0 a1 a2 0
theorem i_.calls (k:Nat) (A0:Option Addr) (c0:Nat) (l0:List (pT)) (a1 a2 r:Int) (w:World) (fZ:Kd.C tZ w A0 l0.length l0) (hc0:l0.length<=c0) (h:i_.f k l0 a1 a2=some r) :
  Calls Tryz.prog 28 #[.slice A0 l0.length c0,.int .i64 a1,.int .i64 a2] w fun e w'=>e = .returned (.int .i64 r)/\jr w w':=by
 have dY:=qa fZ;have Ay:=qa hc0;clear fZ hc0;unfold i_.f at h;have H:=h;clear h;have H':=qa H;clear H;go_enter Tryz.func28,Tryz.ntmps28;go_wp2
 go_loopg [7] k (fun kq v7 w'=>∃ (dO:Int),v7 = .int .i64 dO/\aO (i_.l0 kq l0 a1 a2 dO=some r)/\aO (kq<=k)/\jr w w')
 case atStart=>exact⟨(0),zR,H',⟨Nat.le_refl _⟩,by repeat(first|exact jr.refl _|apply jr.step)⟩
 case round =>
  clear H';try clear c2;try clear p2
  obtain⟨dO,rfl,HA,iA,⟨m1,rfl⟩⟩:=hrel;cases gk with
  | zero=>exact absurd HA.out (by simp[i_.l0])
  | succ k1 =>
   have H:=HA.out;clear HA;simp only[i_.l0]at H;by_cases c4:dO<(l0.length:Int)
   ·rw[if_pos c4]at H
    have fV:=decide_eq_true c4;clear c4;have E8:=qa H;clear H;go_upto_region 4 with (fail)
    go_cut [47] (fun v47 wc=>∃ (kq:Nat) (N9:Bool),v47 = .bool N9/\aO (i_.j1 kq l0 a1 a2 dO N9=some r)/\aO (kq<=k1)/\jr w wc)
    case first =>
     have H:=E8.out;clear E8;by_cases c6:0<=dO
     ·rw[if_pos c6]at H
      have tQ:=decide_eq_true c6;clear c6
      (first|rw[tQ]|(simp only[dB,dD];rw[tQ])|skip)
      by_cases c7:((kJ l0 dO).f0)=a1
      ·rw[if_pos c7]at H
       have qE:=beq_iff_eq.mpr c7;have B8:=bne_eq_false_iff_eq.mpr c7;clear c7;by_cases c8:((kJ l0 dO).f1)=a2
       ·rw[if_pos c8]at H
        have ac3:=beq_iff_eq.mpr c8;have ac4:=bne_eq_false_iff_eq.mpr c8;clear c8;have H':=qa H;clear H;have nR:0<=(dO:Int):=of_decide_eq_true (by first|(with_reducible assumption)|assumption);have nS:dO<(l0.length:Int):=of_decide_eq_true (by first|(with_reducible assumption)|assumption);obtain⟨tE,zv,I9,I_,Ja⟩:=pN dY.out dO nR nS;cases zv;replace nR:=eq_true nR;replace nS:=eq_true nS;have uP:0<=(dO:Int):=of_decide_eq_true (by first|(with_reducible assumption)|assumption);have uQ:dO<(l0.length:Int):=of_decide_eq_true (by first|(with_reducible assumption)|assumption);obtain⟨JW,Kj,Sm,Sn,Sp⟩:=pN dY.out dO uP uQ;obtain rfl:tE=JW:=(by injection Kj)
        replace uP:=eq_true uP;replace uQ:=eq_true uQ;go_wp2
        go_meet
        case rel=>exact⟨_,(true),zR,H',⟨by have:=iA.out;first|omega|exact Nat.le_refl _⟩,by repeat(first|exact jr.refl _|apply jr.step)⟩
       ·rw[if_neg c8]at H
        have ac3:=beq_eq_false_iff_ne.mpr c8;have ac4:=bne_iff_ne.mpr c8;by_cases c9:((kJ l0 dO).f0)=a2
        ·rw[if_pos c9]at H
         have OK:=beq_iff_eq.mpr c9;have OL:=bne_eq_false_iff_eq.mpr c9;clear c9;have H':=qa H;clear H;have nR:0<=(dO:Int):=of_decide_eq_true (by first|(with_reducible assumption)|assumption);have nS:dO<(l0.length:Int):=of_decide_eq_true (by first|(with_reducible assumption)|assumption);obtain⟨tE,zv,I9,I_,Ja⟩:=pN dY.out dO nR nS;cases zv;replace nR:=eq_true nR;replace nS:=eq_true nS;have uP:0<=(dO:Int):=of_decide_eq_true (by first|(with_reducible assumption)|assumption);have uQ:dO<(l0.length:Int):=of_decide_eq_true (by first|(with_reducible assumption)|assumption);obtain⟨JW,Kj,Sm,Sn,Sp⟩:=pN dY.out dO uP uQ;obtain rfl:tE=JW:=(by injection Kj)
         replace uP:=eq_true uP;replace uQ:=eq_true uQ;have B9:0<=(dO:Int):=of_decide_eq_true (by first|(with_reducible assumption)|assumption);have B_:dO<(l0.length:Int):=of_decide_eq_true (by first|(with_reducible assumption)|assumption);obtain⟨TT,U6,Y6,Y7,Y8⟩:=pN dY.out dO B9 B_;obtain rfl:tE=TT:=(by injection U6)
         replace B9:=eq_true B9;replace B_:=eq_true B_;have OO:0<=(dO:Int):=of_decide_eq_true (by first|(with_reducible assumption)|assumption);have OP:dO<(l0.length:Int):=of_decide_eq_true (by first|(with_reducible assumption)|assumption);obtain⟨anh,aqG,ai9,ai_,ai'⟩:=pN dY.out dO OO OP;obtain rfl:tE=anh:=(by injection aqG)
         replace OO:=eq_true OO;replace OP:=eq_true OP;go_wp2
         go_meet
         case rel=>exact⟨_,((((kJ l0 dO).f1)==a1)),zR,H',⟨by have:=iA.out;first|omega|exact Nat.le_refl _⟩,by repeat(first|exact jr.refl _|apply jr.step)⟩
        ·rw[if_neg c9]at H
         have OK:=beq_eq_false_iff_ne.mpr c9;have OL:=bne_iff_ne.mpr c9;have H':=qa H;clear H;have nR:0<=(dO:Int):=of_decide_eq_true (by first|(with_reducible assumption)|assumption);have nS:dO<(l0.length:Int):=of_decide_eq_true (by first|(with_reducible assumption)|assumption);obtain⟨tE,zv,I9,I_,Ja⟩:=pN dY.out dO nR nS;cases zv;replace nR:=eq_true nR;replace nS:=eq_true nS;have uP:0<=(dO:Int):=of_decide_eq_true (by first|(with_reducible assumption)|assumption);have uQ:dO<(l0.length:Int):=of_decide_eq_true (by first|(with_reducible assumption)|assumption);obtain⟨JW,Kj,Sm,Sn,Sp⟩:=pN dY.out dO uP uQ;obtain rfl:tE=JW:=(by injection Kj)
         replace uP:=eq_true uP;replace uQ:=eq_true uQ;have B9:0<=(dO:Int):=of_decide_eq_true (by first|(with_reducible assumption)|assumption);have B_:dO<(l0.length:Int):=of_decide_eq_true (by first|(with_reducible assumption)|assumption);obtain⟨TT,U6,Y6,Y7,Y8⟩:=pN dY.out dO B9 B_;obtain rfl:tE=TT:=(by injection U6)
         replace B9:=eq_true B9;replace B_:=eq_true B_;go_wp2
         go_meet
         case rel=>exact⟨_,(false),zR,H',⟨by have:=iA.out;first|omega|exact Nat.le_refl _⟩,by repeat(first|exact jr.refl _|apply jr.step)⟩
      ·rw[if_neg c7]at H
       have qE:=beq_eq_false_iff_ne.mpr c7;have B8:=bne_iff_ne.mpr c7;by_cases c10:((kJ l0 dO).f0)=a2
       ·rw[if_pos c10]at H
        have ot:=beq_iff_eq.mpr c10;have BP:=bne_eq_false_iff_eq.mpr c10;clear c10;have H':=qa H;clear H;have nR:0<=(dO:Int):=of_decide_eq_true (by first|(with_reducible assumption)|assumption);have nS:dO<(l0.length:Int):=of_decide_eq_true (by first|(with_reducible assumption)|assumption);obtain⟨tE,zv,I9,I_,Ja⟩:=pN dY.out dO nR nS;cases zv;replace nR:=eq_true nR;replace nS:=eq_true nS;have Ca:0<=(dO:Int):=of_decide_eq_true (by first|(with_reducible assumption)|assumption);have Cb:dO<(l0.length:Int):=of_decide_eq_true (by first|(with_reducible assumption)|assumption);obtain⟨TU,U7,Y9,Y_,Za⟩:=pN dY.out dO Ca Cb;obtain rfl:tE=TU:=(by injection U7)
        replace Ca:=eq_true Ca;replace Cb:=eq_true Cb;have OQ:0<=(dO:Int):=of_decide_eq_true (by first|(with_reducible assumption)|assumption);have OS:dO<(l0.length:Int):=of_decide_eq_true (by first|(with_reducible assumption)|assumption);obtain⟨ani,aqH,aja,ajb,ajc⟩:=pN dY.out dO OQ OS;obtain rfl:tE=ani:=(by injection aqH)
        replace OQ:=eq_true OQ;replace OS:=eq_true OS;go_wp2
        go_meet
        case rel=>exact⟨_,((((kJ l0 dO).f1)==a1)),zR,H',⟨by have:=iA.out;first|omega|exact Nat.le_refl _⟩,by repeat(first|exact jr.refl _|apply jr.step)⟩
       ·rw[if_neg c10]at H
        have ot:=beq_eq_false_iff_ne.mpr c10;have BP:=bne_iff_ne.mpr c10;have H':=qa H;clear H;have nR:0<=(dO:Int):=of_decide_eq_true (by first|(with_reducible assumption)|assumption);have nS:dO<(l0.length:Int):=of_decide_eq_true (by first|(with_reducible assumption)|assumption);obtain⟨tE,zv,I9,I_,Ja⟩:=pN dY.out dO nR nS;cases zv;replace nR:=eq_true nR;replace nS:=eq_true nS;have Ca:0<=(dO:Int):=of_decide_eq_true (by first|(with_reducible assumption)|assumption);have Cb:dO<(l0.length:Int):=of_decide_eq_true (by first|(with_reducible assumption)|assumption);obtain⟨TU,U7,Y9,Y_,Za⟩:=pN dY.out dO Ca Cb;obtain rfl:tE=TU:=(by injection U7)
        replace Ca:=eq_true Ca;replace Cb:=eq_true Cb;go_wp2
        go_meet
        case rel=>exact⟨_,(false),zR,H',⟨by have:=iA.out;first|omega|exact Nat.le_refl _⟩,by repeat(first|exact jr.refl _|apply jr.step)⟩
     ·rw[if_neg c6]at H
      exact absurd H (by simp)
    case rest =>
     clear E8;try clear c1;try clear c2;try clear p2;try clear q2;try clear hx2;try clear c4;try clear fV;try clear c6;try clear tQ;try clear c7;try clear qE;try clear B8;try clear c8;try clear ac3;try clear ac4;try clear c9;try clear OK;try clear OL;try clear c10;try clear ot;try clear BP;try clear I9;try clear I_;try clear Ja;try clear Sm;try clear Sn;try clear Sp;try clear Y6;try clear Y7;try clear Y8;try clear ai9;try clear ai_;try clear ai';try clear Y9;try clear Y_;try clear Za;try clear aja;try clear ajb;try clear ajc;try clear p2;try clear nR;try clear uP;try clear B9;try clear OO;try clear Ca;try clear OQ;try clear nS;try clear uQ;try clear B_;try clear OP;try clear Cb;try clear OS
     obtain⟨kq,N9,rfl,HA,Wj,⟨mc4,rfl⟩⟩:=hcut;cases kq with
     | zero=>exact absurd HA.out (by simp[i_.j1])
     | succ Wk =>
      have H:=HA.out;clear HA;simp only[i_.j1]at H;by_cases c11:N9=true
      ·subst c11
       rw[if_pos rfl]at H
       obtain rfl:=Option.some.inj H;go_wp2
       go_ret
       exact⟨by first|rfl|(simp;done)|(simp[*];done),by repeat(first|exact jr.refl _|apply jr.step)⟩
      ·replace c11:=Bool.eq_false_iff.mpr c11
       subst c11;rw[if_neg zn]at H
       have H':=qa H;clear H;go_wp2
       go_roundg Wk
       case measure=>have:=iA.out;have:=Wj.out;omega
       case rel=>exact⟨(wrap64 (dO+1)),zR,H',⟨by have:=iA.out;have:=Wj.out;omega⟩,by repeat(first|exact jr.refl _|apply jr.step)⟩
   ·rw[if_neg c4]at H
    have fV:=decide_eq_false c4;clear c4;obtain rfl:=Option.some.inj H;go_wp2
    go_ret
    exact⟨by first|rfl|(simp;done)|(simp[*];done),by repeat(first|exact jr.refl _|apply jr.step)⟩
open Go.Proofs.YtcmepkhjggpmeaaGreat Go.Proofs.YtcmepkhjggpmeaaGreat.aP in
def CX.f (af:Bool) (aa:ByteArray) (aq:Bool) (ak:ByteArray):Option (Bool × ByteArray):=if aa.size<=4000/\ak.size<=4000 then some ((pv ((Nat.gcd (nv aa).toNat (nv ak).toNat:Nat):Int)).1,(pv ((Nat.gcd (nv aa).toNat (nv ak).toNat:Nat):Int)).2) else none
open Go.Proofs.YtcmepkhjggpmeaaGreat Go.Proofs.YtcmepkhjggpmeaaGreat.aP in
theorem CX.calls (af:Bool) (aa:ByteArray) (aq:Bool) (ak:ByteArray) (r1:Bool) (r2:ByteArray) (w:World) (h:CX.f af aa aq ak=some (r1,r2)) :
  Calls Tryz.prog 112 #[.agg #[.bool af,.string aa],.agg #[.bool aq,.string ak]] w fun e w'=>e = .returned (.agg #[.bool r1,.string r2])/\Below w.heap.size w w':=by
 unfold CX.f at h;split at h
 ·rename_i hc
  simp only[Option.some.injEq,Prod.mk.injEq]at h;obtain⟨rfl,rfl⟩:=h;exact Yg _ _ _ _ hc.1 hc.2 w
 ·exact absurd h (by simp)
def C_.f (k:Nat) (af:Bool) (aa aj:ByteArray):Option (Int × Int):=(eN.f k af aa aj).bind fun Cg=>(if Cg=0 then (if af=true then (some ((-1),0)) else (if aa.toList=([]:List UInt8) then (some (0,0)) else (some (1,0)))) else (some (0,Cg)))
theorem C_.calls (k:Nat) (af:Bool) (aa aj:ByteArray) (r1 r2:Int) (w:World) (h:C_.f k af aa aj=some (r1,r2)) :
  Calls Tryz.prog 148 #[.agg #[.bool af,.string aa,.string aj]] w fun e w'=>e = .returned (.tuple #[.int .i64 r1,.int .i64 r2])/\Below w.heap.size w w':=by
 have iL:=Tryz.underlying40;have HB:=qa (Below.refl w.heap.size w);unfold C_.f at h;have H:=h;clear h;obtain⟨Cg,A2,H⟩:=zo H;by_cases c3:Cg=0
 ·rw[if_pos c3]at H
  have Cf:=beq_iff_eq.mpr c3;have aqT:=bne_eq_false_iff_eq.mpr c3;clear c3;by_cases c4:af=true
  ·subst c4
   rw[if_pos rfl]at H
   simp only[Option.some.injEq,Prod.mk.injEq]at H;obtain⟨rfl,rfl⟩:=H;go_enter Tryz.func148,Tryz.ntmps148;go_wp2_with (first|((with_reducible refine aV (N:=1) rfl ?_);refine zY 1 #[.bool true,.string aa,.string aj] 40 ?_;intro T9 hg w5 ah hb;have o7:=qa (ah);have T_:=zG hg HB;have Ua:=zG hg HB;replace HB:=zS HB hb;clear hb ah hg;obtain⟨vR,vS,yI,vT,vU,yJ⟩:=z3 o7)|((with_reducible refine cW (f:=135) rfl ?_);refine zO Tryz.func135 qk (eN.calls k true aa aj Cg _ A2.out) fun w7 hb=>?_;replace o7:=zB o7 hb;replace HB:=zS HB hb;(try clear hb);obtain⟨JF,JG,JH,JI,JJ,JK⟩:=z3 o7))
   go_ret2
   exact⟨zH,zT HB⟩
  ·replace c4:=Bool.eq_false_iff.mpr c4
   subst c4;rw[if_neg zn]at H
   by_cases c9:aa.toList=([]:List UInt8)
   ·rw[if_pos c9]at H
    have OK:=beq_iff_eq.mpr c9;have OL:=bne_eq_false_iff_eq.mpr c9;clear c9;simp only[Option.some.injEq,Prod.mk.injEq]at H;obtain⟨rfl,rfl⟩:=H;go_enter Tryz.func148,Tryz.ntmps148;go_wp2_with (first|((with_reducible refine aV (N:=1) rfl ?_);refine zY 1 #[.bool false,.string aa,.string aj] 40 ?_;intro T9 hg iC ah hb;have o7:=qa (ah);have T_:=zG hg HB;have Ua:=zG hg HB;replace HB:=zS HB hb;clear hb ah hg;obtain⟨qc,qg,qi,qj,qp,qu⟩:=z3 o7)|((with_reducible refine cW (f:=135) rfl ?_);refine zO Tryz.func135 qk (eN.calls k false aa aj Cg _ A2.out) fun iH hb=>?_;replace o7:=zB o7 hb;replace HB:=zS HB hb;(try clear hb);obtain⟨Gg,Gh,Gi,Gj,Gk,Gl⟩:=z3 o7))
    go_ret2
    exact⟨zH,zT HB⟩
   ·rw[if_neg c9]at H
    have OK:=beq_eq_false_iff_ne.mpr c9;have OL:=bne_iff_ne.mpr c9;simp only[Option.some.injEq,Prod.mk.injEq]at H;obtain⟨rfl,rfl⟩:=H;go_enter Tryz.func148,Tryz.ntmps148;go_wp2_with (first|((with_reducible refine aV (N:=1) rfl ?_);refine zY 1 #[.bool false,.string aa,.string aj] 40 ?_;intro T9 hg ue ah hb;have o7:=qa (ah);have T_:=zG hg HB;have Ua:=zG hg HB;replace HB:=zS HB hb;clear hb ah hg;obtain⟨FX,FY,FZ,F0,F2,F3⟩:=z3 o7)|((with_reducible refine cW (f:=135) rfl ?_);refine zO Tryz.func135 qk (eN.calls k false aa aj Cg _ A2.out) fun Wm hb=>?_;replace o7:=zB o7 hb;replace HB:=zS HB hb;(try clear hb);obtain⟨Jt,Ju,Jv,Jw,Jx,Jy⟩:=z3 o7))
    go_ret2
    exact⟨zH,zT HB⟩
 ·rw[if_neg c3]at H
  have Cf:=beq_eq_false_iff_ne.mpr c3;have aqT:=bne_iff_ne.mpr c3;simp only[Option.some.injEq,Prod.mk.injEq]at H;obtain⟨rfl,rfl⟩:=H;go_enter Tryz.func148,Tryz.ntmps148;go_wp2_with (first|((with_reducible refine aV (N:=1) rfl ?_);refine zY 1 #[.bool af,.string aa,.string aj] 40 ?_;intro T9 hg LA ah hb;have o7:=qa (ah);have T_:=zG hg HB;have Ua:=zG hg HB;replace HB:=zS HB hb;clear hb ah hg;obtain⟨yB,yC,Dl,yD,yE,Dm⟩:=z3 o7)|((with_reducible refine cW (f:=135) rfl ?_);refine zO Tryz.func135 qk (eN.calls k af aa aj Cg _ A2.out) fun PJ hb=>?_;replace o7:=zB o7 hb;replace HB:=zS HB hb;(try clear hb)))
  go_ret2
  exact⟨zH,zT HB⟩
def C8.f (k:Nat) (af:Bool) (aa aj:ByteArray):Option (Int):=(C_.f k af aa aj).bind fun anQ=>(some anQ.1)
theorem C8.calls (k:Nat) (af:Bool) (aa aj:ByteArray) (r:Int) (w:World) (h:C8.f k af aa aj=some r) :
  Calls Tryz.prog 119 #[.agg #[.bool af,.string aa,.string aj]] w fun e w'=>e = .returned (.int .i64 r)/\Below w.heap.size w w':=by
 have iL:=Tryz.underlying40;have HB:=qa (Below.refl w.heap.size w);unfold C8.f at h;have H:=h;clear h;obtain⟨⟨aqU,aqV⟩,A2,H⟩:=zo H;try dsimp only at H
 obtain rfl:=Option.some.inj H;go_enter Tryz.func119,Tryz.ntmps119;go_wp2_with (first|((with_reducible refine aV (N:=1) rfl ?_);refine zY 1 #[.bool af,.string aa,.string aj] 40 ?_;intro ayn hg w3 ah hb;have Ub:=qa (ah);have ayo:=zG hg HB;have ayp:=zG hg HB;replace HB:=zS HB hb;clear hb ah hg;obtain⟨Nr,Ns,Nt,Nu,Nv,Nw⟩:=z3 Ub)|((with_reducible refine cW (f:=148) rfl ?_);refine zO Tryz.func148 qk (C_.calls k af aa aj aqU aqV _ A2.out) fun w5 hb=>?_;replace Ub:=zB Ub hb;replace HB:=zS HB hb;(try clear hb)))
 go_ret
 exact⟨zH,zT HB⟩
open Go.Proofs.YtcmepkhjggpmeaaGreat Go.Proofs.YtcmepkhjggpmeaaGreat.aP in
def Fw.f (af:Bool) (aa:ByteArray) (aq:Bool) (ak:ByteArray):Option (Bool × ByteArray × Int):=if aa.size<=15000/\ak.size<=15000 then some ((lJ (·*·) (af,aa) (aq,ak)).1.1,(lJ (·*·) (af,aa) (aq,ak)).1.2,(lJ (·*·) (af,aa) (aq,ak)).2) else none
open Go.Proofs.YtcmepkhjggpmeaaGreat Go.Proofs.YtcmepkhjggpmeaaGreat.aP in
theorem Fw.calls (af:Bool) (aa:ByteArray) (aq:Bool) (ak:ByteArray) (r1:Bool) (r2:ByteArray) (r3:Int) (w:World) (h:Fw.f af aa aq ak=some (r1,r2,r3)) :
  Calls Tryz.prog 100 #[.agg #[.bool af,.string aa],.agg #[.bool aq,.string ak]] w fun e w'=>e = .returned (.tuple #[.agg #[.bool r1,.string r2],.int .i64 r3])/\Below w.heap.size w w':=by
 unfold Fw.f at h;split at h
 ·rename_i hc
  simp only[Option.some.injEq,Prod.mk.injEq]at h;obtain⟨rfl,rfl,rfl⟩:=h;exact(amX (af,aa) (aq,ak) hc.1 hc.2).out w
 ·exact absurd h (by simp)
open Go.Proofs.YtcmepkhjggpmeaaGreat Go.Proofs.YtcmepkhjggpmeaaGreat.aP in
def oP.f (af:Bool) (aa:ByteArray) (aq:Bool) (ak:ByteArray):Option (Bool × ByteArray):=(Fw.f af aa aq ak).map fun r=>(r.1,r.2.1)
open Go.Proofs.YtcmepkhjggpmeaaGreat Go.Proofs.YtcmepkhjggpmeaaGreat.aP in
theorem oP.calls (af:Bool) (aa:ByteArray) (aq:Bool) (ak:ByteArray) (r1:Bool) (r2:ByteArray) (w:World) (h:oP.f af aa aq ak=some (r1,r2)) :
  Calls Tryz.prog 99 #[.func (.func 100) #[] #[],.agg #[.bool af,.string aa],.agg #[.bool aq,.string ak]] w fun e w'=>e = .returned (.agg #[.bool r1,.string r2])/\Below w.heap.size w w':=by
 unfold oP.f at h;obtain⟨⟨x1,x2,x3⟩,hx,he⟩:=Option.map_eq_some_iff.1 h;simp only[Prod.mk.injEq]at he;obtain⟨rfl,rfl⟩:=he;exact aml _ _ _ _ _ _ _ (qh fun w=>Fw.calls _ _ _ _ _ _ _ w hx) w
open Go.Proofs.YtcmepkhjggpmeaaGreat Go.Proofs.YtcmepkhjggpmeaaGreat.aP in
def CW.f (af:Bool) (aa:ByteArray) (aq:Bool) (ak:ByteArray):Option (Bool × ByteArray):=(sH.f af aa aq ak).map fun r=>(r.1,r.2.1)
open Go.Proofs.YtcmepkhjggpmeaaGreat Go.Proofs.YtcmepkhjggpmeaaGreat.aP in
theorem CW.calls (af:Bool) (aa:ByteArray) (aq:Bool) (ak:ByteArray) (r1:Bool) (r2:ByteArray) (w:World) (h:CW.f af aa aq ak=some (r1,r2)) :
  Calls Tryz.prog 99 #[.func (.func 137) #[] #[],.agg #[.bool af,.string aa],.agg #[.bool aq,.string ak]] w fun e w'=>e = .returned (.agg #[.bool r1,.string r2])/\Below w.heap.size w w':=by
 unfold CW.f at h;obtain⟨⟨x1,x2,x3⟩,hx,he⟩:=Option.map_eq_some_iff.1 h;simp only[Prod.mk.injEq]at he;obtain⟨rfl,rfl⟩:=he;exact amm _ _ _ _ _ _ _ (qh fun w=>sH.calls _ _ _ _ _ _ _ w hx) w
def oc.j0:Nat->Bool->ByteArray->Bool->ByteArray->Option (Bool × ByteArray × ByteArray)
 | 0,_,_,_,_=>none
 | k+1,Sy,Sz,Zx,SB=>(CW.f Sy Sz Zx SB).bind fun J3=>(if J3.2.toList=([1]:List UInt8) then (some (Sy,Sz,SB)) else ((yu.f Sy Sz J3.1 J3.2).bind fun abu=>((yu.f Zx SB J3.1 J3.2).bind fun aom=>(some (abu.1,abu.2.1,aom.2.1)))))
def oc.f (k:Nat) (af:Bool) (aa:ByteArray) (aq:Bool) (ak:ByteArray):Option (Bool × ByteArray × ByteArray):=if aq=true then (if af=true then (oc.j0 k false aa false ak) else (oc.j0 k (aa.toList != ([]:List UInt8)) aa false ak)) else (oc.j0 k af aa aq ak)
theorem oc.calls (k:Nat) (af:Bool) (aa:ByteArray) (aq:Bool) (ak:ByteArray) (r1:Bool) (r2 r3:ByteArray) (w:World) (h:oc.f k af aa aq ak=some (r1,r2,r3)) :
  Calls Tryz.prog 102 #[.agg #[.bool af,.string aa],.agg #[.bool aq,.string ak]] w fun e w'=>e = .returned (.agg #[.bool r1,.string r2,.string r3])/\Below w.heap.size w w':=by
 have zk:=Tryz.underlying38;have wK:=xA;have t_:=xB;have hf2:=xC;have hf3:=xD;have iL:=Tryz.underlying40;have HB:=qa (Below.refl w.heap.size w);unfold oc.f at h;have H:=h;clear h;have nX:=qa H;clear H;go_enter Tryz.func102,Tryz.ntmps102;go_upto_if 7 with (first|((with_reducible refine aV (N:=2) rfl ?_);refine zY 2 #[.bool af,.string aa] 38 ?_;intro abv hg w4 ah hb;have iX:=qa (ah);have ayq:=zG hg HB;have ayr:=zG hg HB;replace HB:=zS HB hb;clear hb ah hg)|((with_reducible refine aV (N:=3) rfl ?_);refine zY 3 #[.bool aq,.string ak] 38 ?_;intro aon hg w5 ah hb;have jH:=qa (ah);have ays:=zG hg HB;have ayt:=zG hg HB;obtain⟨IK,IL⟩:=zQ hg iX;replace iX:=zB iX hb;replace HB:=zS HB hb;clear hb ah hg)|((with_reducible refine aV (N:=4) rfl ?_);refine zY 4 #[.bool false,.string ⟨#[]⟩,.string ⟨#[]⟩] 40 ?_;intro Ud hg w6 ah hb;have mq:=qa (ah);have ayu:=zG hg HB;have ayv:=zG hg HB;obtain⟨Mg,Mh⟩:=zQ hg iX;obtain⟨IM,IP⟩:=zQ hg jH;obtain⟨iX,jH⟩:=eX iX jH hb;replace HB:=zS HB hb;clear hb ah hg;have Ew:=IL.out;have Ex:=IK.out;have wo:=IM.out;have wu:=IP.out;obtain⟨vV,vW,vX,vY⟩:=z2 jH))
 (try simp only[Act.put,List.setIfInBounds_toArray,List.set_cons_zero,List.set_cons_succ])
 go_cut [] (fun wc=>∃ (kq:Nat) (C9:Bool) (Fx:Bool),aO (oc.j0 kq C9 aa Fx ak=some (r1,r2,r3))/\aO (kq<=k)/\aO (wc.heap[abv]?=some (.cells #[.bool C9,.string aa] 38 (0,0)))/\aO (wc.heap[aon]?=some (.cells #[.bool Fx,.string ak] 38 (0,0)))/\aO (wc.heap[Ud]?=some (.cells #[.bool false,.string ⟨#[]⟩,.string ⟨#[]⟩] 40 (0,0)))/\aO (Below w.heap.size w wc))
 case first =>
  have H:=nX.out;clear nX;by_cases c10:aq=true
  ·subst c10
   rw[if_pos rfl]at H
   by_cases c11:af=true
   ·subst c11
    rw[if_pos rfl]at H
    have H':=qa H;clear H;have abw:=IK.out;have abx:=IL.out;have Gv:=Mg.out;have Gw:=Mh.out;obtain⟨Jd,Je,Jf,Jg⟩:=z2 iX;have yN:=IM.out;have yO:=IP.out;obtain⟨Bg,Bh,Bi,Bj⟩:=z2 jH;go_wp2
    go_meet
    case rel=>exact⟨_,(false),(false),H',zL,⟨Kx iX⟩,⟨Kx jH⟩,zK mq,⟨zT HB⟩⟩
   ·replace c11:=Bool.eq_false_iff.mpr c11
    subst c11;rw[if_neg zn]at H
    have H':=qa H;clear H;have Ue:=IK.out;have Uf:=IL.out;have JT:=Mg.out;have JU:=Mh.out;obtain⟨yB,yC,yD,yE⟩:=z2 iX;have T5:=IM.out;have T8:=IP.out;obtain⟨Gc,Gd,Ge,Gf⟩:=z2 jH;go_wp2
    go_meet
    case rel=>exact⟨_,((aa.toList != ([]:List UInt8))),(false),H',zL,⟨Kx iX⟩,⟨Kx jH⟩,zK mq,⟨zT HB⟩⟩
  ·replace c10:=Bool.eq_false_iff.mpr c10
   subst c10;rw[if_neg zn]at H
   have H':=qa H;clear H;go_wp2
   go_meet
   case rel=>exact⟨_,(af),(false),H',zL,zK iX,zK jH,zK mq,⟨zT HB⟩⟩
 case rest =>
  clear nX;try clear c1;try clear c2;try clear p2;try clear c7;try clear c8;try clear c10;try clear c11;try clear c12;try clear c13;try clear c15;try clear c17;try clear c18;try clear c20;try clear Jd;try clear Je;try clear Bg;try clear Bh;try clear yB;try clear yC;try clear Gc;try clear Gd;try clear vV;try clear vW;try clear Jf;try clear Jg;try clear Bi;try clear Bj;try clear yD;try clear yE;try clear Ge;try clear Gf;try clear vX;try clear vY
  obtain⟨kq,C9,Fx,HA,qJ,iX,jH,mq,HB⟩:=hcut;cases kq with
  | zero=>exact absurd HA.out (by simp[oc.j0])
  | succ Ih =>
   have H:=HA.out;clear HA;simp only[oc.j0]at H;obtain⟨⟨Kq,Hq⟩,A22,H⟩:=zo H;try dsimp only at H
   by_cases Fg:Hq.toList=([1]:List UInt8)
   ·rw[if_pos Fg]at H
    have aoo:=beq_iff_eq.mpr Fg;have aop:=bne_eq_false_iff_eq.mpr Fg;clear Fg;simp only[Option.some.injEq,Prod.mk.injEq]at H;obtain⟨rfl,rfl,rfl⟩:=H;have aoq:=IK.out;have aor:=IL.out;have aby:=Mg.out;have abz:=Mh.out;obtain⟨ajG,ajH,ajI,ajJ⟩:=z2 iX;have Ug:=IM.out;have Uh:=IP.out;obtain⟨Zy,Zz,ZA,ZB⟩:=z2 jH;go_wp2_with (first|((with_reducible refine cW (f:=99) rfl ?_);refine zO Tryz.func99 qk (CW.calls C9 aa Fx ak Kq Hq _ A22.out) fun Fh hb=>?_;obtain⟨iX,jH,mq⟩:=bC iX jH mq hb;replace HB:=zS HB hb;(try clear hb))|((with_reducible refine aV (N:=5) rfl ?_);refine zY 5 #[.bool false,.string ⟨#[]⟩] 38 ?_;intro abA hg PF ah hb;have BU:=qa (ah);have aos:=zG hg HB;have aot:=zG hg HB;obtain⟨QH,QI⟩:=zQ hg iX;obtain⟨QJ,QK⟩:=zQ hg jH;obtain⟨QL,QM⟩:=zQ hg mq;obtain⟨iX,jH,mq⟩:=bC iX jH mq hb;replace HB:=zS HB hb;clear hb ah hg;have abB:=QI.out;have abC:=QH.out;have abD:=QK.out;have abE:=QJ.out;have ayw:=QM.out;have ayx:=QL.out;obtain⟨ajK,ajL,ajM,ajN⟩:=z2 BU;obtain⟨ZC,ZD,ZE,ZF⟩:=z2 iX;obtain⟨atg,ath,ati,atj⟩:=z2 jH;obtain⟨ajO,ajP,ajQ,ajR,ajS,ajT⟩:=z3 mq))
    refine bodyPost_ret (results_cell_row rfl _ _ Ud 40 #[.bool C9,.string aa,.string ak] (0,0) _ rfl (Kx mq) Tryz.underlying40 rfl qk) rfl ?_;exact⟨zH,zT HB⟩
   ·rw[if_neg Fg]at H
    have aoo:=beq_eq_false_iff_ne.mpr Fg;have aop:=bne_iff_ne.mpr Fg;obtain⟨⟨Vr,Vs,aqW,aqX,aqY⟩,Wu,H⟩:=zo H;try dsimp only at H
    obtain⟨⟨aqZ,ac6,aq0,aq1,aq2⟩,Wv,H⟩:=zo H;try dsimp only at H
    simp only[Option.some.injEq,Prod.mk.injEq]at H;obtain⟨rfl,rfl,rfl⟩:=H;have ayy:=IK.out;have ayz:=IL.out;have abn:=Mg.out;have abo:=Mh.out;obtain⟨ajh,aji,ajj,ajk⟩:=z2 iX;have ayA:=IM.out;have ayB:=IP.out;obtain⟨atk,atl,atm,atn⟩:=z2 jH;go_wp2_with (first|((with_reducible refine cW (f:=99) rfl ?_);refine zO Tryz.func99 qk (CW.calls C9 aa Fx ak Kq Hq _ A22.out) fun CG hb=>?_;obtain⟨iX,jH,mq⟩:=bC iX jH mq hb;replace HB:=zS HB hb;(try clear hb))|((with_reducible refine aV (N:=5) rfl ?_);refine zY 5 #[.bool false,.string ⟨#[]⟩] 38 ?_;intro abA hg xY ah hb;have BU:=qa (ah);have aos:=zG hg HB;have aot:=zG hg HB;obtain⟨QH,QI⟩:=zQ hg iX;obtain⟨QJ,QK⟩:=zQ hg jH;obtain⟨QL,QM⟩:=zQ hg mq;obtain⟨iX,jH,mq⟩:=bC iX jH mq hb;replace HB:=zS HB hb;clear hb ah hg;have aou:=QI.out;have aov:=QH.out;have aow:=QK.out;have aox:=QJ.out;have ayC:=QM.out;have ayD:=QL.out;obtain⟨ajU,ajV,ajW,ajX⟩:=z2 BU;obtain⟨ato,atp,atq,atr⟩:=z2 iX)|((with_reducible refine cW (f:=138) rfl ?_);refine zO Tryz.func138 qk (yu.calls C9 aa Kq Hq Vr Vs aqW aqX aqY _ Wu.out) fun w52 hb=>?_;obtain⟨iX,jH,mq⟩:=bC iX jH mq hb;replace BU:=qa (gP (g:=abA) (o := .cells #[.bool Kq,.string Hq] 38 (0,0)) (Kx BU) hb);replace HB:=zS HB hb;(try clear hb);obtain⟨ajY,ajZ,aj0,aj1⟩:=z2 iX;obtain⟨att,atu,atv,atw⟩:=z2 jH;obtain⟨atx,aty,atz,atA⟩:=z2 BU)|((with_reducible refine cW (f:=138) rfl ?_);refine zO Tryz.func138 qk (yu.calls Fx ak Kq Hq aqZ ac6 aq0 aq1 aq2 _ Wv.out) fun w56 hb=>?_;replace iX:=qa (gP (g:=abv) (o := .cells #[.bool Vr,.string Vs] 38 (0,0)) (Kx iX) hb);obtain⟨jH,mq,BU⟩:=bC jH mq BU hb;replace HB:=zS HB hb;(try clear hb);obtain⟨atB,atC,atD,atE⟩:=z2 jH;obtain⟨aj2,aj3,aj4,aj5⟩:=z2 iX;obtain⟨atF,atG,atH,atI,atJ,atK⟩:=z3 mq))
    refine bodyPost_ret (results_cell_row rfl _ _ Ud 40 #[.bool Vr,.string Vs,.string ac6] (0,0) _ rfl (Kx mq) Tryz.underlying40 rfl qk) rfl ?_;exact⟨zH,zT HB⟩
open Go.Proofs.YtcmepkhjggpmeaaGreat Go.Proofs.YtcmepkhjggpmeaaGreat.aP in
def FC.f (af:Bool) (aa:ByteArray) (aq:Bool) (ak:ByteArray):Option (Bool × ByteArray × Int):=if aa.size<=15000/\ak.size<=15000 then some ((lJ (·-·) (af,aa) (aq,ak)).1.1,(lJ (·-·) (af,aa) (aq,ak)).1.2,(lJ (·-·) (af,aa) (aq,ak)).2) else none
open Go.Proofs.YtcmepkhjggpmeaaGreat Go.Proofs.YtcmepkhjggpmeaaGreat.aP in
theorem FC.calls (af:Bool) (aa:ByteArray) (aq:Bool) (ak:ByteArray) (r1:Bool) (r2:ByteArray) (r3:Int) (w:World) (h:FC.f af aa aq ak=some (r1,r2,r3)) :
  Calls Tryz.prog 164 #[.agg #[.bool af,.string aa],.agg #[.bool aq,.string ak]] w fun e w'=>e = .returned (.tuple #[.agg #[.bool r1,.string r2],.int .i64 r3])/\Below w.heap.size w w':=by
 unfold FC.f at h;split at h
 ·rename_i hc
  simp only[Option.some.injEq,Prod.mk.injEq]at h;obtain⟨rfl,rfl,rfl⟩:=h;exact(amW (af,aa) (aq,ak) hc.1 hc.2).out w
 ·exact absurd h (by simp)
open Go.Proofs.YtcmepkhjggpmeaaGreat Go.Proofs.YtcmepkhjggpmeaaGreat.aP in
def AQ.f (af:Bool) (aa:ByteArray) (aq:Bool) (ak:ByteArray):Option (Bool × ByteArray):=(FC.f af aa aq ak).map fun r=>(r.1,r.2.1)
open Go.Proofs.YtcmepkhjggpmeaaGreat Go.Proofs.YtcmepkhjggpmeaaGreat.aP in
theorem AQ.calls (af:Bool) (aa:ByteArray) (aq:Bool) (ak:ByteArray) (r1:Bool) (r2:ByteArray) (w:World) (h:AQ.f af aa aq ak=some (r1,r2)) :
  Calls Tryz.prog 99 #[.func (.func 164) #[] #[],.agg #[.bool af,.string aa],.agg #[.bool aq,.string ak]] w fun e w'=>e = .returned (.agg #[.bool r1,.string r2])/\Below w.heap.size w w':=by
 unfold AQ.f at h;obtain⟨⟨x1,x2,x3⟩,hx,he⟩:=Option.map_eq_some_iff.1 h;simp only[Prod.mk.injEq]at he;obtain⟨rfl,rfl⟩:=he;exact amo _ _ _ _ _ _ _ (qh fun w=>FC.calls _ _ _ _ _ _ _ w hx) w
def vD.f (a0 a1:Int):Option (Bool × ByteArray × ByteArray × Bool × ByteArray × ByteArray):=(w_.f a0).bind fun Uw=>((w_.f a1).bind fun Ux=>(some (Uw.1,Uw.2.1,Uw.2.2,Ux.1,Ux.2.1,Ux.2.2)))
theorem vD.calls (a0 a1:Int) (r1:Bool) (r2 r3:ByteArray) (r4:Bool) (r5 r6:ByteArray) (w:World) (h:vD.f a0 a1=some (r1,r2,r3,r4,r5,r6)) :
  Calls Tryz.prog 20 #[.int .i64 a0,.int .i64 a1] w fun e w'=>e = .returned (.agg #[.bool r1,.string r2,.string r3,.bool r4,.string r5,.string r6])/\Below w.heap.size w w':=by
 have ng:=Tryz.underlying54;have HB:=qa (Below.refl w.heap.size w);unfold vD.f at h;have H:=h;clear h;obtain⟨⟨aet,aeu,aev⟩,A3,H⟩:=zo H;try dsimp only at H
 obtain⟨⟨aew,aex,aey⟩,A4,H⟩:=zo H;try dsimp only at H
 simp only[Option.some.injEq,Prod.mk.injEq]at H;obtain⟨rfl,rfl,rfl,rfl,rfl,rfl⟩:=H;go_enter Tryz.func20,Tryz.ntmps20;go_wp2_with (first|((with_reducible refine aV (N:=4) rfl ?_);refine zY 4 #[.bool false,.string ⟨#[]⟩,.string ⟨#[]⟩,.bool false,.string ⟨#[]⟩,.string ⟨#[]⟩] 54 ?_;intro apH hg w5 ah hb;have G6:=qa (ah);have azZ:=zG hg HB;have az0:=zG hg HB;replace HB:=zS HB hb;clear hb ah hg)|((with_reducible refine cW (f:=41) rfl ?_);refine zO Tryz.func41 qk (w_.calls a0 aet aeu aev _ A3.out) fun w6 hb=>?_;replace G6:=zB G6 hb;replace HB:=zS HB hb;(try clear hb))|((with_reducible refine cW (f:=41) rfl ?_);refine zO Tryz.func41 qk (w_.calls a1 aew aex aey _ A4.out) fun w7 hb=>?_;replace G6:=zB G6 hb;replace HB:=zS HB hb;(try clear hb);obtain⟨JF,JG,JH,Ta,Tb,Tc,JI,JJ,JK,Td,Te,Tf⟩:=z6 G6))
 refine bodyPost_ret (results_cell_row rfl _ _ apH 54 #[.bool aet,.string aeu,.string aev,.bool aew,.string aex,.string aey] (0,0) _ rfl (Kx G6) Tryz.underlying54 rfl qk) rfl ?_;exact⟨zH,zT HB⟩
end Go.Proofs.aF.R
