import Derived.Test.YtfcjnhkkfmgmpaaGreatZtG24
import Derived.Test.YtfcjnhkkfmgmpaaGreatZtG49
set_option linter.all false
set_option maxRecDepth 100000
set_option maxHeartbeats 8000000
namespace Go.Proofs.aA.R
open Go.RowKit Go.Proofs.aA.Z Go.Proofs.aB.aZ Go.Proofs.aB.bT Go.Proofs.aB.bX
attribute [local go_sem] cm ct cz cA cj ck cu cw
def Ak.f (k:Nat) (af:Bool) (aa aj:ByteArray) (aq:Bool) (ak au:ByteArray):Option (Int):=(gA.f k af aa aj).bind fun t114=>(if t114=0 then ((gA.f k aq ak au).bind fun t115=>(some t115)) else (some t114))
theorem Ak.calls (k:Nat) (af:Bool) (aa aj:ByteArray) (aq:Bool) (ak au:ByteArray) (r:Int) (w:World) (h:Ak.f k af aa aj aq ak au=some r) :
  Calls Tryz.prog 60 #[.agg #[.bool af,.string aa,.string aj],.agg #[.bool aq,.string ak,.string au]] w fun e w'=>e = .returned (.int .i64 r)/\Below w.heap.size w w':=by
 have ji:=Tryz.underlying40;have HB:=qa (Below.refl w.heap.size w);unfold Ak.f at h;have H:=h;clear h;obtain⟨t114,A3,H⟩:=zo H;by_cases c4:t114=0
 ·rw[if_pos c4]at H
  have fW:=beq_iff_eq.mpr c4;have oY:=bne_eq_false_iff_eq.mpr c4;clear c4;obtain⟨t115,A5,H⟩:=zo H;obtain rfl:=Option.some.inj H;go_enter Tryz.func60,Tryz.ntmps60;go_wp2_with (first|((with_reducible refine aR (N:=2) rfl ?_);refine zY 2 #[.bool af,.string aa,.string aj] 40 ?_;intro aqx hg w6 ah hb;have sB:=qa (ah);have aqy:=zG hg HB;have aqz:=zG hg HB;replace HB:=zS HB hb;clear hb ah hg)|((with_reducible refine aR (N:=3) rfl ?_);refine zY 3 #[.bool aq,.string ak,.string au] 40 ?_;intro aqA hg w7 ah hb;have C6:=qa (ah);have aqB:=zG hg HB;have aqC:=zG hg HB;obtain⟨Tw,Tx⟩:=zQ hg sB;replace sB:=zB sB hb;replace HB:=zS HB hb;clear hb ah hg;have zw:=Tw.out;have zx:=Tx.out;obtain⟨yU,yV,CU,yX,yY,CV⟩:=z3 sB)|((with_reducible refine cU (f:=72) rfl ?_);refine zO Tryz.func72 qk (gA.calls k af aa aj t114 _ A3.out) fun gI hb=>?_;obtain⟨sB,C6⟩:=eo sB C6 hb;replace HB:=zS HB hb;(try clear hb);obtain⟨tV,tW,tX,tY,tZ,t_⟩:=z3 C6)|((with_reducible refine cU (f:=72) rfl ?_);refine zO Tryz.func72 qk (gA.calls k aq ak au t115 _ A5.out) fun gh hb=>?_;obtain⟨sB,C6⟩:=eo sB C6 hb;replace HB:=zS HB hb;(try clear hb)))
  go_ret
  exact⟨zH,zT HB⟩
 ·rw[if_neg c4]at H
  have fW:=beq_eq_false_iff_ne.mpr c4;have oY:=bne_iff_ne.mpr c4;obtain rfl:=Option.some.inj H;go_enter Tryz.func60,Tryz.ntmps60;go_wp2_with (first|((with_reducible refine aR (N:=2) rfl ?_);refine zY 2 #[.bool af,.string aa,.string aj] 40 ?_;intro aqx hg oP ah hb;have sB:=qa (ah);have aqy:=zG hg HB;have aqz:=zG hg HB;replace HB:=zS HB hb;clear hb ah hg)|((with_reducible refine aR (N:=3) rfl ?_);refine zY 3 #[.bool aq,.string ak,.string au] 40 ?_;intro aqA hg iq ah hb;have C6:=qa (ah);have aqB:=zG hg HB;have aqC:=zG hg HB;obtain⟨Tw,Tx⟩:=zQ hg sB;replace sB:=zB sB hb;replace HB:=zS HB hb;clear hb ah hg;have FF:=Tw.out;have FH:=Tx.out;obtain⟨EJ,EK,K2,EL,EM,K3⟩:=z3 sB)|((with_reducible refine cU (f:=72) rfl ?_);refine zO Tryz.func72 qk (gA.calls k af aa aj t114 _ A3.out) fun Ee hb=>?_;obtain⟨sB,C6⟩:=eo sB C6 hb;replace HB:=zS HB hb;(try clear hb)))
  go_ret
  exact⟨zH,zT HB⟩
def wV.f (k:Nat) (af:Bool) (aa aj:ByteArray) (aI:Bool) (aJ aK:ByteArray):Option (Int):=(Ak.f k af aa aj aI aJ aK).bind fun t117=>(some t117)
theorem wV.calls (k:Nat) (af:Bool) (aa aj:ByteArray) (aI:Bool) (aJ aK:ByteArray) (r:Int) (w:World) (h:wV.f k af aa aj aI aJ aK=some r) :
  Calls Tryz.prog 44 #[.agg #[.bool af,.string aa,.string aj,.bool aI,.string aJ,.string aK]] w fun e w'=>e = .returned (.int .i64 r)/\Below w.heap.size w w':=by
 have mq:=Tryz.underlying42;have ji:=Tryz.underlying40;have HB:=qa (Below.refl w.heap.size w);unfold wV.f at h;have H:=h;clear h;obtain⟨t117,A2,H⟩:=zo H;obtain rfl:=Option.some.inj H;go_enter Tryz.func44,Tryz.ntmps44;go_wp2_with (first|((with_reducible refine aR (N:=1) rfl ?_);refine zY 1 #[.bool af,.string aa,.string aj,.bool aI,.string aJ,.string aK] 42 ?_;intro azO hg w3 ah hb;have WQ:=qa (ah);have azP:=zG hg HB;have azQ:=zG hg HB;replace HB:=zS HB hb;clear hb ah hg;obtain⟨P_,Qa,Qb,aps,apt,apu,Qc,Qd,Qe,apv,apw,apx⟩:=z6 WQ)|((with_reducible refine cU (f:=60) rfl ?_);refine zO Tryz.func60 qk (Ak.calls k af aa aj aI aJ aK t117 _ A2.out) fun w5 hb=>?_;replace WQ:=zB WQ hb;replace HB:=zS HB hb;(try clear hb)))
 go_ret
 exact⟨zH,zT HB⟩
mutual
def j9.l0:Nat->List (bg)->Int->Option (Int)
 | 0,_,_=>none
 | k+1,x0,x3=>if x3<(x0.length:Int) then (if 0<=x3 then ((vQ.f ((aC x0 x3).f0.f0.f0) ((aC x0 x3).f0.f0.f1) ((aC x0 x3).f0.f1)).bind fun t119=>(if t119=true then (j9.j1 k x0 x3 true) else ((vQ.f ((aC x0 x3).f1.f0.f0) ((aC x0 x3).f1.f0.f1) ((aC x0 x3).f1.f1)).bind fun t121=>(j9.j1 k x0 x3 t121)))) else (none)) else (some 0)
def j9.j1:Nat->List (bg)->Int->Bool->Option (Int)
 | 0,_,_,_=>none
 | k+1,x0,x3,ZA=>if ZA=true then (some 5) else (if 0<=x3 then (if x3<(x0.length:Int) then ((wV.f k ((aC x0 x3).f0.f0.f0) ((aC x0 x3).f0.f0.f1) ((aC x0 x3).f0.f1) ((aC x0 x3).f1.f0.f0) ((aC x0 x3).f1.f0.f1) ((aC x0 x3).f1.f1)).bind fun t123=>(if t123=0 then (j9.l0 k x0 (wrap64 (x3+1))) else (some t123))) else (none)) else (none))
end
def j9.f (k:Nat) (l0:List (bg)):Option (Int):=j9.l0 k l0 0
theorem j9.calls (k:Nat) (A0:Option Addr) (c0:Nat) (l0:List (bg)) (r:Int) (w:World) (dm:Kd.C dX w A0 l0.length l0) (hc0:l0.length<=c0) (h:j9.f k l0=some r) :
  Calls Tryz.prog 18 #[.slice A0 l0.length c0] w fun e w'=>e = .returned (.int .i64 r)/\Below w.heap.size w w':=by
 have ji:=Tryz.underlying40;have mq:=Tryz.underlying42;have eN:=qa dm;have Ac:=qa hc0;clear dm hc0;have HB:=qa (Below.refl w.heap.size w);unfold j9.f at h;have H:=h;clear h;have H':=qa H;clear H;go_enter Tryz.func18,Tryz.ntmps18;go_wp2
 go_loopg [3] k (fun kq v3 w'=>∃ (fH:Int),v3 = .int .i64 fH/\aO (j9.l0 kq l0 fH=some r)/\aO (kq<=k)/\aO (Below w.heap.size w w'))
 case atStart=>exact⟨(0),zR,H',⟨Nat.le_refl _⟩,⟨zT HB⟩⟩
 case round =>
  clear H';try clear c1
  obtain⟨fH,rfl,HA,fL,HB⟩:=hrel;cases gk with
  | zero=>exact absurd HA.out (by simp[j9.l0])
  | succ k1 =>
   have H:=HA.out;clear HA;simp only[j9.l0]at H;by_cases c2:fH<(l0.length:Int)
   ·rw[if_pos c2]at H
    have ur:=decide_eq_true c2;clear c2;have oM:=qa H;clear H;go_upto_region 4 with (fail)
    go_cut [24] (fun v24 wc=>∃ (kq:Nat) (QU:Bool),v24 = .bool QU/\aO (j9.j1 kq l0 fH QU=some r)/\aO (kq<=k1)/\aO (Below w.heap.size w wc))
    case first =>
     have H:=oM.out;clear oM;by_cases c4:0<=fH
     ·rw[if_pos c4]at H
      have fW:=decide_eq_true c4;clear c4
      (first|rw[fW]|(simp only[dL,dM];rw[fW])|skip)
      obtain⟨t119,A5,H⟩:=zo H;by_cases c6:t119=true
      ·subst c6
       rw[if_pos rfl]at H
       have H':=qa H;clear H;have Dl:0<=(fH:Int):=of_decide_eq_true (by first|(with_reducible assumption)|assumption);have Dm:fH<(l0.length:Int):=of_decide_eq_true (by first|(with_reducible assumption)|assumption);obtain⟨aeG,X6,Cz,CA,CB,CC,CD,CE⟩:=oB eN.out fH Dl Dm;cases X6;replace Cz:=(HB.out.cell (World.block_lt_of_cell? w _ Cz)).trans Cz;replace CA:=(HB.out.cell (World.block_lt_of_cell? w _ CA)).trans CA;replace CB:=(HB.out.cell (World.block_lt_of_cell? w _ CB)).trans CB;replace CC:=(HB.out.cell (World.block_lt_of_cell? w _ CC)).trans CC;replace CD:=(HB.out.cell (World.block_lt_of_cell? w _ CD)).trans CD;replace CE:=(HB.out.cell (World.block_lt_of_cell? w _ CE)).trans CE;replace Dl:=eq_true Dl;replace Dm:=eq_true Dm;go_wp2_with (first|((with_reducible refine cU (f:=43) rfl ?_);refine zO Tryz.func43 qk (vQ.calls ((aC l0 fH).f0.f0.f0) ((aC l0 fH).f0.f0.f1) ((aC l0 fH).f0.f1) true _ A5.out) fun w7 hb=>?_;replace HB:=zS HB hb;(try clear hb)))
       go_meet
       case rel=>exact⟨_,(true),zR,H',⟨by have:=fL.out;first|omega|exact Nat.le_refl _⟩,⟨zT HB⟩⟩
      ·replace c6:=Bool.eq_false_iff.mpr c6
       subst c6;rw[if_neg zn]at H
       obtain⟨t121,A8,H⟩:=zo H;have H':=qa H;clear H;have Dl:0<=(fH:Int):=of_decide_eq_true (by first|(with_reducible assumption)|assumption);have Dm:fH<(l0.length:Int):=of_decide_eq_true (by first|(with_reducible assumption)|assumption);obtain⟨aeG,X6,Cz,CA,CB,CC,CD,CE⟩:=oB eN.out fH Dl Dm;cases X6;replace Cz:=(HB.out.cell (World.block_lt_of_cell? w _ Cz)).trans Cz;replace CA:=(HB.out.cell (World.block_lt_of_cell? w _ CA)).trans CA;replace CB:=(HB.out.cell (World.block_lt_of_cell? w _ CB)).trans CB;replace CC:=(HB.out.cell (World.block_lt_of_cell? w _ CC)).trans CC;replace CD:=(HB.out.cell (World.block_lt_of_cell? w _ CD)).trans CD;replace CE:=(HB.out.cell (World.block_lt_of_cell? w _ CE)).trans CE;replace Dl:=eq_true Dl;replace Dm:=eq_true Dm;go_wp2_with (first|((with_reducible refine cU (f:=43) rfl ?_);refine zO Tryz.func43 qk (vQ.calls ((aC l0 fH).f0.f0.f0) ((aC l0 fH).f0.f0.f1) ((aC l0 fH).f0.f1) false _ A5.out) fun w9 hb=>?_;replace HB:=zS HB hb;(try clear hb);have RK:0<=(fH:Int):=of_decide_eq_true (by first|(with_reducible assumption)|assumption);have RM:fH<(l0.length:Int):=of_decide_eq_true (by first|(with_reducible assumption)|assumption);obtain⟨aqD,at',OZ,O3,O4,O5,O6,O7⟩:=oB eN.out fH RK RM;obtain rfl:aeG=aqD:=(by injection at');replace OZ:=(HB.out.cell (World.block_lt_of_cell? w _ OZ)).trans OZ;replace O3:=(HB.out.cell (World.block_lt_of_cell? w _ O3)).trans O3;replace O4:=(HB.out.cell (World.block_lt_of_cell? w _ O4)).trans O4;replace O5:=(HB.out.cell (World.block_lt_of_cell? w _ O5)).trans O5;replace O6:=(HB.out.cell (World.block_lt_of_cell? w _ O6)).trans O6;replace O7:=(HB.out.cell (World.block_lt_of_cell? w _ O7)).trans O7;replace RK:=eq_true RK;replace RM:=eq_true RM)|(go_at_call 43;(with_reducible refine(vQ.calls ((aC l0 fH).f1.f0.f0) ((aC l0 fH).f1.f0.f1) ((aC l0 fH).f1.f1) t121 _ A8.out).mono ?_);rintro e gI ⟨rfl,hb⟩;replace HB:=zS HB hb;(try clear hb)))
       go_meet
       case rel=>exact⟨_,(t121),zR,H',⟨by have:=fL.out;first|omega|exact Nat.le_refl _⟩,⟨zT HB⟩⟩
     ·rw[if_neg c4]at H
      exact absurd H (by simp)
    case rest =>
     clear oM;try clear c1;try clear p1;try clear q1;try clear hx1;try clear c2;try clear ur;try clear p2;try clear c4;try clear fW;try clear c6;try clear Cz;try clear CA;try clear CB;try clear CC;try clear CD;try clear CE;try clear OZ;try clear O3;try clear O4;try clear O5;try clear O6;try clear O7;try clear Dl;try clear RK;try clear Dm;try clear RM
     obtain⟨kq,QU,rfl,HA,BK,HB⟩:=hcut;cases kq with
     | zero=>exact absurd HA.out (by simp[j9.j1])
     | succ J' =>
      have H:=HA.out;clear HA;simp only[j9.j1]at H;by_cases c11:QU=true
      ·subst c11
       rw[if_pos rfl]at H
       obtain rfl:=Option.some.inj H;go_wp2
       go_ret
       exact⟨zH,zT HB⟩
      ·replace c11:=Bool.eq_false_iff.mpr c11
       subst c11;rw[if_neg zn]at H
       by_cases c12:0<=fH
       ·rw[if_pos c12]at H
        have aeH:=decide_eq_true c12;clear c12;by_cases c13:fH<(l0.length:Int)
        ·rw[if_pos c13]at H
         have L_:=decide_eq_true c13;clear c13;obtain⟨t123,A14,H⟩:=zo H;by_cases c15:t123=0
         ·rw[if_pos c15]at H
          have C7:=beq_iff_eq.mpr c15;have QV:=bne_eq_false_iff_eq.mpr c15;clear c15;have H':=qa H;clear H;have F9:0<=(fH:Int):=of_decide_eq_true (by first|(with_reducible assumption)|assumption);have F_:fH<(l0.length:Int):=of_decide_eq_true (by first|(with_reducible assumption)|assumption);obtain⟨aqE,X7,EN,EO,EP,ER,ES,ET⟩:=oB eN.out fH F9 F_;cases X7;replace EN:=(HB.out.cell (World.block_lt_of_cell? w _ EN)).trans EN;replace EO:=(HB.out.cell (World.block_lt_of_cell? w _ EO)).trans EO;replace EP:=(HB.out.cell (World.block_lt_of_cell? w _ EP)).trans EP;replace ER:=(HB.out.cell (World.block_lt_of_cell? w _ ER)).trans ER;replace ES:=(HB.out.cell (World.block_lt_of_cell? w _ ES)).trans ES;replace ET:=(HB.out.cell (World.block_lt_of_cell? w _ ET)).trans ET;replace F9:=eq_true F9;replace F_:=eq_true F_;go_wp2_with (first|((with_reducible refine cU (f:=44) rfl ?_);refine zO Tryz.func44 qk (wV.calls J' ((aC l0 fH).f0.f0.f0) ((aC l0 fH).f0.f0.f1) ((aC l0 fH).f0.f1) ((aC l0 fH).f1.f0.f0) ((aC l0 fH).f1.f0.f1) ((aC l0 fH).f1.f1) t123 _ A14.out) fun wQ hb=>?_;replace HB:=zS HB hb;(try clear hb)))
          go_roundg J'
          case measure=>have:=fL.out;have:=BK.out;omega
          case rel=>exact⟨(wrap64 (fH+1)),zR,H',⟨by have:=fL.out;have:=BK.out;omega⟩,⟨zT HB⟩⟩
         ·rw[if_neg c15]at H
          have C7:=beq_eq_false_iff_ne.mpr c15;have QV:=bne_iff_ne.mpr c15;obtain rfl:=Option.some.inj H;have F9:0<=(fH:Int):=of_decide_eq_true (by first|(with_reducible assumption)|assumption);have F_:fH<(l0.length:Int):=of_decide_eq_true (by first|(with_reducible assumption)|assumption);obtain⟨aqE,X7,EN,EO,EP,ER,ES,ET⟩:=oB eN.out fH F9 F_;cases X7;replace EN:=(HB.out.cell (World.block_lt_of_cell? w _ EN)).trans EN;replace EO:=(HB.out.cell (World.block_lt_of_cell? w _ EO)).trans EO;replace EP:=(HB.out.cell (World.block_lt_of_cell? w _ EP)).trans EP;replace ER:=(HB.out.cell (World.block_lt_of_cell? w _ ER)).trans ER;replace ES:=(HB.out.cell (World.block_lt_of_cell? w _ ES)).trans ES;replace ET:=(HB.out.cell (World.block_lt_of_cell? w _ ET)).trans ET;replace F9:=eq_true F9;replace F_:=eq_true F_;go_wp2_with (first|((with_reducible refine cU (f:=44) rfl ?_);refine zO Tryz.func44 qk (wV.calls J' ((aC l0 fH).f0.f0.f0) ((aC l0 fH).f0.f0.f1) ((aC l0 fH).f0.f1) ((aC l0 fH).f1.f0.f0) ((aC l0 fH).f1.f0.f1) ((aC l0 fH).f1.f1) t123 _ A14.out) fun Ee hb=>?_;replace HB:=zS HB hb;(try clear hb)))
          go_ret
          exact⟨zH,zT HB⟩
        ·rw[if_neg c13]at H
         exact absurd H (by simp)
       ·rw[if_neg c12]at H
        exact absurd H (by simp)
   ·rw[if_neg c2]at H
    have ur:=decide_eq_false c2;clear c2;obtain rfl:=Option.some.inj H;go_wp2
    go_ret
    exact⟨zH,zT HB⟩
theorem ast (d:Nat) (w:World) (x0 y0:Bool) (x1 y1:ByteArray) :
  (Op.equalIn (d+2) 38 (.agg #[.bool x0,.string x1]) (.agg #[.bool y0,.string y1])).run Tryz.prog w = .ok (x0==y0&&(x1.toList==y1.toList)) w:=by
 refine PY Tryz.underlying38 qk ?_;refine KN (by rfl) (by go_simp;rfl) (by go_simp;rfl) (by go_simp) ?_;exact OB (by rfl) (by go_simp;rfl) (by go_simp;rfl) (by go_simp)
theorem afM (d:Nat) (w:World) (x0 y0:Bool) (x1 y1 x2 y2:ByteArray) :
  (Op.equalIn (d+3) 40 (.agg #[.bool x0,.string x1,.string x2]) (.agg #[.bool y0,.string y1,.string y2])).run Tryz.prog w = .ok ((x0==y0&&(x1.toList==y1.toList))&&(x2.toList==y2.toList)) w:=by
 refine PY Tryz.underlying40 qk ?_;refine KN (by rfl) (by go_simp) (by go_simp) (ast (d+0) w _ _ _ _) ?_;exact OB (by rfl) (by go_simp;rfl) (by go_simp;rfl) (by go_simp)
theorem afN (d:Nat) (w:World) (x0 y0:Bool) (x1 y1 x2 y2:ByteArray) (x3 y3:Bool) (x4 y4 x5 y5:ByteArray) :
  (Op.equalIn (d+4) 42 (.agg #[.bool x0,.string x1,.string x2,.bool x3,.string x4,.string x5]) (.agg #[.bool y0,.string y1,.string y2,.bool y3,.string y4,.string y5])).run Tryz.prog w = .ok (((x0==y0&&(x1.toList==y1.toList))&&(x2.toList==y2.toList))&&(((x3==y3&&(x4.toList==y4.toList))&&(x5.toList==y5.toList)))) w:=by
 refine PY Tryz.underlying42 qk ?_;refine KN (by rfl) (by go_simp) (by go_simp) (afM (d+0) w _ _ _ _ _ _) ?_;exact OB (by rfl) (by go_simp) (by go_simp) (afM (d+0) w _ _ _ _ _ _)
def Fp.f (k:Nat) (af:Bool) (aa aj:ByteArray) (aI:Bool) (aJ aK:ByteArray) (aq:Bool) (ak au:ByteArray) (aL:Bool) (aM aN:ByteArray) (aV:Bool) (aW aX:ByteArray) (bC:Bool) (bD bE:ByteArray):Option (Bool):=(l_.f k af aa aj aI aJ aK aq ak au aL aM aN aV aW aX bC bD bE).bind fun M4=>(if M4=0 then ((qT.f k af aa aj aI aJ aK aq ak au aL aM aN aV aW aX bC bD bE).bind fun YN=>(some (decide (YN≥0)))) else (some false))
theorem Fp.calls (k:Nat) (af:Bool) (aa aj:ByteArray) (aI:Bool) (aJ aK:ByteArray) (aq:Bool) (ak au:ByteArray) (aL:Bool) (aM aN:ByteArray) (aV:Bool) (aW aX:ByteArray) (bC:Bool) (bD bE:ByteArray) (r:Bool) (w:World) (h:Fp.f k af aa aj aI aJ aK aq ak au aL aM aN aV aW aX bC bD bE=some r) :
  Calls Tryz.prog 58 #[.agg #[.bool af,.string aa,.string aj,.bool aI,.string aJ,.string aK],.agg #[.bool aq,.string ak,.string au,.bool aL,.string aM,.string aN],.agg #[.bool aV,.string aW,.string aX,.bool bC,.string bD,.string bE]] w fun e w'=>e = .returned (.bool r)/\Below w.heap.size w w':=by
 have mq:=Tryz.underlying42;have HB:=qa (Below.refl w.heap.size w);unfold Fp.f at h;have H:=h;clear h;obtain⟨M4,A4,H⟩:=zo H;by_cases c5:M4=0
 ·rw[if_pos c5]at H
  have xI:=beq_iff_eq.mpr c5;have Bd:=bne_eq_false_iff_eq.mpr c5;clear c5;obtain⟨YN,A6,H⟩:=zo H;obtain rfl:=Option.some.inj H;go_enter Tryz.func58,Tryz.ntmps58;go_wp2_with (first|((with_reducible refine aR (N:=3) rfl ?_);refine zY 3 #[.bool af,.string aa,.string aj,.bool aI,.string aJ,.string aK] 42 ?_;intro asZ hg w7 ah hb;have nG:=qa (ah);have as0:=zG hg HB;have as1:=zG hg HB;replace HB:=zS HB hb;clear hb ah hg)|((with_reducible refine aR (N:=4) rfl ?_);refine zY 4 #[.bool aq,.string ak,.string au,.bool aL,.string aM,.string aN] 42 ?_;intro as2 hg w8 ah hb;have q_:=qa (ah);have as3:=zG hg HB;have as4:=zG hg HB;obtain⟨Uv,Uw⟩:=zQ hg nG;replace nG:=zB nG hb;replace HB:=zS HB hb;clear hb ah hg)|((with_reducible refine aR (N:=5) rfl ?_);refine zY 5 #[.bool aV,.string aW,.string aX,.bool bC,.string bD,.string bE] 42 ?_;intro as5 hg w9 ah hb;have zl:=qa (ah);have as6:=zG hg HB;have as7:=zG hg HB;obtain⟨Ux,Uy⟩:=zQ hg nG;obtain⟨Uz,UA⟩:=zQ hg q_;obtain⟨nG,q_⟩:=eo nG q_ hb;replace HB:=zS HB hb;clear hb ah hg;have wk:=Uv.out;have wm:=Uw.out;have I4:=Ux.out;have I5:=Uy.out;obtain⟨Ct,Cu,Cv,PC,PD,PE,Cw,Cx,Cy,PF,PG,PI⟩:=z6 nG;have C3:=Uz.out;have C4:=UA.out;obtain⟨CK,CL,IF,PJ,PK,PL,CN,CO,IG,PM,PN,PO⟩:=z6 q_;obtain⟨Ax,Ay,Az,VM,VN,VO,AA,AB,AD,VP,VS,VT⟩:=z6 zl)|((with_reducible refine cU (f:=57) rfl ?_);refine zO Tryz.func57 qk (l_.calls k af aa aj aI aJ aK aq ak au aL aM aN aV aW aX bC bD bE M4 _ A4.out) fun wQ hb=>?_;obtain⟨nG,q_,zl⟩:=bB nG q_ zl hb;replace HB:=zS HB hb;(try clear hb);obtain⟨Ln,Lo,Lp,acQ,acR,acS,Lr,Ls,Lt,acT,acU,acV⟩:=z6 nG;obtain⟨LD,LF,LG,acE,acF,acG,LH,LI,LJ,acH,acI,acJ⟩:=z6 q_;obtain⟨xk,xm,AF,acK,acL,acM,xp,xq,AG,acN,acO,acP⟩:=z6 zl)|(go_at_call 70;(with_reducible refine(qT.calls k af aa aj aI aJ aK aq ak au aL aM aN aV aW aX bC bD bE YN _ A6.out).mono ?_);rintro e wR ⟨rfl,hb⟩;obtain⟨nG,q_,zl⟩:=bB nG q_ zl hb;replace HB:=zS HB hb;(try clear hb)))
  go_ret
  exact⟨zH,zT HB⟩
 ·rw[if_neg c5]at H
  have xI:=beq_eq_false_iff_ne.mpr c5;have Bd:=bne_iff_ne.mpr c5;obtain rfl:=Option.some.inj H;go_enter Tryz.func58,Tryz.ntmps58;go_wp2_with (first|((with_reducible refine aR (N:=3) rfl ?_);refine zY 3 #[.bool af,.string aa,.string aj,.bool aI,.string aJ,.string aK] 42 ?_;intro asZ hg tI ah hb;have nG:=qa (ah);have as0:=zG hg HB;have as1:=zG hg HB;replace HB:=zS HB hb;clear hb ah hg)|((with_reducible refine aR (N:=4) rfl ?_);refine zY 4 #[.bool aq,.string ak,.string au,.bool aL,.string aM,.string aN] 42 ?_;intro as2 hg Ki ah hb;have q_:=qa (ah);have as3:=zG hg HB;have as4:=zG hg HB;obtain⟨Uv,Uw⟩:=zQ hg nG;replace nG:=zB nG hb;replace HB:=zS HB hb;clear hb ah hg)|((with_reducible refine aR (N:=5) rfl ?_);refine zY 5 #[.bool aV,.string aW,.string aX,.bool bC,.string bD,.string bE] 42 ?_;intro as5 hg BQ ah hb;have zl:=qa (ah);have as6:=zG hg HB;have as7:=zG hg HB;obtain⟨Ux,Uy⟩:=zQ hg nG;obtain⟨Uz,UA⟩:=zQ hg q_;obtain⟨nG,q_⟩:=eo nG q_ hb;replace HB:=zS HB hb;clear hb ah hg;have Q5:=Uv.out;have Q6:=Uw.out;have Mf:=Ux.out;have Mg:=Uy.out;obtain⟨Pc,Pd,VK,aoP,aoQ,aoR,Pe,Pf,VL,aoS,aoT,aoU⟩:=z6 nG;have FN:=Uz.out;have FO:=UA.out;obtain⟨Lu,Lz,Pu,aoV,aoW,aoX,LA,LC,Pv,aoY,aoZ,ao0⟩:=z6 q_;obtain⟨K5,K6,K7,Pw,Px,Py,K8,K9,K_,Pz,PA,PB⟩:=z6 zl)|((with_reducible refine cU (f:=57) rfl ?_);refine zO Tryz.func57 qk (l_.calls k af aa aj aI aJ aK aq ak au aL aM aN aV aW aX bC bD bE M4 _ A4.out) fun Kg hb=>?_;obtain⟨nG,q_,zl⟩:=bB nG q_ zl hb;replace HB:=zS HB hb;(try clear hb)))
  go_ret
  exact⟨zH,zT HB⟩
end Go.Proofs.aA.R
