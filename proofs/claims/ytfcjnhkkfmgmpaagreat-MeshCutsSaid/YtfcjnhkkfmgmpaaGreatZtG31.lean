import Derived.Test.YtfcjnhkkfmgmpaaGreatZtG22
set_option linter.all false
set_option maxRecDepth 100000
set_option maxHeartbeats 8000000
namespace Go.Proofs.aA.R
open Go.RowKit Go.Proofs.aA.Z Go.Proofs.aB.aZ Go.Proofs.aB.bT Go.Proofs.aB.bX
attribute [local go_sem] cm ct cz cA cj ck cu cw
def j_.l0:Nat->List (aF)->Int->Int->Option (Int)
 | 0,_,_,_=>none
 | k+1,x6,x7,x8=>if x8<x7 then (if 0<=x8 then (if x8<(x6.length:Int) then ((fA.f k ((fE x6 x8).f0.f0) ((fE x6 x8).f0.f1) ((fE x6 x8).f1)).bind fun t240=>(if t240=0 then (j_.l0 k x6 x7 (wrap64 (x8+1))) else (some t240))) else (none)) else (none)) else (some 0)
def j_.f (k:Nat) (l0:List (aF)):Option (Int):=j_.l0 k l0 (l0.length:Int) 0
theorem j_.calls (k:Nat) (A0:Option Addr) (c0:Nat) (l0:List (aF)) (r:Int) (w:World) (dm:Kd.C jc w A0 l0.length l0) (hc0:l0.length<=c0) (h:j_.f k l0=some r) :
  Calls Tryz.prog 79 #[.slice A0 l0.length c0] w fun e w'=>e = .returned (.int .i64 r)/\Below w.heap.size w w':=by
 have ji:=Tryz.underlying40;have eN:=qa dm;have Ac:=qa hc0;clear dm hc0;have HB:=qa (Below.refl w.heap.size w);unfold j_.f at h;have H:=h;clear h;have H':=qa H;clear H;go_enter Tryz.func79,Tryz.ntmps79;go_wp2
 go_loopg [8] k (fun kq v8 w'=>∃ (dy:Int),v8 = .int .i64 dy/\aO (j_.l0 kq l0 (l0.length:Int) dy=some r)/\aO (kq<=k)/\aO (Below w.heap.size w w'))
 case atStart=>exact⟨(0),zR,H',⟨Nat.le_refl _⟩,⟨zT HB⟩⟩
 case round =>
  clear H';obtain⟨dy,rfl,HA,fL,HB⟩:=hrel;cases gk with
  | zero=>exact absurd HA.out (by simp[j_.l0])
  | succ k1 =>
   have H:=HA.out;clear HA;simp only[j_.l0]at H;by_cases c2:dy<(l0.length:Int)
   ·rw[if_pos c2]at H
    have ur:=decide_eq_true c2;clear c2;by_cases c3:0<=dy
    ·rw[if_pos c3]at H
     have vw:=decide_eq_true c3;clear c3;by_cases c4:dy<(l0.length:Int)
     ·rw[if_pos c4]at H
      have fW:=decide_eq_true c4;clear c4;obtain⟨t240,A5,H⟩:=zo H;by_cases c6:t240=0
      ·rw[if_pos c6]at H
       have sS:=beq_iff_eq.mpr c6;have Bh:=bne_eq_false_iff_eq.mpr c6;clear c6;have H':=qa H;clear H;have Ga:0<=(dy:Int):=of_decide_eq_true (by first|(with_reducible assumption)|assumption);have Gb:dy<(l0.length:Int):=of_decide_eq_true (by first|(with_reducible assumption)|assumption);obtain⟨aqR,X9,EV,EW,EX⟩:=V6 eN.out dy Ga Gb;cases X9;replace EV:=(HB.out.cell (World.block_lt_of_cell? w _ EV)).trans EV;replace EW:=(HB.out.cell (World.block_lt_of_cell? w _ EW)).trans EW;replace EX:=(HB.out.cell (World.block_lt_of_cell? w _ EX)).trans EX;replace Ga:=eq_true Ga;replace Gb:=eq_true Gb;go_wp2_with (first|((with_reducible refine aR (N:=4) rfl ?_);refine zY 4 #[.bool false,.string ⟨#[]⟩,.string ⟨#[]⟩] 40 ?_;intro WR hg w7 ah hb;have FL:=qa (ah);have aqS:=zG hg HB;have aqT:=zG hg HB;replace HB:=zS HB hb;clear hb ah hg;obtain⟨Qj,Qk,Ql,Qm,Qn,Qo⟩:=z3 FL)|((with_reducible refine cU (f:=95) rfl ?_);refine zO Tryz.func95 qk (fA.calls k1 ((fE l0 dy).f0.f0) ((fE l0 dy).f0.f1) ((fE l0 dy).f1) t240 _ A5.out) fun w9 hb=>?_;replace FL:=qa (eW (g:=WR) (o := .cells #[.bool ((fE l0 dy).f0.f0),.string ((fE l0 dy).f0.f1),.string ((fE l0 dy).f1)] 40 (0,0)) (Kx FL) hb);replace HB:=zS HB hb;(try clear hb)))
       go_roundg k1
       case measure=>have:=fL.out;omega
       case rel=>exact⟨(wrap64 (dy+1)),zR,H',⟨by have:=fL.out;omega⟩,⟨zT HB⟩⟩
      ·rw[if_neg c6]at H
       have sS:=beq_eq_false_iff_ne.mpr c6;have Bh:=bne_iff_ne.mpr c6;obtain rfl:=Option.some.inj H;have Ga:0<=(dy:Int):=of_decide_eq_true (by first|(with_reducible assumption)|assumption);have Gb:dy<(l0.length:Int):=of_decide_eq_true (by first|(with_reducible assumption)|assumption);obtain⟨aqR,X9,EV,EW,EX⟩:=V6 eN.out dy Ga Gb;cases X9;replace EV:=(HB.out.cell (World.block_lt_of_cell? w _ EV)).trans EV;replace EW:=(HB.out.cell (World.block_lt_of_cell? w _ EW)).trans EW;replace EX:=(HB.out.cell (World.block_lt_of_cell? w _ EX)).trans EX;replace Ga:=eq_true Ga;replace Gb:=eq_true Gb;go_wp2_with (first|((with_reducible refine aR (N:=4) rfl ?_);refine zY 4 #[.bool false,.string ⟨#[]⟩,.string ⟨#[]⟩] 40 ?_;intro WR hg gI ah hb;have FL:=qa (ah);have aqS:=zG hg HB;have aqT:=zG hg HB;replace HB:=zS HB hb;clear hb ah hg;obtain⟨tV,tW,tX,tY,tZ,t_⟩:=z3 FL)|((with_reducible refine cU (f:=95) rfl ?_);refine zO Tryz.func95 qk (fA.calls k1 ((fE l0 dy).f0.f0) ((fE l0 dy).f0.f1) ((fE l0 dy).f1) t240 _ A5.out) fun gh hb=>?_;replace FL:=qa (eW (g:=WR) (o := .cells #[.bool ((fE l0 dy).f0.f0),.string ((fE l0 dy).f0.f1),.string ((fE l0 dy).f1)] 40 (0,0)) (Kx FL) hb);replace HB:=zS HB hb;(try clear hb)))
       go_ret
       exact⟨zH,zT HB⟩
     ·rw[if_neg c4]at H
      exact absurd H (by simp)
    ·rw[if_neg c3]at H
     exact absurd H (by simp)
   ·rw[if_neg c2]at H
    have ur:=decide_eq_false c2;clear c2;obtain rfl:=Option.some.inj H;go_wp2
    go_ret
    exact⟨zH,zT HB⟩
def uJ.f (k:Nat) (af:Bool) (aa aj:ByteArray) (aI:Bool) (aJ aK:ByteArray):Option (Int):=(j_.f k (([(⟨(⟨af,aa⟩:aG),aj⟩:aF),(⟨(⟨aI,aJ⟩:aG),aK⟩:aF)]:List (aF)))).bind fun t245=>(some t245)
theorem uJ.calls (k:Nat) (af:Bool) (aa aj:ByteArray) (aI:Bool) (aJ aK:ByteArray) (r:Int) (w:World) (h:uJ.f k af aa aj aI aJ aK=some r) :
  Calls Tryz.prog 66 #[.agg #[.bool af,.string aa,.string aj,.bool aI,.string aJ,.string aK]] w fun e w'=>e = .returned (.int .i64 r)/\Below w.heap.size w w':=by
 have mq:=Tryz.underlying42;have ji:=Tryz.underlying40;have HB:=qa (Below.refl w.heap.size w);unfold uJ.f at h;have H:=h;clear h;obtain⟨X_,Ma⟩:∃ y_:List (aF),y_=(([(⟨(⟨af,aa⟩:aG),aj⟩:aF),(⟨(⟨aI,aJ⟩:aG),aK⟩:aF)]:List (aF))):=⟨_,rfl⟩
 replace H:((j_.f k X_).bind fun t245=>(some t245))=some r:=by first|(rw[Ma];with_reducible exact H)|(have jP:=(Option.bind_some _ _).symm.trans H;rw[Ma];with_reducible exact jP)|(have jP:=(Option.bind_some _ _).symm.trans H;with_reducible exact jP)|with_reducible exact H|(rw[Ma];exact H)|exact H
 have aeQ:=qa Ma;clear Ma;obtain⟨t245,A2,H⟩:=zo H;obtain rfl:=Option.some.inj H;go_enter Tryz.func66,Tryz.ntmps66;go_wp2_with (first|((with_reducible refine aR (N:=1) rfl ?_);refine zY 1 #[.bool af,.string aa,.string aj,.bool aI,.string aJ,.string aK] 42 ?_;intro az0 hg w3 ah hb;have Mb:=qa (ah);have az1:=zG hg HB;have az2:=zG hg HB;replace HB:=zS HB hb;clear hb ah hg;obtain⟨P_,Qa,Qb,aps,apt,apu,Qc,Qd,Qe,apv,apw,apx⟩:=z6 Mb)|((with_reducible refine aR (N:=7) rfl ?_);refine Kd.uf jc _ 40 ?hg (N:=7) ?hd (xs:=([(⟨(⟨af,aa⟩:aG),aj⟩:aF),(⟨(⟨aI,aJ⟩:aG),aK⟩:aF)]:List (aF))) (inner:=[.bool af,.string aa,.string aj,.bool aI,.string aJ,.string aK]) (ok:=fun _=>True) (qE:=fun _=>True) ?hr ?hp (fun _ hk=>hk) trivial (Below.refl _ _) (Nat.le_refl _) (by simp) ?_;(case hd=>rfl);(case hg=>rfl);(case hr=>first|(go_simp;done)|(go_simp;rfl));(case hp=>exact(bz.c3 (show Kd.M jc _ _ _ (⟨(⟨af,aa⟩:aG),aj⟩:aF) [.bool af,.string aa,.string aj] from(ni _ _ _ (⟨(⟨af,aa⟩:aG),aj⟩:aF) )) (bz.c3 (show Kd.M jc _ _ _ (⟨(⟨aI,aJ⟩:aG),aK⟩:aF) [.bool aI,.string aJ,.string aK] from(ni _ _ _ (⟨(⟨aI,aJ⟩:aG),aK⟩:aF) )) (bz.none _ _))));intro aCb w5 N0 hb lp k5;clear lp k5;(first|rw[<- aeQ.out]at N0|(simp only[Int.reduceToNat]at N0;rw[<- aeQ.out]at N0));have Mc:=qa (Kd.sq N0 (rO (zT HB)));replace Mb:=zB Mb hb;replace HB:=zS HB hb;clear hb N0;obtain⟨Ao7,co7,eo7⟩:=Kd.tT Mc.out;subst eo7)|((with_reducible refine cU (f:=79) rfl ?_);refine zC Tryz.func79 qk #[.slice Ao7 X_.length co7] ?_;(with_reducible refine(j_.calls k _ _ X_ t245 _ ?lQ ?lR A2.out).mono ?_);(case lQ=>repeat(first|exact(Kd.kX Mc.out).2.2|(with_reducible refine Kd.uM ?_ _)|(with_reducible refine Kd.uN ?_ _)|(with_reducible refine Kd.uQ ?_)));(case lR=>exact(Kd.kX Mc.out).2.1);rintro e w8 ⟨rfl,hb⟩;refine⟨_,rfl,?_⟩;replace Mc:=qa (Kd.jY (by (with_reducible repeat(first|apply Kd.jJ|apply Kd.jK|apply Kd.jf));exact Mc.out) hb);replace Mb:=zB Mb hb;replace HB:=zS HB hb;(try clear hb)))
 go_ret
 exact⟨zH,zT HB⟩
def nO.l0:Nat->List (bg)->Int->Int->Option (Int)
 | 0,_,_,_=>none
 | k+1,x6,x7,x8=>if x8<x7 then (if 0<=x8 then (if x8<(x6.length:Int) then ((uJ.f k ((aC x6 x8).f0.f0.f0) ((aC x6 x8).f0.f0.f1) ((aC x6 x8).f0.f1) ((aC x6 x8).f1.f0.f0) ((aC x6 x8).f1.f0.f1) ((aC x6 x8).f1.f1)).bind fun JP=>(if JP=0 then (nO.l0 k x6 x7 (wrap64 (x8+1))) else (some JP))) else (none)) else (none)) else (some 0)
def nO.f (k:Nat) (l0:List (bg)):Option (Int):=nO.l0 k l0 (l0.length:Int) 0
theorem nO.calls (k:Nat) (A0:Option Addr) (c0:Nat) (l0:List (bg)) (r:Int) (w:World) (dm:Kd.C dX w A0 l0.length l0) (hc0:l0.length<=c0) (h:nO.f k l0=some r) :
  Calls Tryz.prog 96 #[.slice A0 l0.length c0] w fun e w'=>e = .returned (.int .i64 r)/\Below w.heap.size w w':=by
 have mq:=Tryz.underlying42;have eN:=qa dm;have Ac:=qa hc0;clear dm hc0;have HB:=qa (Below.refl w.heap.size w);unfold nO.f at h;have H:=h;clear h;have H':=qa H;clear H;go_enter Tryz.func96,Tryz.ntmps96;go_wp2
 go_loopg [8] k (fun kq v8 w'=>∃ (dy:Int),v8 = .int .i64 dy/\aO (nO.l0 kq l0 (l0.length:Int) dy=some r)/\aO (kq<=k)/\aO (Below w.heap.size w w'))
 case atStart=>exact⟨(0),zR,H',⟨Nat.le_refl _⟩,⟨zT HB⟩⟩
 case round =>
  clear H';obtain⟨dy,rfl,HA,fL,HB⟩:=hrel;cases gk with
  | zero=>exact absurd HA.out (by simp[nO.l0])
  | succ k1 =>
   have H:=HA.out;clear HA;simp only[nO.l0]at H;by_cases c2:dy<(l0.length:Int)
   ·rw[if_pos c2]at H
    have ur:=decide_eq_true c2;clear c2;by_cases c3:0<=dy
    ·rw[if_pos c3]at H
     have vw:=decide_eq_true c3;clear c3;by_cases c4:dy<(l0.length:Int)
     ·rw[if_pos c4]at H
      have fW:=decide_eq_true c4;clear c4;obtain⟨JP,A5,H⟩:=zo H;by_cases c6:JP=0
      ·rw[if_pos c6]at H
       have sS:=beq_iff_eq.mpr c6;have Bh:=bne_eq_false_iff_eq.mpr c6;clear c6;have H':=qa H;clear H;have Gd:0<=(dy:Int):=of_decide_eq_true (by first|(with_reducible assumption)|assumption);have Ge:dy<(l0.length:Int):=of_decide_eq_true (by first|(with_reducible assumption)|assumption);obtain⟨aqZ,Yb,E_,Fa,Fb,Fc,Fe,Ff⟩:=oB eN.out dy Gd Ge;cases Yb;replace E_:=(HB.out.cell (World.block_lt_of_cell? w _ E_)).trans E_;replace Fa:=(HB.out.cell (World.block_lt_of_cell? w _ Fa)).trans Fa;replace Fb:=(HB.out.cell (World.block_lt_of_cell? w _ Fb)).trans Fb;replace Fc:=(HB.out.cell (World.block_lt_of_cell? w _ Fc)).trans Fc;replace Fe:=(HB.out.cell (World.block_lt_of_cell? w _ Fe)).trans Fe;replace Ff:=(HB.out.cell (World.block_lt_of_cell? w _ Ff)).trans Ff;replace Gd:=eq_true Gd;replace Ge:=eq_true Ge;go_wp2_with (first|((with_reducible refine aR (N:=4) rfl ?_);refine zY 4 #[.bool false,.string ⟨#[]⟩,.string ⟨#[]⟩,.bool false,.string ⟨#[]⟩,.string ⟨#[]⟩] 42 ?_;intro WX hg w7 ah hb;have FM:=qa (ah);have aq0:=zG hg HB;have aq1:=zG hg HB;replace HB:=zS HB hb;clear hb ah hg;obtain⟨Qj,Qk,Ql,adC,adD,adE,Qm,Qn,Qo,adF,adG,adH⟩:=z6 FM)|((with_reducible refine cU (f:=66) rfl ?_);refine zO Tryz.func66 qk (uJ.calls k1 ((aC l0 dy).f0.f0.f0) ((aC l0 dy).f0.f0.f1) ((aC l0 dy).f0.f1) ((aC l0 dy).f1.f0.f0) ((aC l0 dy).f1.f0.f1) ((aC l0 dy).f1.f1) JP _ A5.out) fun w9 hb=>?_;replace FM:=qa (eW (g:=WX) (o := .cells #[.bool ((aC l0 dy).f0.f0.f0),.string ((aC l0 dy).f0.f0.f1),.string ((aC l0 dy).f0.f1),.bool ((aC l0 dy).f1.f0.f0),.string ((aC l0 dy).f1.f0.f1),.string ((aC l0 dy).f1.f1)] 42 (0,0)) (Kx FM) hb);replace HB:=zS HB hb;(try clear hb)))
       go_roundg k1
       case measure=>have:=fL.out;omega
       case rel=>exact⟨(wrap64 (dy+1)),zR,H',⟨by have:=fL.out;omega⟩,⟨zT HB⟩⟩
      ·rw[if_neg c6]at H
       have sS:=beq_eq_false_iff_ne.mpr c6;have Bh:=bne_iff_ne.mpr c6;obtain rfl:=Option.some.inj H;have Gd:0<=(dy:Int):=of_decide_eq_true (by first|(with_reducible assumption)|assumption);have Ge:dy<(l0.length:Int):=of_decide_eq_true (by first|(with_reducible assumption)|assumption);obtain⟨aqZ,Yb,E_,Fa,Fb,Fc,Fe,Ff⟩:=oB eN.out dy Gd Ge;cases Yb;replace E_:=(HB.out.cell (World.block_lt_of_cell? w _ E_)).trans E_;replace Fa:=(HB.out.cell (World.block_lt_of_cell? w _ Fa)).trans Fa;replace Fb:=(HB.out.cell (World.block_lt_of_cell? w _ Fb)).trans Fb;replace Fc:=(HB.out.cell (World.block_lt_of_cell? w _ Fc)).trans Fc;replace Fe:=(HB.out.cell (World.block_lt_of_cell? w _ Fe)).trans Fe;replace Ff:=(HB.out.cell (World.block_lt_of_cell? w _ Ff)).trans Ff;replace Gd:=eq_true Gd;replace Ge:=eq_true Ge;go_wp2_with (first|((with_reducible refine aR (N:=4) rfl ?_);refine zY 4 #[.bool false,.string ⟨#[]⟩,.string ⟨#[]⟩,.bool false,.string ⟨#[]⟩,.string ⟨#[]⟩] 42 ?_;intro WX hg gI ah hb;have FM:=qa (ah);have aq0:=zG hg HB;have aq1:=zG hg HB;replace HB:=zS HB hb;clear hb ah hg;obtain⟨tV,tW,tX,IM,IP,IQ,tY,tZ,t_,IU,IV,IW⟩:=z6 FM)|((with_reducible refine cU (f:=66) rfl ?_);refine zO Tryz.func66 qk (uJ.calls k1 ((aC l0 dy).f0.f0.f0) ((aC l0 dy).f0.f0.f1) ((aC l0 dy).f0.f1) ((aC l0 dy).f1.f0.f0) ((aC l0 dy).f1.f0.f1) ((aC l0 dy).f1.f1) JP _ A5.out) fun gh hb=>?_;replace FM:=qa (eW (g:=WX) (o := .cells #[.bool ((aC l0 dy).f0.f0.f0),.string ((aC l0 dy).f0.f0.f1),.string ((aC l0 dy).f0.f1),.bool ((aC l0 dy).f1.f0.f0),.string ((aC l0 dy).f1.f0.f1),.string ((aC l0 dy).f1.f1)] 42 (0,0)) (Kx FM) hb);replace HB:=zS HB hb;(try clear hb)))
       go_ret
       exact⟨zH,zT HB⟩
     ·rw[if_neg c4]at H
      exact absurd H (by simp)
    ·rw[if_neg c3]at H
     exact absurd H (by simp)
   ·rw[if_neg c2]at H
    have ur:=decide_eq_false c2;clear c2;obtain rfl:=Option.some.inj H;go_wp2
    go_ret
    exact⟨zH,zT HB⟩
def xg.f (k:Nat) (af:Bool) (aa aj:ByteArray) (aq:Bool) (ak au:ByteArray):Option (Int):=(fA.f k af aa aj).bind fun JQ=>(if JQ=0 then ((fA.f k aq ak au).bind fun Yc=>(some Yc)) else (some JQ))
theorem xg.calls (k:Nat) (af:Bool) (aa aj:ByteArray) (aq:Bool) (ak au:ByteArray) (r:Int) (w:World) (h:xg.f k af aa aj aq ak au=some r) :
  Calls Tryz.prog 120 #[.agg #[.bool af,.string aa,.string aj],.agg #[.bool aq,.string ak,.string au]] w fun e w'=>e = .returned (.int .i64 r)/\Below w.heap.size w w':=by
 have ji:=Tryz.underlying40;have HB:=qa (Below.refl w.heap.size w);unfold xg.f at h;have H:=h;clear h;obtain⟨JQ,A3,H⟩:=zo H;by_cases c4:JQ=0
 ·rw[if_pos c4]at H
  have fW:=beq_iff_eq.mpr c4;have oY:=bne_eq_false_iff_eq.mpr c4;clear c4;obtain⟨Yc,A5,H⟩:=zo H;obtain rfl:=Option.some.inj H;go_enter Tryz.func120,Tryz.ntmps120;go_wp2_with (first|((with_reducible refine aR (N:=2) rfl ?_);refine zY 2 #[.bool af,.string aa,.string aj] 40 ?_;intro aq2 hg w6 ah hb;have sD:=qa (ah);have aq3:=zG hg HB;have aq4:=zG hg HB;replace HB:=zS HB hb;clear hb ah hg)|((with_reducible refine aR (N:=3) rfl ?_);refine zY 3 #[.bool aq,.string ak,.string au] 40 ?_;intro aq5 hg w7 ah hb;have C8:=qa (ah);have aq6:=zG hg HB;have aq7:=zG hg HB;obtain⟨TA,TB⟩:=zQ hg sD;replace sD:=zB sD hb;replace HB:=zS HB hb;clear hb ah hg;have zw:=TA.out;have zx:=TB.out;obtain⟨yU,yV,CU,yX,yY,CV⟩:=z3 sD)|((with_reducible refine cU (f:=95) rfl ?_);refine zO Tryz.func95 qk (fA.calls k af aa aj JQ _ A3.out) fun gI hb=>?_;obtain⟨sD,C8⟩:=eo sD C8 hb;replace HB:=zS HB hb;(try clear hb);obtain⟨tV,tW,tX,tY,tZ,t_⟩:=z3 C8)|((with_reducible refine cU (f:=95) rfl ?_);refine zO Tryz.func95 qk (fA.calls k aq ak au Yc _ A5.out) fun gh hb=>?_;obtain⟨sD,C8⟩:=eo sD C8 hb;replace HB:=zS HB hb;(try clear hb)))
  go_ret
  exact⟨zH,zT HB⟩
 ·rw[if_neg c4]at H
  have fW:=beq_eq_false_iff_ne.mpr c4;have oY:=bne_iff_ne.mpr c4;obtain rfl:=Option.some.inj H;go_enter Tryz.func120,Tryz.ntmps120;go_wp2_with (first|((with_reducible refine aR (N:=2) rfl ?_);refine zY 2 #[.bool af,.string aa,.string aj] 40 ?_;intro aq2 hg oP ah hb;have sD:=qa (ah);have aq3:=zG hg HB;have aq4:=zG hg HB;replace HB:=zS HB hb;clear hb ah hg)|((with_reducible refine aR (N:=3) rfl ?_);refine zY 3 #[.bool aq,.string ak,.string au] 40 ?_;intro aq5 hg iq ah hb;have C8:=qa (ah);have aq6:=zG hg HB;have aq7:=zG hg HB;obtain⟨TA,TB⟩:=zQ hg sD;replace sD:=zB sD hb;replace HB:=zS HB hb;clear hb ah hg;have FF:=TA.out;have FH:=TB.out;obtain⟨EJ,EK,K2,EL,EM,K3⟩:=z3 sD)|((with_reducible refine cU (f:=95) rfl ?_);refine zO Tryz.func95 qk (fA.calls k af aa aj JQ _ A3.out) fun Ee hb=>?_;obtain⟨sD,C8⟩:=eo sD C8 hb;replace HB:=zS HB hb;(try clear hb)))
  go_ret
  exact⟨zH,zT HB⟩
def Er.f (k:Nat) (af:Bool) (aa aj:ByteArray) (aI:Bool) (aJ aK:ByteArray) (aq:Bool) (ak au:ByteArray) (aL:Bool) (aM aN:ByteArray) (aV:Bool) (aW aX:ByteArray) (bC:Bool) (bD bE:ByteArray):Option (Bool):=(mE.f k af aa aj aI aJ aK aq ak au aL aM aN aV aW aX bC bD bE).bind fun M8=>(if M8=0 then ((qP.f k af aa aj aI aJ aK aq ak au aL aM aN aV aW aX bC bD bE).bind fun YP=>(some (decide (YP≥0)))) else (some false))
theorem Er.calls (k:Nat) (af:Bool) (aa aj:ByteArray) (aI:Bool) (aJ aK:ByteArray) (aq:Bool) (ak au:ByteArray) (aL:Bool) (aM aN:ByteArray) (aV:Bool) (aW aX:ByteArray) (bC:Bool) (bD bE:ByteArray) (r:Bool) (w:World) (h:Er.f k af aa aj aI aJ aK aq ak au aL aM aN aV aW aX bC bD bE=some r) :
  Calls Tryz.prog 42 #[.agg #[.bool af,.string aa,.string aj,.bool aI,.string aJ,.string aK],.agg #[.bool aq,.string ak,.string au,.bool aL,.string aM,.string aN],.agg #[.bool aV,.string aW,.string aX,.bool bC,.string bD,.string bE]] w fun e w'=>e = .returned (.bool r)/\Below w.heap.size w w':=by
 have mq:=Tryz.underlying42;have HB:=qa (Below.refl w.heap.size w);unfold Er.f at h;have H:=h;clear h;obtain⟨M8,A4,H⟩:=zo H;by_cases c5:M8=0
 ·rw[if_pos c5]at H
  have xI:=beq_iff_eq.mpr c5;have Bd:=bne_eq_false_iff_eq.mpr c5;clear c5;obtain⟨YP,A6,H⟩:=zo H;obtain rfl:=Option.some.inj H;go_enter Tryz.func42,Tryz.ntmps42;go_wp2_with (first|((with_reducible refine aR (N:=3) rfl ?_);refine zY 3 #[.bool af,.string aa,.string aj,.bool aI,.string aJ,.string aK] 42 ?_;intro atd hg w7 ah hb;have nI:=qa (ah);have ate:=zG hg HB;have atf:=zG hg HB;replace HB:=zS HB hb;clear hb ah hg)|((with_reducible refine aR (N:=4) rfl ?_);refine zY 4 #[.bool aq,.string ak,.string au,.bool aL,.string aM,.string aN] 42 ?_;intro atg hg w8 ah hb;have ry:=qa (ah);have ath:=zG hg HB;have ati:=zG hg HB;obtain⟨UJ,UK⟩:=zQ hg nI;replace nI:=zB nI hb;replace HB:=zS HB hb;clear hb ah hg)|((with_reducible refine aR (N:=5) rfl ?_);refine zY 5 #[.bool aV,.string aW,.string aX,.bool bC,.string bD,.string bE] 42 ?_;intro atj hg w9 ah hb;have zq:=qa (ah);have atk:=zG hg HB;have atl:=zG hg HB;obtain⟨UL,UM⟩:=zQ hg nI;obtain⟨UN,UO⟩:=zQ hg ry;obtain⟨nI,ry⟩:=eo nI ry hb;replace HB:=zS HB hb;clear hb ah hg;have wk:=UJ.out;have wm:=UK.out;have I4:=UL.out;have I5:=UM.out;obtain⟨Ct,Cu,Cv,PC,PD,PE,Cw,Cx,Cy,PF,PG,PI⟩:=z6 nI;have C3:=UN.out;have C4:=UO.out;obtain⟨CK,CL,IF,PJ,PK,PL,CN,CO,IG,PM,PN,PO⟩:=z6 ry;obtain⟨Ax,Ay,Az,VM,VN,VO,AA,AB,AD,VP,VS,VT⟩:=z6 zq)|((with_reducible refine cU (f:=34) rfl ?_);refine zO Tryz.func34 qk (mE.calls k af aa aj aI aJ aK aq ak au aL aM aN aV aW aX bC bD bE M8 _ A4.out) fun wQ hb=>?_;obtain⟨nI,ry,zq⟩:=bB nI ry zq hb;replace HB:=zS HB hb;(try clear hb);obtain⟨Ln,Lo,Lp,acQ,acR,acS,Lr,Ls,Lt,acT,acU,acV⟩:=z6 nI;obtain⟨LD,LF,LG,acE,acF,acG,LH,LI,LJ,acH,acI,acJ⟩:=z6 ry;obtain⟨xk,xm,AF,acK,acL,acM,xp,xq,AG,acN,acO,acP⟩:=z6 zq)|(go_at_call 59;(with_reducible refine(qP.calls k af aa aj aI aJ aK aq ak au aL aM aN aV aW aX bC bD bE YP _ A6.out).mono ?_);rintro e wR ⟨rfl,hb⟩;obtain⟨nI,ry,zq⟩:=bB nI ry zq hb;replace HB:=zS HB hb;(try clear hb)))
  go_ret
  exact⟨zH,zT HB⟩
 ·rw[if_neg c5]at H
  have xI:=beq_eq_false_iff_ne.mpr c5;have Bd:=bne_iff_ne.mpr c5;obtain rfl:=Option.some.inj H;go_enter Tryz.func42,Tryz.ntmps42;go_wp2_with (first|((with_reducible refine aR (N:=3) rfl ?_);refine zY 3 #[.bool af,.string aa,.string aj,.bool aI,.string aJ,.string aK] 42 ?_;intro atd hg tI ah hb;have nI:=qa (ah);have ate:=zG hg HB;have atf:=zG hg HB;replace HB:=zS HB hb;clear hb ah hg)|((with_reducible refine aR (N:=4) rfl ?_);refine zY 4 #[.bool aq,.string ak,.string au,.bool aL,.string aM,.string aN] 42 ?_;intro atg hg Ki ah hb;have ry:=qa (ah);have ath:=zG hg HB;have ati:=zG hg HB;obtain⟨UJ,UK⟩:=zQ hg nI;replace nI:=zB nI hb;replace HB:=zS HB hb;clear hb ah hg)|((with_reducible refine aR (N:=5) rfl ?_);refine zY 5 #[.bool aV,.string aW,.string aX,.bool bC,.string bD,.string bE] 42 ?_;intro atj hg BQ ah hb;have zq:=qa (ah);have atk:=zG hg HB;have atl:=zG hg HB;obtain⟨UL,UM⟩:=zQ hg nI;obtain⟨UN,UO⟩:=zQ hg ry;obtain⟨nI,ry⟩:=eo nI ry hb;replace HB:=zS HB hb;clear hb ah hg;have Q5:=UJ.out;have Q6:=UK.out;have Mf:=UL.out;have Mg:=UM.out;obtain⟨Pc,Pd,VK,aoP,aoQ,aoR,Pe,Pf,VL,aoS,aoT,aoU⟩:=z6 nI;have FN:=UN.out;have FO:=UO.out;obtain⟨Lu,Lz,Pu,aoV,aoW,aoX,LA,LC,Pv,aoY,aoZ,ao0⟩:=z6 ry;obtain⟨K5,K6,K7,Pw,Px,Py,K8,K9,K_,Pz,PA,PB⟩:=z6 zq)|((with_reducible refine cU (f:=34) rfl ?_);refine zO Tryz.func34 qk (mE.calls k af aa aj aI aJ aK aq ak au aL aM aN aV aW aX bC bD bE M8 _ A4.out) fun Kg hb=>?_;obtain⟨nI,ry,zq⟩:=bB nI ry zq hb;replace HB:=zS HB hb;(try clear hb)))
  go_ret
  exact⟨zH,zT HB⟩
end Go.Proofs.aA.R
