import Derived.Test.YtcmepkhjggpmeaaGreatZuG26
set_option linter.all false
set_option maxRecDepth 100000
set_option maxHeartbeats 8000000
namespace Go.Proofs.aF.R
open Go.RowKit Go.Proofs.aF.Z Go.Proofs.aD.aY Go.Proofs.aD.bO Go.Proofs.aD.bT
attribute [local go_sem] ct cu cA cC ck cm cw cz
def um.f (af:Bool) (aa aj:ByteArray):Option (Bool):=if (aa.size:Int) > 100 then (some true) else (some (decide ((aj.size:Int) > 100)))
theorem um.calls (af:Bool) (aa aj:ByteArray) (r:Bool) (w:World) (h:um.f af aa aj=some r) :
  Calls Tryz.prog 53 #[.agg #[.bool af,.string aa,.string aj]] w fun e w'=>e = .returned (.bool r)/\Below w.heap.size w w':=by
 have iL:=Tryz.underlying40;have HB:=qa (Below.refl w.heap.size w);unfold um.f at h;have H:=h;clear h;by_cases c2:(aa.size:Int) > 100
 ·rw[if_pos c2]at H
  have qF:=decide_eq_true c2;have aqI:decide (100<aa.size)=true:=decide_eq_true qo;clear c2;obtain rfl:=Option.some.inj H;go_enter Tryz.func53,Tryz.ntmps53;go_wp2_with (first|((with_reducible refine aV (N:=1) rfl ?_);(try(refine C6 (by rfl) ?_;dsimp only));refine zY 1 #[.bool af,.string aa,.string aj] 40 ?_;intro anj hg w3 ah hb;have TV:=qa (ah);have ank:=zG hg HB;have anl:=zG hg HB;replace HB:=zS HB hb;clear hb ah hg;obtain⟨Nr,Ns,Nt,Nu,Nv,Nw⟩:=z3 TV))
  go_ret
  exact⟨zH,zT HB⟩
 ·rw[if_neg c2]at H
  have qF:=decide_eq_false c2;have aqI:decide (100<aa.size)=false:=decide_eq_false qo;clear c2;obtain rfl:=Option.some.inj H;go_enter Tryz.func53,Tryz.ntmps53;go_wp2_with (first|((with_reducible refine aV (N:=1) rfl ?_);(try(refine C6 (by rfl) ?_;dsimp only));refine zY 1 #[.bool af,.string aa,.string aj] 40 ?_;intro anj hg w5 ah hb;have TV:=qa (ah);have ank:=zG hg HB;have anl:=zG hg HB;replace HB:=zS HB hb;clear hb ah hg;obtain⟨vR,vS,yI,vT,vU,yJ⟩:=z3 TV))
  go_ret
  exact⟨zH,zT HB⟩
def AV.f (k:Nat) (af:Bool) (aa aj:ByteArray) (aq:Bool) (ak ay:ByteArray):Option (Int):=(fG.f k af aa aj).bind fun t114=>(if t114=0 then ((fG.f k aq ak ay).bind fun t115=>(some t115)) else (some t114))
theorem AV.calls (k:Nat) (af:Bool) (aa aj:ByteArray) (aq:Bool) (ak ay:ByteArray) (r:Int) (w:World) (h:AV.f k af aa aj aq ak ay=some r) :
  Calls Tryz.prog 81 #[.agg #[.bool af,.string aa,.string aj],.agg #[.bool aq,.string ak,.string ay]] w fun e w'=>e = .returned (.int .i64 r)/\Below w.heap.size w w':=by
 have iL:=Tryz.underlying40;have HB:=qa (Below.refl w.heap.size w);unfold AV.f at h;have H:=h;clear h;obtain⟨t114,A3,H⟩:=zo H;by_cases c4:t114=0
 ·rw[if_pos c4]at H
  have fV:=beq_iff_eq.mpr c4;have ou:=bne_eq_false_iff_eq.mpr c4;clear c4;obtain⟨t115,A5,H⟩:=zo H;obtain rfl:=Option.some.inj H;go_enter Tryz.func81,Tryz.ntmps81;go_wp2_with (first|((with_reducible refine aV (N:=2) rfl ?_);refine zY 2 #[.bool af,.string aa,.string aj] 40 ?_;intro ann hg w6 ah hb;have ru:=qa (ah);have ano:=zG hg HB;have anp:=zG hg HB;replace HB:=zS HB hb;clear hb ah hg)|((with_reducible refine aV (N:=3) rfl ?_);refine zY 3 #[.bool aq,.string ak,.string ay] 40 ?_;intro anq hg w7 ah hb;have BQ:=qa (ah);have anr:=zG hg HB;have ans:=zG hg HB;obtain⟨QA,QB⟩:=zQ hg ru;replace ru:=zB ru hb;replace HB:=zS HB hb;clear hb ah hg;have wo:=QA.out;have wu:=QB.out;obtain⟨vV,vW,yG,vX,vY,yH⟩:=z3 ru)|((with_reducible refine cW (f:=123) rfl ?_);refine zO Tryz.func123 qk (fG.calls k af aa aj t114 _ A3.out) fun iC hb=>?_;obtain⟨ru,BQ⟩:=eX ru BQ hb;replace HB:=zS HB hb;(try clear hb);obtain⟨qc,qg,qi,qj,qp,qu⟩:=z3 BQ)|((with_reducible refine cW (f:=123) rfl ?_);refine zO Tryz.func123 qk (fG.calls k aq ak ay t115 _ A5.out) fun iH hb=>?_;obtain⟨ru,BQ⟩:=eX ru BQ hb;replace HB:=zS HB hb;(try clear hb)))
  go_ret
  exact⟨zH,zT HB⟩
 ·rw[if_neg c4]at H
  have fV:=beq_eq_false_iff_ne.mpr c4;have ou:=bne_iff_ne.mpr c4;obtain rfl:=Option.some.inj H;go_enter Tryz.func81,Tryz.ntmps81;go_wp2_with (first|((with_reducible refine aV (N:=2) rfl ?_);refine zY 2 #[.bool af,.string aa,.string aj] 40 ?_;intro ann hg oL ah hb;have ru:=qa (ah);have ano:=zG hg HB;have anp:=zG hg HB;replace HB:=zS HB hb;clear hb ah hg)|((with_reducible refine aV (N:=3) rfl ?_);refine zY 3 #[.bool aq,.string ak,.string ay] 40 ?_;intro anq hg ue ah hb;have BQ:=qa (ah);have anr:=zG hg HB;have ans:=zG hg HB;obtain⟨QA,QB⟩:=zQ hg ru;replace ru:=zB ru hb;replace HB:=zS HB hb;clear hb ah hg;have yN:=QA.out;have yO:=QB.out;obtain⟨Bg,Bh,F_,Bi,Bj,Ga⟩:=z3 ru)|((with_reducible refine cW (f:=123) rfl ?_);refine zO Tryz.func123 qk (fG.calls k af aa aj t114 _ A3.out) fun PN hb=>?_;obtain⟨ru,BQ⟩:=eX ru BQ hb;replace HB:=zS HB hb;(try clear hb)))
  go_ret
  exact⟨zH,zT HB⟩
def mJ.l0:Nat->List (aH)->Int->Int->Option (Int)
 | 0,_,_,_=>none
 | k+1,x6,x7,x8=>if x8<x7 then (if 0<=x8 then (if x8<(x6.length:Int) then ((eN.f k ((fP x6 x8).f0.f0) ((fP x6 x8).f0.f1) ((fP x6 x8).f1)).bind fun t240=>(if t240=0 then (mJ.l0 k x6 x7 (wrap64 (x8+1))) else (some t240))) else (none)) else (none)) else (some 0)
def mJ.f (k:Nat) (l0:List (aH)):Option (Int):=mJ.l0 k l0 (l0.length:Int) 0
theorem mJ.calls (k:Nat) (A0:Option Addr) (c0:Nat) (l0:List (aH)) (r:Int) (w:World) (fZ:Kd.C kO w A0 l0.length l0) (hc0:l0.length<=c0) (h:mJ.f k l0=some r) :
  Calls Tryz.prog 147 #[.slice A0 l0.length c0] w fun e w'=>e = .returned (.int .i64 r)/\Below w.heap.size w w':=by
 have iL:=Tryz.underlying40;have dY:=qa fZ;have Ay:=qa hc0;clear fZ hc0;have HB:=qa (Below.refl w.heap.size w);unfold mJ.f at h;have H:=h;clear h;have H':=qa H;clear H;go_enter Tryz.func147,Tryz.ntmps147;go_wp2
 go_loopg [8] k (fun kq v8 w'=>∃ (dm:Int),v8 = .int .i64 dm/\aO (mJ.l0 kq l0 (l0.length:Int) dm=some r)/\aO (kq<=k)/\aO (Below w.heap.size w w'))
 case atStart=>exact⟨(0),zR,H',⟨Nat.le_refl _⟩,⟨zT HB⟩⟩
 case round =>
  clear H';try clear c1
  obtain⟨dm,rfl,HA,iA,HB⟩:=hrel;cases gk with
  | zero=>exact absurd HA.out (by simp[mJ.l0])
  | succ k1 =>
   have H:=HA.out;clear HA;simp only[mJ.l0]at H;by_cases c2:dm<(l0.length:Int)
   ·rw[if_pos c2]at H
    have qF:=decide_eq_true c2;clear c2;by_cases c3:0<=dm
    ·rw[if_pos c3]at H
     have Cf:=decide_eq_true c3;clear c3;by_cases c4:dm<(l0.length:Int)
     ·rw[if_pos c4]at H
      have fV:=decide_eq_true c4;clear c4;obtain⟨t240,A5,H⟩:=zo H;by_cases c6:t240=0
      ·rw[if_pos c6]at H
       have tQ:=beq_iff_eq.mpr c6;have zw:=bne_eq_false_iff_eq.mpr c6;clear c6;have H':=qa H;clear H;have Er:0<=(dm:Int):=of_decide_eq_true (by first|(with_reducible assumption)|assumption);have Es:dm<(l0.length:Int):=of_decide_eq_true (by first|(with_reducible assumption)|assumption);obtain⟨anJ,U',Dn,Dp,Dq⟩:=SZ dY.out dm Er Es;cases U';replace Dn:=(HB.out.cell (World.block_lt_of_cell? w _ Dn)).trans Dn;replace Dp:=(HB.out.cell (World.block_lt_of_cell? w _ Dp)).trans Dp;replace Dq:=(HB.out.cell (World.block_lt_of_cell? w _ Dq)).trans Dq;replace Er:=eq_true Er;replace Es:=eq_true Es;go_wp2_with (first|((with_reducible refine aV (N:=4) rfl ?_);refine zY 4 #[.bool false,.string ⟨#[]⟩,.string ⟨#[]⟩] 40 ?_;intro TZ hg w7 ah hb;have DY:=qa (ah);have anK:=zG hg HB;have anL:=zG hg HB;replace HB:=zS HB hb;clear hb ah hg;obtain⟨JF,JG,JH,JI,JJ,JK⟩:=z3 DY)|((with_reducible refine cW (f:=135) rfl ?_);refine zO Tryz.func135 qk (eN.calls k1 ((fP l0 dm).f0.f0) ((fP l0 dm).f0.f1) ((fP l0 dm).f1) t240 _ A5.out) fun w9 hb=>?_;replace DY:=qa (gP (g:=TZ) (o := .cells #[.bool ((fP l0 dm).f0.f0),.string ((fP l0 dm).f0.f1),.string ((fP l0 dm).f1)] 40 (0,0)) (Kx DY) hb);replace HB:=zS HB hb;(try clear hb)))
       go_roundg k1
       case measure=>have:=iA.out;omega
       case rel=>exact⟨(wrap64 (dm+1)),zR,H',⟨by have:=iA.out;omega⟩,⟨zT HB⟩⟩
      ·rw[if_neg c6]at H
       have tQ:=beq_eq_false_iff_ne.mpr c6;have zw:=bne_iff_ne.mpr c6;obtain rfl:=Option.some.inj H;have Er:0<=(dm:Int):=of_decide_eq_true (by first|(with_reducible assumption)|assumption);have Es:dm<(l0.length:Int):=of_decide_eq_true (by first|(with_reducible assumption)|assumption);obtain⟨anJ,U',Dn,Dp,Dq⟩:=SZ dY.out dm Er Es;cases U';replace Dn:=(HB.out.cell (World.block_lt_of_cell? w _ Dn)).trans Dn;replace Dp:=(HB.out.cell (World.block_lt_of_cell? w _ Dp)).trans Dp;replace Dq:=(HB.out.cell (World.block_lt_of_cell? w _ Dq)).trans Dq;replace Er:=eq_true Er;replace Es:=eq_true Es;go_wp2_with (first|((with_reducible refine aV (N:=4) rfl ?_);refine zY 4 #[.bool false,.string ⟨#[]⟩,.string ⟨#[]⟩] 40 ?_;intro TZ hg iC ah hb;have DY:=qa (ah);have anK:=zG hg HB;have anL:=zG hg HB;replace HB:=zS HB hb;clear hb ah hg;obtain⟨qc,qg,qi,qj,qp,qu⟩:=z3 DY)|((with_reducible refine cW (f:=135) rfl ?_);refine zO Tryz.func135 qk (eN.calls k1 ((fP l0 dm).f0.f0) ((fP l0 dm).f0.f1) ((fP l0 dm).f1) t240 _ A5.out) fun iH hb=>?_;replace DY:=qa (gP (g:=TZ) (o := .cells #[.bool ((fP l0 dm).f0.f0),.string ((fP l0 dm).f0.f1),.string ((fP l0 dm).f1)] 40 (0,0)) (Kx DY) hb);replace HB:=zS HB hb;(try clear hb)))
       go_ret
       exact⟨zH,zT HB⟩
     ·rw[if_neg c4]at H
      exact absurd H (by simp)
    ·rw[if_neg c3]at H
     exact absurd H (by simp)
   ·rw[if_neg c2]at H
    have qF:=decide_eq_false c2;clear c2;obtain rfl:=Option.some.inj H;go_wp2
    go_ret
    exact⟨zH,zT HB⟩
def vG.f (k:Nat) (af:Bool) (aa aj:ByteArray) (aL:Bool) (aM aN:ByteArray):Option (Int):=(mJ.f k (([(⟨(⟨af,aa⟩:aI),aj⟩:aH),(⟨(⟨aL,aM⟩:aI),aN⟩:aH)]:List (aH)))).bind fun t245=>(some t245)
theorem vG.calls (k:Nat) (af:Bool) (aa aj:ByteArray) (aL:Bool) (aM aN:ByteArray) (r:Int) (w:World) (h:vG.f k af aa aj aL aM aN=some r) :
  Calls Tryz.prog 118 #[.agg #[.bool af,.string aa,.string aj,.bool aL,.string aM,.string aN]] w fun e w'=>e = .returned (.int .i64 r)/\Below w.heap.size w w':=by
 have ng:=Tryz.underlying54;have iL:=Tryz.underlying40;have HB:=qa (Below.refl w.heap.size w);unfold vG.f at h;have H:=h;clear h;obtain⟨Va,JY⟩:∃ y_:List (aH),y_=(([(⟨(⟨af,aa⟩:aI),aj⟩:aH),(⟨(⟨aL,aM⟩:aI),aN⟩:aH)]:List (aH))):=⟨_,rfl⟩
 replace H:((mJ.f k Va).bind fun t245=>(some t245))=some r:=by first|(rw[JY];with_reducible exact H)|(have kj:=(Option.bind_some _ _).symm.trans H;rw[JY];with_reducible exact kj)|(have kj:=(Option.bind_some _ _).symm.trans H;with_reducible exact kj)|with_reducible exact H|(rw[JY];exact H)|exact H
 have abp:=qa JY;clear JY;obtain⟨t245,A2,H⟩:=zo H;obtain rfl:=Option.some.inj H;go_enter Tryz.func118,Tryz.ntmps118;go_wp2_with (first|((with_reducible refine aV (N:=1) rfl ?_);refine zY 1 #[.bool af,.string aa,.string aj,.bool aL,.string aM,.string aN] 54 ?_;intro ayf hg w3 ah hb;have JZ:=qa (ah);have ayg:=zG hg HB;have ayh:=zG hg HB;replace HB:=zS HB hb;clear hb ah hg;obtain⟨Nr,Ns,Nt,amc,amd,ame,Nu,Nv,Nw,amf,amg,amh⟩:=z6 JZ)|((with_reducible refine aV (N:=7) rfl ?_);refine Kd.uD kO _ 40 ?hg (N:=7) ?hd (xs:=([(⟨(⟨af,aa⟩:aI),aj⟩:aH),(⟨(⟨aL,aM⟩:aI),aN⟩:aH)]:List (aH))) (inner:=[.bool af,.string aa,.string aj,.bool aL,.string aM,.string aN]) (ok:=fun _=>True) (rV:=fun _=>True) ?hr ?hp (fun _ hk=>hk) trivial (Below.refl _ _) (Nat.le_refl _) (by simp) ?_;(case hd=>rfl);(case hg=>rfl);(case hr=>first|(go_simp;done)|(go_simp;rfl));(case hp=>exact(bp.c3 (show Kd.M kO _ _ _ (⟨(⟨af,aa⟩:aI),aj⟩:aH) [.bool af,.string aa,.string aj] from(sJ _ _ _ (⟨(⟨af,aa⟩:aI),aj⟩:aH) )) (bp.c3 (show Kd.M kO _ _ _ (⟨(⟨aL,aM⟩:aI),aN⟩:aH) [.bool aL,.string aM,.string aN] from(sJ _ _ _ (⟨(⟨aL,aM⟩:aI),aN⟩:aH) )) (bp.none _ _))));intro aAZ w5 LB hb lY lH;clear lY lH;(first|rw[<- abp.out]at LB|(simp only[Int.reduceToNat]at LB;rw[<- abp.out]at LB));have J1:=qa (Kd.tu LB (tj (zT HB)));replace JZ:=zB JZ hb;replace HB:=zS HB hb;clear hb LB;obtain⟨Ao7,co7,eo7⟩:=Kd.uy J1.out;subst eo7)|((with_reducible refine cW (f:=147) rfl ?_);refine zC Tryz.func147 qk #[.slice Ao7 Va.length co7] ?_;(with_reducible refine(mJ.calls k _ _ Va t245 _ ?mZ ?m_ A2.out).mono ?_);(case mZ=>repeat(first|exact(Kd.lD J1.out).2.2|(with_reducible refine Kd.vL ?_ _)|(with_reducible refine Kd.vM ?_ _)|(with_reducible refine Kd.vP ?_)));(case m_=>exact(Kd.lD J1.out).2.1);rintro e w8 ⟨rfl,hb⟩;refine⟨_,rfl,?_⟩;replace J1:=qa (Kd.jZ (by (with_reducible repeat(first|apply Kd.jO|apply Kd.jP|apply Kd.jf));exact J1.out) hb);replace JZ:=zB JZ hb;replace HB:=zS HB hb;(try clear hb)))
 go_ret
 exact⟨zH,zT HB⟩
def mK.l0:Nat->List (aZ)->Int->Int->Option (Int)
 | 0,_,_,_=>none
 | k+1,x6,x7,x8=>if x8<x7 then (if 0<=x8 then (if x8<(x6.length:Int) then ((vG.f k ((aB x6 x8).f0.f0.f0) ((aB x6 x8).f0.f0.f1) ((aB x6 x8).f0.f1) ((aB x6 x8).f1.f0.f0) ((aB x6 x8).f1.f0.f1) ((aB x6 x8).f1.f1)).bind fun Ho=>(if Ho=0 then (mK.l0 k x6 x7 (wrap64 (x8+1))) else (some Ho))) else (none)) else (none)) else (some 0)
def mK.f (k:Nat) (l0:List (aZ)):Option (Int):=mK.l0 k l0 (l0.length:Int) 0
theorem mK.calls (k:Nat) (A0:Option Addr) (c0:Nat) (l0:List (aZ)) (r:Int) (w:World) (fZ:Kd.C eA w A0 l0.length l0) (hc0:l0.length<=c0) (h:mK.f k l0=some r) :
  Calls Tryz.prog 131 #[.slice A0 l0.length c0] w fun e w'=>e = .returned (.int .i64 r)/\Below w.heap.size w w':=by
 have ng:=Tryz.underlying54;have dY:=qa fZ;have Ay:=qa hc0;clear fZ hc0;have HB:=qa (Below.refl w.heap.size w);unfold mK.f at h;have H:=h;clear h;have H':=qa H;clear H;go_enter Tryz.func131,Tryz.ntmps131;go_wp2
 go_loopg [8] k (fun kq v8 w'=>∃ (dm:Int),v8 = .int .i64 dm/\aO (mK.l0 kq l0 (l0.length:Int) dm=some r)/\aO (kq<=k)/\aO (Below w.heap.size w w'))
 case atStart=>exact⟨(0),zR,H',⟨Nat.le_refl _⟩,⟨zT HB⟩⟩
 case round =>
  clear H';try clear c1
  obtain⟨dm,rfl,HA,iA,HB⟩:=hrel;cases gk with
  | zero=>exact absurd HA.out (by simp[mK.l0])
  | succ k1 =>
   have H:=HA.out;clear HA;simp only[mK.l0]at H;by_cases c2:dm<(l0.length:Int)
   ·rw[if_pos c2]at H
    have qF:=decide_eq_true c2;clear c2;by_cases c3:0<=dm
    ·rw[if_pos c3]at H
     have Cf:=decide_eq_true c3;clear c3;by_cases c4:dm<(l0.length:Int)
     ·rw[if_pos c4]at H
      have fV:=decide_eq_true c4;clear c4;obtain⟨Ho,A5,H⟩:=zo H;by_cases c6:Ho=0
      ·rw[if_pos c6]at H
       have tQ:=beq_iff_eq.mpr c6;have zw:=bne_eq_false_iff_eq.mpr c6;clear c6;have H':=qa H;clear H;have Et:0<=(dm:Int):=of_decide_eq_true (by first|(with_reducible assumption)|assumption);have Eu:dm<(l0.length:Int):=of_decide_eq_true (by first|(with_reducible assumption)|assumption);obtain⟨anR,Vc,Ds,Dt,Du,Dv,Dw,Dx⟩:=oW dY.out dm Et Eu;cases Vc;replace Ds:=(HB.out.cell (World.block_lt_of_cell? w _ Ds)).trans Ds;replace Dt:=(HB.out.cell (World.block_lt_of_cell? w _ Dt)).trans Dt;replace Du:=(HB.out.cell (World.block_lt_of_cell? w _ Du)).trans Du;replace Dv:=(HB.out.cell (World.block_lt_of_cell? w _ Dv)).trans Dv;replace Dw:=(HB.out.cell (World.block_lt_of_cell? w _ Dw)).trans Dw;replace Dx:=(HB.out.cell (World.block_lt_of_cell? w _ Dx)).trans Dx;replace Et:=eq_true Et;replace Eu:=eq_true Eu;go_wp2_with (first|((with_reducible refine aV (N:=4) rfl ?_);refine zY 4 #[.bool false,.string ⟨#[]⟩,.string ⟨#[]⟩,.bool false,.string ⟨#[]⟩,.string ⟨#[]⟩] 54 ?_;intro Uc hg w7 ah hb;have DZ:=qa (ah);have anS:=zG hg HB;have anT:=zG hg HB;replace HB:=zS HB hb;clear hb ah hg;obtain⟨JF,JG,JH,Ta,Tb,Tc,JI,JJ,JK,Td,Te,Tf⟩:=z6 DZ)|((with_reducible refine cW (f:=118) rfl ?_);refine zO Tryz.func118 qk (vG.calls k1 ((aB l0 dm).f0.f0.f0) ((aB l0 dm).f0.f0.f1) ((aB l0 dm).f0.f1) ((aB l0 dm).f1.f0.f0) ((aB l0 dm).f1.f0.f1) ((aB l0 dm).f1.f1) Ho _ A5.out) fun w9 hb=>?_;replace DZ:=qa (gP (g:=Uc) (o := .cells #[.bool ((aB l0 dm).f0.f0.f0),.string ((aB l0 dm).f0.f0.f1),.string ((aB l0 dm).f0.f1),.bool ((aB l0 dm).f1.f0.f0),.string ((aB l0 dm).f1.f0.f1),.string ((aB l0 dm).f1.f1)] 54 (0,0)) (Kx DZ) hb);replace HB:=zS HB hb;(try clear hb)))
       go_roundg k1
       case measure=>have:=iA.out;omega
       case rel=>exact⟨(wrap64 (dm+1)),zR,H',⟨by have:=iA.out;omega⟩,⟨zT HB⟩⟩
      ·rw[if_neg c6]at H
       have tQ:=beq_eq_false_iff_ne.mpr c6;have zw:=bne_iff_ne.mpr c6;obtain rfl:=Option.some.inj H;have Et:0<=(dm:Int):=of_decide_eq_true (by first|(with_reducible assumption)|assumption);have Eu:dm<(l0.length:Int):=of_decide_eq_true (by first|(with_reducible assumption)|assumption);obtain⟨anR,Vc,Ds,Dt,Du,Dv,Dw,Dx⟩:=oW dY.out dm Et Eu;cases Vc;replace Ds:=(HB.out.cell (World.block_lt_of_cell? w _ Ds)).trans Ds;replace Dt:=(HB.out.cell (World.block_lt_of_cell? w _ Dt)).trans Dt;replace Du:=(HB.out.cell (World.block_lt_of_cell? w _ Du)).trans Du;replace Dv:=(HB.out.cell (World.block_lt_of_cell? w _ Dv)).trans Dv;replace Dw:=(HB.out.cell (World.block_lt_of_cell? w _ Dw)).trans Dw;replace Dx:=(HB.out.cell (World.block_lt_of_cell? w _ Dx)).trans Dx;replace Et:=eq_true Et;replace Eu:=eq_true Eu;go_wp2_with (first|((with_reducible refine aV (N:=4) rfl ?_);refine zY 4 #[.bool false,.string ⟨#[]⟩,.string ⟨#[]⟩,.bool false,.string ⟨#[]⟩,.string ⟨#[]⟩] 54 ?_;intro Uc hg iC ah hb;have DZ:=qa (ah);have anS:=zG hg HB;have anT:=zG hg HB;replace HB:=zS HB hb;clear hb ah hg;obtain⟨qc,qg,qi,Bw,Bx,By,qj,qp,qu,Bz,BA,BB⟩:=z6 DZ)|((with_reducible refine cW (f:=118) rfl ?_);refine zO Tryz.func118 qk (vG.calls k1 ((aB l0 dm).f0.f0.f0) ((aB l0 dm).f0.f0.f1) ((aB l0 dm).f0.f1) ((aB l0 dm).f1.f0.f0) ((aB l0 dm).f1.f0.f1) ((aB l0 dm).f1.f1) Ho _ A5.out) fun iH hb=>?_;replace DZ:=qa (gP (g:=Uc) (o := .cells #[.bool ((aB l0 dm).f0.f0.f0),.string ((aB l0 dm).f0.f0.f1),.string ((aB l0 dm).f0.f1),.bool ((aB l0 dm).f1.f0.f0),.string ((aB l0 dm).f1.f0.f1),.string ((aB l0 dm).f1.f1)] 54 (0,0)) (Kx DZ) hb);replace HB:=zS HB hb;(try clear hb)))
       go_ret
       exact⟨zH,zT HB⟩
     ·rw[if_neg c4]at H
      exact absurd H (by simp)
    ·rw[if_neg c3]at H
     exact absurd H (by simp)
   ·rw[if_neg c2]at H
    have qF:=decide_eq_false c2;clear c2;obtain rfl:=Option.some.inj H;go_wp2
    go_ret
    exact⟨zH,zT HB⟩
def vJ.f (k:Nat) (af:Bool) (aa aj:ByteArray) (aq:Bool) (ak ay:ByteArray):Option (Int):=(eN.f k af aa aj).bind fun Hp=>(if Hp=0 then ((eN.f k aq ak ay).bind fun Vo=>(some Vo)) else (some Hp))
theorem vJ.calls (k:Nat) (af:Bool) (aa aj:ByteArray) (aq:Bool) (ak ay:ByteArray) (r:Int) (w:World) (h:vJ.f k af aa aj aq ak ay=some r) :
  Calls Tryz.prog 98 #[.agg #[.bool af,.string aa,.string aj],.agg #[.bool aq,.string ak,.string ay]] w fun e w'=>e = .returned (.int .i64 r)/\Below w.heap.size w w':=by
 have iL:=Tryz.underlying40;have HB:=qa (Below.refl w.heap.size w);unfold vJ.f at h;have H:=h;clear h;obtain⟨Hp,A3,H⟩:=zo H;by_cases c4:Hp=0
 ·rw[if_pos c4]at H
  have fV:=beq_iff_eq.mpr c4;have ou:=bne_eq_false_iff_eq.mpr c4;clear c4;obtain⟨Vo,A5,H⟩:=zo H;obtain rfl:=Option.some.inj H;go_enter Tryz.func98,Tryz.ntmps98;go_wp2_with (first|((with_reducible refine aV (N:=2) rfl ?_);refine zY 2 #[.bool af,.string aa,.string aj] 40 ?_;intro aog hg w6 ah hb;have ry:=qa (ah);have aoh:=zG hg HB;have aoi:=zG hg HB;replace HB:=zS HB hb;clear hb ah hg)|((with_reducible refine aV (N:=3) rfl ?_);refine zY 3 #[.bool aq,.string ak,.string ay] 40 ?_;intro aoj hg w7 ah hb;have BS:=qa (ah);have aok:=zG hg HB;have aol:=zG hg HB;obtain⟨QF,QG⟩:=zQ hg ry;replace ry:=zB ry hb;replace HB:=zS HB hb;clear hb ah hg;have wo:=QF.out;have wu:=QG.out;obtain⟨vV,vW,yG,vX,vY,yH⟩:=z3 ry)|((with_reducible refine cW (f:=135) rfl ?_);refine zO Tryz.func135 qk (eN.calls k af aa aj Hp _ A3.out) fun iC hb=>?_;obtain⟨ry,BS⟩:=eX ry BS hb;replace HB:=zS HB hb;(try clear hb);obtain⟨qc,qg,qi,qj,qp,qu⟩:=z3 BS)|((with_reducible refine cW (f:=135) rfl ?_);refine zO Tryz.func135 qk (eN.calls k aq ak ay Vo _ A5.out) fun iH hb=>?_;obtain⟨ry,BS⟩:=eX ry BS hb;replace HB:=zS HB hb;(try clear hb)))
  go_ret
  exact⟨zH,zT HB⟩
 ·rw[if_neg c4]at H
  have fV:=beq_eq_false_iff_ne.mpr c4;have ou:=bne_iff_ne.mpr c4;obtain rfl:=Option.some.inj H;go_enter Tryz.func98,Tryz.ntmps98;go_wp2_with (first|((with_reducible refine aV (N:=2) rfl ?_);refine zY 2 #[.bool af,.string aa,.string aj] 40 ?_;intro aog hg oL ah hb;have ry:=qa (ah);have aoh:=zG hg HB;have aoi:=zG hg HB;replace HB:=zS HB hb;clear hb ah hg)|((with_reducible refine aV (N:=3) rfl ?_);refine zY 3 #[.bool aq,.string ak,.string ay] 40 ?_;intro aoj hg ue ah hb;have BS:=qa (ah);have aok:=zG hg HB;have aol:=zG hg HB;obtain⟨QF,QG⟩:=zQ hg ry;replace ry:=zB ry hb;replace HB:=zS HB hb;clear hb ah hg;have yN:=QF.out;have yO:=QG.out;obtain⟨Bg,Bh,F_,Bi,Bj,Ga⟩:=z3 ry)|((with_reducible refine cW (f:=135) rfl ?_);refine zO Tryz.func135 qk (eN.calls k af aa aj Hp _ A3.out) fun PN hb=>?_;obtain⟨ry,BS⟩:=eX ry BS hb;replace HB:=zS HB hb;(try clear hb)))
  go_ret
  exact⟨zH,zT HB⟩
open Go.Proofs.YtcmepkhjggpmeaaGreat Go.Proofs.YtcmepkhjggpmeaaGreat.aP in
def AR.f (af:Bool) (aa:ByteArray) (aq:Bool) (ak:ByteArray):Option (Bool × ByteArray):=(FJ.f af aa aq ak).map fun r=>(r.1,r.2.1)
open Go.Proofs.YtcmepkhjggpmeaaGreat Go.Proofs.YtcmepkhjggpmeaaGreat.aP in
theorem AR.calls (af:Bool) (aa:ByteArray) (aq:Bool) (ak:ByteArray) (r1:Bool) (r2:ByteArray) (w:World) (h:AR.f af aa aq ak=some (r1,r2)) :
  Calls Tryz.prog 99 #[.func (.func 67) #[] #[],.agg #[.bool af,.string aa],.agg #[.bool aq,.string ak]] w fun e w'=>e = .returned (.agg #[.bool r1,.string r2])/\Below w.heap.size w w':=by
 unfold AR.f at h;obtain⟨⟨x1,x2,x3⟩,hx,he⟩:=Option.map_eq_some_iff.1 h;simp only[Prod.mk.injEq]at he;obtain⟨rfl,rfl⟩:=he;exact amn _ _ _ _ _ _ _ (qh fun w=>FJ.calls _ _ _ _ _ _ _ w hx) w
open Go.Proofs.YtcmepkhjggpmeaaGreat Go.Proofs.YtcmepkhjggpmeaaGreat.aP in
def FR.f (a0:Int):Option (Bool × ByteArray):=if -9223372036854775808<=a0/\a0<=9223372036854775807 then some ((pv a0).1,(pv a0).2) else none
open Go.Proofs.YtcmepkhjggpmeaaGreat Go.Proofs.YtcmepkhjggpmeaaGreat.aP in
theorem FR.calls (a0:Int) (r1:Bool) (r2:ByteArray) (w:World) (h:FR.f a0=some (r1,r2)) :
  Calls Tryz.prog 62 #[.int .i64 a0] w fun e w'=>e = .returned (.agg #[.bool r1,.string r2])/\Below w.heap.size w w':=by
 unfold FR.f at h;split at h
 ·rename_i hc
  simp only[Option.some.injEq,Prod.mk.injEq]at h;obtain⟨rfl,rfl⟩:=h;exact ar5 a0 hc.1 hc.2 w
 ·exact absurd h (by simp)
end Go.Proofs.aF.R
