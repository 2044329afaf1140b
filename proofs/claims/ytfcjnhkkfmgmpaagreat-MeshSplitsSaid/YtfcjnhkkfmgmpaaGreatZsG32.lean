import Derived.Test.YtfcjnhkkfmgmpaaGreatZsG25
set_option linter.all false
set_option maxRecDepth 100000
set_option maxHeartbeats 8000000
namespace Go.Proofs.aC.R
open Go.RowKit Go.Proofs.aC.Z Go.Proofs.aD.bf Go.Proofs.aD.ck Go.Proofs.aD.cL
attribute [local go_sem] cY cZ dm dn cW cX dc dh
open Go.Proofs.YtfcjnhkkfmgmpaaGreat Go.Proofs.YtfcjnhkkfmgmpaaGreat.aR in
def Hv.f (af:Bool) (aa:ByteArray):Option (Bool × ByteArray):=some ((!af&&decide (0<aa.size)),aa)
open Go.Proofs.YtfcjnhkkfmgmpaaGreat Go.Proofs.YtfcjnhkkfmgmpaaGreat.aR in
theorem Hv.calls (af:Bool) (aa:ByteArray) (r1:Bool) (r2:ByteArray) (w:World) (h:Hv.f af aa=some (r1,r2)) :
  Calls Tryz.prog 90 #[.agg #[.bool af,.string aa]] w fun e w'=>e = .returned (.agg #[.bool r1,.string r2])∧Below w.heap.size w w':=by
 unfold Hv.f at h;simp only[Option.some.injEq,Prod.mk.injEq]at h;obtain⟨rfl,rfl⟩:=h;exact Q9 _ _ w
def xB.f (k:Nat) (af:Bool) (aa aj:ByteArray) (aq:Bool) (ak ay:ByteArray):Option (Int):=(fR.f k af aa aj).bind fun t114=>(if t114=0 then ((fR.f k aq ak ay).bind fun t115=>(some t115)) else (some t114))
theorem xB.calls (k:Nat) (af:Bool) (aa aj:ByteArray) (aq:Bool) (ak ay:ByteArray) (r:Int) (w:World) (h:xB.f k af aa aj aq ak ay=some r) :
  Calls Tryz.prog 60 #[.agg #[.bool af,.string aa,.string aj],.agg #[.bool aq,.string ak,.string ay]] w fun e w'=>e = .returned (.int .i64 r)∧Below w.heap.size w w':=by
 have jT:=Tryz.underlying40;have HB:=qa (Below.refl w.heap.size w);unfold xB.f at h;have H:=h;clear h;obtain⟨t114,A3,H⟩:=zo H;by_cases c4:t114=0
 ·rw[if_pos c4]at H
  have fI:=beq_iff_eq.mpr c4;have n7:=bne_eq_false_iff_eq.mpr c4;clear c4;obtain⟨t115,A5,H⟩:=zo H;obtain rfl:=Option.some.inj H;go_enter Tryz.func60,Tryz.ntmps60;go_wp2_with (first|((with_reducible refine aZ (N:=2) rfl ?_);refine zY 2 #[.bool af,.string aa,.string aj] 40 ?_;intro al4 hg w6 ah hb;have qz:=qa (ah);have al5:=zG hg HB;have al6:=zG hg HB;replace HB:=zS HB hb;clear hb ah hg)|((with_reducible refine aZ (N:=3) rfl ?_);refine zY 3 #[.bool aq,.string ak,.string ay] 40 ?_;intro al7 hg w7 ah hb;have Az:=qa (ah);have al8:=zG hg HB;have al9:=zG hg HB;obtain⟨Ql,Qm⟩:=zQ hg qz;replace qz:=zB qz hb;replace HB:=zS HB hb;clear hb ah hg;have AM:=Ql.out;have AO:=Qm.out;obtain⟨Ap,Aq,FO,Ar,At,FP⟩:=z3 qz)|((with_reducible refine dB (f:=72) rfl ?_);refine zO Tryz.func72 (by kernel_rfl) (fR.calls k af aa aj t114 _ A3.out) fun g_ hb=>?_;obtain⟨qz,Az⟩:=fN qz Az hb;replace HB:=zS HB hb;(try clear hb);obtain⟨tG,tH,tI,tJ,tK,tL⟩:=z3 Az)|((with_reducible refine dB (f:=72) rfl ?_);refine zO Tryz.func72 (by kernel_rfl) (fR.calls k aq ak ay t115 _ A5.out) fun jd hb=>?_;obtain⟨qz,Az⟩:=fN qz Az hb;replace HB:=zS HB hb;(try clear hb)))
  go_ret
  exact⟨zH,zT HB⟩
 ·rw[if_neg c4]at H
  have fI:=beq_eq_false_iff_ne.mpr c4;have n7:=bne_iff_ne.mpr c4;obtain rfl:=Option.some.inj H;go_enter Tryz.func60,Tryz.ntmps60;go_wp2_with (first|((with_reducible refine aZ (N:=2) rfl ?_);refine zY 2 #[.bool af,.string aa,.string aj] 40 ?_;intro al4 hg rY ah hb;have qz:=qa (ah);have al5:=zG hg HB;have al6:=zG hg HB;replace HB:=zS HB hb;clear hb ah hg)|((with_reducible refine aZ (N:=3) rfl ?_);refine zY 3 #[.bool aq,.string ak,.string ay] 40 ?_;intro al7 hg xp ah hb;have Az:=qa (ah);have al8:=zG hg HB;have al9:=zG hg HB;obtain⟨Ql,Qm⟩:=zQ hg qz;replace qz:=zB qz hb;replace HB:=zS HB hb;clear hb ah hg;have AA:=Ql.out;have AB:=Qm.out;obtain⟨z8,z_,FH,Aa,Ab,FJ⟩:=z3 qz)|((with_reducible refine dB (f:=72) rfl ?_);refine zO Tryz.func72 (by kernel_rfl) (fR.calls k af aa aj t114 _ A3.out) fun PA hb=>?_;obtain⟨qz,Az⟩:=fN qz Az hb;replace HB:=zS HB hb;(try clear hb)))
  go_ret
  exact⟨zH,zT HB⟩
def uz.f (k:Nat) (af:Bool) (aa aj:ByteArray) (aN:Bool) (aO aP:ByteArray):Option (Int):=(xB.f k af aa aj aN aO aP).bind fun t117=>(some t117)
theorem uz.calls (k:Nat) (af:Bool) (aa aj:ByteArray) (aN:Bool) (aO aP:ByteArray) (r:Int) (w:World) (h:uz.f k af aa aj aN aO aP=some r) :
  Calls Tryz.prog 44 #[.agg #[.bool af,.string aa,.string aj,.bool aN,.string aO,.string aP]] w fun e w'=>e = .returned (.int .i64 r)∧Below w.heap.size w w':=by
 have nZ:=Tryz.underlying42;have jT:=Tryz.underlying40;have HB:=qa (Below.refl w.heap.size w);unfold uz.f at h;have H:=h;clear h;obtain⟨t117,A2,H⟩:=zo H;obtain rfl:=Option.some.inj H;go_enter Tryz.func44,Tryz.ntmps44;go_wp2_with (first|((with_reducible refine aZ (N:=1) rfl ?_);refine zY 1 #[.bool af,.string aa,.string aj,.bool aN,.string aO,.string aP] 42 ?_;intro axq hg w3 ah hb;have Tv:=qa (ah);have axr:=zG hg HB;have axt:=zG hg HB;replace HB:=zS HB hb;clear hb ah hg;obtain⟨M1,M4,M6,akZ,ak0,ak1,M7,M8,M9,ak2,ak3,ak4⟩:=z6 Tv)|((with_reducible refine dB (f:=60) rfl ?_);refine zO Tryz.func60 (by kernel_rfl) (xB.calls k af aa aj aN aO aP t117 _ A2.out) fun w5 hb=>?_;replace Tv:=zB Tv hb;replace HB:=zS HB hb;(try clear hb)))
 go_ret
 exact⟨zH,zT HB⟩
def sq.f (k:Nat) (af:Bool) (aa aj:ByteArray) (aN:Bool) (aO aP:ByteArray):Option (Int):=(kT.f k (([(⟨(⟨af,aa⟩:aG),aj⟩:aB),(⟨(⟨aN,aO⟩:aG),aP⟩:aB)]:List (aB)))).bind fun t245=>(some t245)
theorem sq.calls (k:Nat) (af:Bool) (aa aj:ByteArray) (aN:Bool) (aO aP:ByteArray) (r:Int) (w:World) (h:sq.f k af aa aj aN aO aP=some r) :
  Calls Tryz.prog 66 #[.agg #[.bool af,.string aa,.string aj,.bool aN,.string aO,.string aP]] w fun e w'=>e = .returned (.int .i64 r)∧Below w.heap.size w w':=by
 have nZ:=Tryz.underlying42;have jT:=Tryz.underlying40;have HB:=qa (Below.refl w.heap.size w);unfold sq.f at h;have H:=h;clear h;obtain⟨UD,JI⟩:∃ y_:List (aB),y_=(([(⟨(⟨af,aa⟩:aG),aj⟩:aB),(⟨(⟨aN,aO⟩:aG),aP⟩:aB)]:List (aB))):=⟨_,rfl⟩
 replace H:((kT.f k UD).bind fun t245=>(some t245))=some r:=by first|(rw[JI];with_reducible exact H)|(have kJ:=(Option.bind_some _ _).symm.trans H;rw[JI];with_reducible exact kJ)|(have kJ:=(Option.bind_some _ _).symm.trans H;with_reducible exact kJ)|with_reducible exact H|(rw[JI];exact H)|exact H
 have aby:=qa JI;clear JI;obtain⟨t245,A2,H⟩:=zo H;obtain rfl:=Option.some.inj H;go_enter Tryz.func66,Tryz.ntmps66;go_wp2_with (first|((with_reducible refine aZ (N:=1) rfl ?_);refine zY 1 #[.bool af,.string aa,.string aj,.bool aN,.string aO,.string aP] 42 ?_;intro axD hg w3 ah hb;have JJ:=qa (ah);have axE:=zG hg HB;have axF:=zG hg HB;replace HB:=zS HB hb;clear hb ah hg;obtain⟨M1,M4,M6,akZ,ak0,ak1,M7,M8,M9,ak2,ak3,ak4⟩:=z6 JJ)|((with_reducible refine aZ (N:=7) rfl ?_);refine Kd.sD kZ _ 40 ?hg (N:=7) ?hd (xs:=([(⟨(⟨af,aa⟩:aG),aj⟩:aB),(⟨(⟨aN,aO⟩:aG),aP⟩:aB)]:List (aB))) (inner:=[.bool af,.string aa,.string aj,.bool aN,.string aO,.string aP]) (ok:=fun _=>True) (pN:=fun _=>True) ?hr ?hp (fun _ hk=>hk) trivial (Below.refl _ _) (Nat.le_refl _) (by simp) ?_;(case hd=>rfl);(case hg=>rfl);(case hr=>first|(go_simp;done)|(go_simp;rfl));(case hp=>exact(bk.c3 (show Kd.M kZ _ _ _ (⟨(⟨af,aa⟩:aG),aj⟩:aB) [.bool af,.string aa,.string aj] from(ry _ _ _ (⟨(⟨af,aa⟩:aG),aj⟩:aB) )) (bk.c3 (show Kd.M kZ _ _ _ (⟨(⟨aN,aO⟩:aG),aP⟩:aB) [.bool aN,.string aO,.string aP] from(ry _ _ _ (⟨(⟨aN,aO⟩:aG),aP⟩:aB) )) (bk.none _ _))));intro azM w5 Ln hb k7 kW;clear k7 kW;(first|rw[← aby.out]at Ln|(simp only[Int.reduceToNat]at Ln;rw[← aby.out]at Ln));have JK:=qa (Kd.ru Ln (q7 (zT HB)));replace JJ:=zB JJ hb;replace HB:=zS HB hb;clear hb Ln;obtain⟨Ao7,co7,eo7⟩:=Kd.sx JK.out;subst eo7)|((with_reducible refine dB (f:=79) rfl ?_);refine zC Tryz.func79 (by kernel_rfl) #[.slice Ao7 UD.length co7] ?_;(with_reducible refine(kT.calls k _ _ UD t245 _ ?lN ?lO A2.out).mono ?_);(case lN=>repeat(first|exact(Kd.kV JK.out).2.2|(with_reducible refine Kd.tE ?_ _)|(with_reducible refine Kd.tF ?_ _)|(with_reducible refine Kd.tM ?_)));(case lO=>exact(Kd.kV JK.out).2.1);rintro e w8 ⟨rfl,hb⟩;refine⟨_,rfl,?_⟩;replace JK:=qa (Kd.jF (by (with_reducible repeat(first|apply Kd.jr|apply Kd.ju|apply Kd.iP));exact JK.out) hb);replace JJ:=zB JJ hb;replace HB:=zS HB hb;(try clear hb)))
 go_ret
 exact⟨zH,zT HB⟩
mutual
def ep.l0:Nat→List (aX)→Int→Int→Option (Int)
 | 0,_,_,_=>none
 | k+1,x8,x9,mL=>if mL<x9 then (if 0≤mL then (if mL<(x8.length:Int) then ((some (([(⟨(⟨(au x8 mL).f0.f0.f0,(au x8 mL).f0.f0.f1⟩:aG),(au x8 mL).f0.f1⟩:aB),(⟨(⟨(au x8 mL).f1.f0.f0,(au x8 mL).f1.f0.f1⟩:aG),(au x8 mL).f1.f1⟩:aB)]:List (aB)):List (aB))).bind fun iC=>(ep.l1 k x8 x9 mL iC (iC.length:Int) 0 ((au x8 mL).f0.f0.f0) ((au x8 mL).f0.f0.f1) ((au x8 mL).f0.f1) ((au x8 mL).f1.f0.f0) ((au x8 mL).f1.f0.f1) ((au x8 mL).f1.f1))) else (none)) else (none)) else (some 0)
def ep.l1:Nat→List (aX)→Int→Int→List (aB)→Int→Int→Bool→ByteArray→ByteArray→Bool→ByteArray→ByteArray→Option (Int)
 | 0,_,_,_,_,_,_,_,_,_,_,_,_=>none
 | k+1,x8,x9,mL,EA,Lo,zh,I1,I2,I3,I4,I5,I6=>if zh<Lo then (if 0≤zh then (if zh<(EA.length:Int) then (if (((dP EA zh).f0.f1).size:Int) > 100 then (ep.j2 k x8 x9 mL EA Lo zh true I1 I2 I3 I4 I5 I6) else (ep.j2 k x8 x9 mL EA Lo zh (decide ((((dP EA zh).f1).size:Int) > 100)) I1 I2 I3 I4 I5 I6)) else (none)) else (none)) else ((sq.f k I1 I2 I3 I4 I5 I6).bind fun Gy=>(if Gy=0 then (ep.l0 k x8 x9 (wrap64 (mL+1))) else (some Gy)))
def ep.j2:Nat→List (aX)→Int→Int→List (aB)→Int→Int→Bool→Bool→ByteArray→ByteArray→Bool→ByteArray→ByteArray→Option (Int)
 | 0,_,_,_,_,_,_,_,_,_,_,_,_,_=>none
 | k+1,x8,x9,mL,EA,Lo,zh,x34,I1,I2,I3,I4,I5,I6=>if x34=true then (some 5) else (ep.l1 k x8 x9 mL EA Lo (wrap64 (zh+1)) I1 I2 I3 I4 I5 I6)
end
def ep.f (k:Nat) (l0:List (aX)):Option (Int):=ep.l0 k l0 (l0.length:Int) 0
theorem ep.calls (k:Nat) (A0:Option Addr) (c0:Nat) (l0:List (aX)) (r:Int) (w:World) (dL:Kd.C dF w A0 l0.length l0) (hc0:l0.length≤c0) (h:ep.f k l0=some r) :
  Calls Tryz.prog 56 #[.slice A0 l0.length c0] w fun e w'=>e = .returned (.int .i64 r)∧Below w.heap.size w w':=by
 have nZ:=Tryz.underlying42;have jT:=Tryz.underlying40;have eF:=qa dL;have xq:=qa hc0;clear dL hc0;have HB:=qa (Below.refl w.heap.size w);unfold ep.f at h;have H:=h;clear h;have H':=qa H;clear H;go_enter Tryz.func56,Tryz.ntmps56;go_wp2
 go_loopg [10] k (fun kq v10 w'=>∃ (bu:Int),v10 = .int .i64 bu∧aM (ep.l0 kq l0 (l0.length:Int) bu=some r)∧aM (kq≤k)∧aM (Below w.heap.size w w'))
 case atStart=>exact⟨(0),zR,H',⟨Nat.le_refl _⟩,⟨zT HB⟩⟩
 case round =>
  clear H';obtain⟨bu,rfl,HA,fY,HB⟩:=hrel;cases gk with
  | zero=>exact absurd HA.out (by simp[ep.l0])
  | succ k1 =>
   have H:=HA.out;clear HA;simp only[ep.l0]at H;by_cases c2:bu<(l0.length:Int)
   ·rw[if_pos c2]at H
    have rL:=decide_eq_true c2;clear c2;by_cases c3:0≤bu
    ·rw[if_pos c3]at H
     have sR:=decide_eq_true c3;clear c3;by_cases c4:bu<(l0.length:Int)
     ·rw[if_pos c4]at H
      have fI:=decide_eq_true c4;clear c4;obtain⟨iC,JL⟩:∃ y_:List (aB),y_=(([(⟨(⟨(au l0 bu).f0.f0.f0,(au l0 bu).f0.f0.f1⟩:aG),(au l0 bu).f0.f1⟩:aB),(⟨(⟨(au l0 bu).f1.f0.f0,(au l0 bu).f1.f0.f1⟩:aG),(au l0 bu).f1.f1⟩:aB)]:List (aB))):=⟨_,rfl⟩
      replace H:(ep.l1 k1 l0 (l0.length:Int) bu iC (iC.length:Int) 0 ((au l0 bu).f0.f0.f0) ((au l0 bu).f0.f0.f1) ((au l0 bu).f0.f1) ((au l0 bu).f1.f0.f0) ((au l0 bu).f1.f0.f1) ((au l0 bu).f1.f1))=some r:=by first|(rw[JL];with_reducible exact H)|(have kJ:=(Option.bind_some _ _).symm.trans H;rw[JL];with_reducible exact kJ)|(have kJ:=(Option.bind_some _ _).symm.trans H;with_reducible exact kJ)|with_reducible exact H|(rw[JL];exact H)|exact H
      have abz:=qa JL;clear JL;have H':=qa H;clear H;have J8:0≤(bu:Int):=of_decide_eq_true (by first|(with_reducible assumption)|assumption);have J9:bu<(l0.length:Int):=of_decide_eq_true (by first|(with_reducible assumption)|assumption);obtain⟨axG,apn,I7,I8,I9,I_,Ja,Jb⟩:=nJ eF.out bu J8 J9;cases apn;replace I7:=(HB.out.cell (World.block_lt_of_cell? w _ I7)).trans I7;replace I8:=(HB.out.cell (World.block_lt_of_cell? w _ I8)).trans I8;replace I9:=(HB.out.cell (World.block_lt_of_cell? w _ I9)).trans I9;replace I_:=(HB.out.cell (World.block_lt_of_cell? w _ I_)).trans I_;replace Ja:=(HB.out.cell (World.block_lt_of_cell? w _ Ja)).trans Ja;replace Jb:=(HB.out.cell (World.block_lt_of_cell? w _ Jb)).trans Jb;replace J8:=eq_true J8;replace J9:=eq_true J9;go_wp2_with (first|((with_reducible refine aZ (N:=4) rfl ?_);(try(refine Cb (by rfl) ?_;dsimp only));refine zY 4 #[.bool false,.string ⟨#[]⟩,.string ⟨#[]⟩,.bool false,.string ⟨#[]⟩,.string ⟨#[]⟩] 42 ?_;intro Tx hg w5 ah hb;have oD:=qa (ah);have axH:=zG hg HB;have axI:=zG hg HB;replace HB:=zS HB hb;clear hb ah hg;obtain⟨uL,uM,xS,aah,aai,aaj,uN,uO,xT,aak,aal,aam⟩:=z6 oD)|((with_reducible refine aZ (N:=18) rfl ?_);(try(refine Cb (by rfl) ?_;dsimp only));refine Kd.sD kZ _ 40 ?hg (N:=18) ?hd (xs:=([(⟨(⟨(au l0 bu).f0.f0.f0,(au l0 bu).f0.f0.f1⟩:aG),(au l0 bu).f0.f1⟩:aB),(⟨(⟨(au l0 bu).f1.f0.f0,(au l0 bu).f1.f0.f1⟩:aG),(au l0 bu).f1.f1⟩:aB)]:List (aB))) (inner:=[.bool ((au l0 bu).f0.f0.f0),.string ((au l0 bu).f0.f0.f1),.string ((au l0 bu).f0.f1),.bool ((au l0 bu).f1.f0.f0),.string ((au l0 bu).f1.f0.f1),.string ((au l0 bu).f1.f1)]) (ok:=fun _=>True) (pN:=fun _=>True) ?hr ?hp (fun _ hk=>hk) trivial (Below.refl _ _) (Nat.le_refl _) (by simp) ?_;(case hd=>rfl);(case hg=>rfl);(case hr=>first|(go_simp;done)|(go_simp;rfl));(case hp=>exact(bk.c3 (show Kd.M kZ _ _ _ (⟨(⟨(au l0 bu).f0.f0.f0,(au l0 bu).f0.f0.f1⟩:aG),(au l0 bu).f0.f1⟩:aB) [.bool ((au l0 bu).f0.f0.f0),.string ((au l0 bu).f0.f0.f1),.string ((au l0 bu).f0.f1)] from(ry _ _ _ (⟨(⟨(au l0 bu).f0.f0.f0,(au l0 bu).f0.f0.f1⟩:aG),(au l0 bu).f0.f1⟩:aB) )) (bk.c3 (show Kd.M kZ _ _ _ (⟨(⟨(au l0 bu).f1.f0.f0,(au l0 bu).f1.f0.f1⟩:aG),(au l0 bu).f1.f1⟩:aB) [.bool ((au l0 bu).f1.f0.f0),.string ((au l0 bu).f1.f0.f1),.string ((au l0 bu).f1.f1)] from(ry _ _ _ (⟨(⟨(au l0 bu).f1.f0.f0,(au l0 bu).f1.f0.f1⟩:aG),(au l0 bu).f1.f1⟩:aB) )) (bk.none _ _))));intro azN w7 Lp hb k7 kW;clear k7 kW;(first|rw[← abz.out]at Lp|(simp only[Int.reduceToNat]at Lp;rw[← abz.out]at Lp));have abA:=qa (Kd.ru Lp (q7 (zT HB)));replace oD:=qa (eA (g:=Tx) (o := .cells #[.bool ((au l0 bu).f0.f0.f0),.string ((au l0 bu).f0.f0.f1),.string ((au l0 bu).f0.f1),.bool ((au l0 bu).f1.f0.f0),.string ((au l0 bu).f1.f0.f1),.string ((au l0 bu).f1.f1)] 42 (0,0)) (by (with_reducible repeat(first|refine aI ?_ _|refine aH ?_|refine aF ?_ _));refine zP (cs:=#[.bool ((au l0 bu).f0.f0.f0),.string ((au l0 bu).f0.f0.f1),.string ((au l0 bu).f0.f1),.bool ((au l0 bu).f1.f0.f0),.string ((au l0 bu).f1.f0.f1),.string ⟨#[]⟩]) ?_ 5 _;(with_reducible repeat(first|refine aI ?_ _|refine aH ?_|refine aF ?_ _));refine zP (cs:=#[.bool ((au l0 bu).f0.f0.f0),.string ((au l0 bu).f0.f0.f1),.string ((au l0 bu).f0.f1),.bool ((au l0 bu).f1.f0.f0),.string ⟨#[]⟩,.string ⟨#[]⟩]) ?_ 4 _;(with_reducible repeat(first|refine aI ?_ _|refine aH ?_|refine aF ?_ _));refine zP (cs:=#[.bool ((au l0 bu).f0.f0.f0),.string ((au l0 bu).f0.f0.f1),.string ((au l0 bu).f0.f1),.bool false,.string ⟨#[]⟩,.string ⟨#[]⟩]) ?_ 3 _;(with_reducible repeat(first|refine aI ?_ _|refine aH ?_|refine aF ?_ _));refine zP (cs:=#[.bool ((au l0 bu).f0.f0.f0),.string ((au l0 bu).f0.f0.f1),.string ⟨#[]⟩,.bool false,.string ⟨#[]⟩,.string ⟨#[]⟩]) ?_ 2 _;(with_reducible repeat(first|refine aI ?_ _|refine aH ?_|refine aF ?_ _));refine zP (cs:=#[.bool ((au l0 bu).f0.f0.f0),.string ⟨#[]⟩,.string ⟨#[]⟩,.bool false,.string ⟨#[]⟩,.string ⟨#[]⟩]) ?_ 1 _;(with_reducible repeat(first|refine aI ?_ _|refine aH ?_|refine aF ?_ _));refine zP (cs:=#[.bool false,.string ⟨#[]⟩,.string ⟨#[]⟩,.bool false,.string ⟨#[]⟩,.string ⟨#[]⟩]) ?_ 0 _;(with_reducible repeat(first|refine aI ?_ _|refine aH ?_|refine aF ?_ _));exact oD.out) hb);replace HB:=zS HB hb;clear hb Lp;obtain⟨Ao9,co9,eo9⟩:=Kd.sx abA.out;subst eo9))
      go_loopg [20] k1 (fun kq v20 w'=>∃ (jG:Int),v20 = .int .i64 jG∧aM (ep.l1 kq l0 (l0.length:Int) bu iC (iC.length:Int) jG ((au l0 bu).f0.f0.f0) ((au l0 bu).f0.f0.f1) ((au l0 bu).f0.f1) ((au l0 bu).f1.f0.f0) ((au l0 bu).f1.f0.f1) ((au l0 bu).f1.f1)=some r)∧aM (kq≤k1)∧aM (Kd.R kZ 40 w' w.heap.size (fun _=>True) (.slice Ao9 iC.length co9) iC)∧aM (w'.heap[Tx]?=some (.cells #[.bool ((au l0 bu).f0.f0.f0),.string ((au l0 bu).f0.f0.f1),.string ((au l0 bu).f0.f1),.bool ((au l0 bu).f1.f0.f0),.string ((au l0 bu).f1.f0.f1),.string ((au l0 bu).f1.f1)] 42 (0,0)))∧aM (Below w.heap.size w w'))
      case atStart=>exact⟨(0),zR,H',⟨Nat.le_refl _⟩,⟨by (with_reducible repeat(first|apply Kd.jr|apply Kd.ju|apply Kd.iP));exact abA.out⟩,zK oD,⟨zT HB⟩⟩
      case round =>
       clear H';try clear c2;try clear rL;try clear p2;try clear q2;try clear hx2;try clear c3;try clear sR;try clear c4;try clear fI;try clear c5;try clear uL;try clear uM;try clear xS;try clear aah;try clear aai;try clear aaj;try clear uN;try clear uO;try clear xT;try clear aak;try clear aal;try clear aam;try clear I7;try clear I8;try clear I9;try clear I_;try clear Ja;try clear Jb;try clear J8;try clear J9
       obtain⟨jG,rfl,HA,Hh,uU,oD,HB⟩:=hrel;cases gk with
       | zero=>exact absurd HA.out (by simp[ep.l1])
       | succ k2 =>
        have H:=HA.out;clear HA;simp only[ep.l1]at H;by_cases c10:jG<(iC.length:Int)
        ·rw[if_pos c10]at H
         have nY:=decide_eq_true c10;clear c10;by_cases c11:0≤jG
         ·rw[if_pos c11]at H
          have amq:=decide_eq_true c11;clear c11;by_cases c12:jG<(iC.length:Int)
          ·rw[if_pos c12]at H
           have abp:=decide_eq_true c12;clear c12;have UE:=qa H;clear H;have Ow:0≤(jG:Int):=of_decide_eq_true (by first|(with_reducible assumption)|assumption);have Ox:jG<(iC.length:Int):=of_decide_eq_true (by first|(with_reducible assumption)|assumption);obtain⟨amr,apo,aij,aik,ail⟩:=Sz (Kd.kV uU.out).2.2 jG Ow Ox;cases apo;replace Ow:=eq_true Ow;replace Ox:=eq_true Ox;go_upto_region 7 with (first|((with_reducible refine aZ (N:=6) rfl ?_);(try(refine Cb (by rfl) ?_;dsimp only));refine zY 6 #[.bool false,.string ⟨#[]⟩,.string ⟨#[]⟩] 40 ?_;intro uV hg xp ah hb;have F8:=qa (ah);have axJ:=zG hg HB;have axK:=zG hg HB;obtain⟨Qn,Qo⟩:=zQ hg oD;replace uU:=qa (Kd.jF (Kd.af8 (by (with_reducible repeat(first|apply Kd.jr|apply Kd.ju|apply Kd.iP));exact uU.out) uV (Nat.le_of_eq hg.symm)) hb);replace oD:=zB oD hb;replace HB:=zS HB hb;clear hb ah hg;have AA:=Qo.out;have AB:=Qn.out;obtain⟨z8,z_,FH,Aa,Ab,FJ⟩:=z3 F8))
           (try simp only[Act.put,List.setIfInBounds_toArray,List.set_cons_zero,List.set_cons_succ])
           go_cut [34] (fun v34 wc=>∃ (kq:Nat) (Nl:Bool),v34 = .bool Nl∧aM (ep.j2 kq l0 (l0.length:Int) bu iC (iC.length:Int) jG Nl ((au l0 bu).f0.f0.f0) ((au l0 bu).f0.f0.f1) ((au l0 bu).f0.f1) ((au l0 bu).f1.f0.f0) ((au l0 bu).f1.f0.f1) ((au l0 bu).f1.f1)=some r)∧aM (kq≤k2)∧aM (Kd.R kZ 40 wc w.heap.size (fun k_=>k_≠uV) (.slice (some amr) iC.length co9) iC)∧aM (wc.heap[Tx]?=some (.cells #[.bool ((au l0 bu).f0.f0.f0),.string ((au l0 bu).f0.f0.f1),.string ((au l0 bu).f0.f1),.bool ((au l0 bu).f1.f0.f0),.string ((au l0 bu).f1.f0.f1),.string ((au l0 bu).f1.f1)] 42 (0,0)))∧aM (wc.heap[uV]?=some (.cells #[.bool ((dP iC jG).f0.f0),.string ((dP iC jG).f0.f1),.string ((dP iC jG).f1)] 40 (0,0)))∧aM (Below w.heap.size w wc))
           case first =>
            have H:=UE.out;clear UE;by_cases c17:(((dP iC jG).f0.f1).size:Int) > 100
            ·rw[if_pos c17]at H
             have F9:=decide_eq_true c17;have abB:decide (100<((dP iC jG).f0.f1).size)=true:=decide_eq_true (by omega);clear c17
             (first|rw[F9]|(simp only[dJ,dK];rw[F9])|skip)
             have H':=qa H;clear H;have JE:=Qo.out;have JF:=Qn.out;obtain⟨xL,xM,Cv,xN,xO,Cw⟩:=z3 F8;go_wp2
             go_meet
             case rel=>exact⟨_,(true),zR,H',⟨by have:=fY.out;have:=Hh.out;first|omega|exact Nat.le_refl _⟩,⟨by (with_reducible repeat(first|apply Kd.jr|apply Kd.ju|apply Kd.iP));exact Kd.xQ (Kd.FT (p:=⟨uV,2,none⟩) (Kd.FT (p:=⟨uV,1,none⟩) (Kd.FT (p:=⟨uV,0,none⟩) (Kd.xQ uU.out (fun k_ hk=>(⟨hk,hk.2⟩:_∧k_≠uV))) (fun _ hk=>hk.2) (.bool ((dP iC jG).f0.f0))) (fun _ hk=>hk.2) (.string ((dP iC jG).f0.f1))) (fun _ hk=>hk.2) (.string ((dP iC jG).f1))) (fun _ hk=>hk.1.2)⟩,zK oD,⟨by (with_reducible repeat(first|refine aI ?_ _|refine aH ?_|refine aF ?_ _));refine zP (cs:=#[.bool ((dP iC jG).f0.f0),.string ((dP iC jG).f0.f1),.string ⟨#[]⟩]) ?_ 2 _;(with_reducible repeat(first|refine aI ?_ _|refine aH ?_|refine aF ?_ _));refine zP (cs:=#[.bool ((dP iC jG).f0.f0),.string ⟨#[]⟩,.string ⟨#[]⟩]) ?_ 1 _;(with_reducible repeat(first|refine aI ?_ _|refine aH ?_|refine aF ?_ _));refine zP (cs:=#[.bool false,.string ⟨#[]⟩,.string ⟨#[]⟩]) ?_ 0 _;(with_reducible repeat(first|refine aI ?_ _|refine aH ?_|refine aF ?_ _));exact F8.out⟩,⟨zT HB⟩⟩
            ·rw[if_neg c17]at H
             have F9:=decide_eq_false c17;have abB:decide (100<((dP iC jG).f0.f1).size)=false:=decide_eq_false (by omega);clear c17
             (first|rw[F9]|(simp only[dJ,dK];rw[F9])|skip)
             have H':=qa H;clear H;have NS:=Qo.out;have NT:=Qn.out;obtain⟨CA,CB,Jc,CC,CD,Jd⟩:=z3 F8;go_wp2
             go_meet
             case rel=>exact⟨_,(decide ((((dP iC jG).f1).size:Int) > 100)),zR,H',⟨by have:=fY.out;have:=Hh.out;first|omega|exact Nat.le_refl _⟩,⟨by (with_reducible repeat(first|apply Kd.jr|apply Kd.ju|apply Kd.iP));exact Kd.xQ (Kd.FT (p:=⟨uV,2,none⟩) (Kd.FT (p:=⟨uV,1,none⟩) (Kd.FT (p:=⟨uV,0,none⟩) (Kd.xQ uU.out (fun k_ hk=>(⟨hk,hk.2⟩:_∧k_≠uV))) (fun _ hk=>hk.2) (.bool ((dP iC jG).f0.f0))) (fun _ hk=>hk.2) (.string ((dP iC jG).f0.f1))) (fun _ hk=>hk.2) (.string ((dP iC jG).f1))) (fun _ hk=>hk.1.2)⟩,zK oD,⟨by (with_reducible repeat(first|refine aI ?_ _|refine aH ?_|refine aF ?_ _));refine zP (cs:=#[.bool ((dP iC jG).f0.f0),.string ((dP iC jG).f0.f1),.string ⟨#[]⟩]) ?_ 2 _;(with_reducible repeat(first|refine aI ?_ _|refine aH ?_|refine aF ?_ _));refine zP (cs:=#[.bool ((dP iC jG).f0.f0),.string ⟨#[]⟩,.string ⟨#[]⟩]) ?_ 1 _;(with_reducible repeat(first|refine aI ?_ _|refine aH ?_|refine aF ?_ _));refine zP (cs:=#[.bool false,.string ⟨#[]⟩,.string ⟨#[]⟩]) ?_ 0 _;(with_reducible repeat(first|refine aI ?_ _|refine aH ?_|refine aF ?_ _));exact F8.out⟩,⟨zT HB⟩⟩
           case rest =>
            clear UE;try clear c1;try clear c2;try clear rL;try clear p2;try clear q2;try clear hx2;try clear c3;try clear sR;try clear c4;try clear fI;try clear c5;try clear c10;try clear nY;try clear c11;try clear amq;try clear c12;try clear abp;try clear c15;try clear c17;try clear F9;try clear abB;try clear c18;try clear c20;try clear z8;try clear z_;try clear FH;try clear xL;try clear xM;try clear Cv;try clear CA;try clear CB;try clear Jc;try clear uL;try clear uM;try clear xS;try clear aah;try clear aai;try clear aaj;try clear Aa;try clear Ab;try clear FJ;try clear xN;try clear xO;try clear Cw;try clear CC;try clear CD;try clear Jd;try clear uN;try clear uO;try clear xT;try clear aak;try clear aal;try clear aam;try clear I7;try clear I8;try clear I9;try clear I_;try clear Ja;try clear Jb;try clear aij;try clear aik;try clear ail;try clear p2;try clear J8;try clear Ow;try clear q2;try clear J9;try clear Ox
            obtain⟨kq,Nl,rfl,HA,adi,uU,oD,F8,HB⟩:=hcut;cases kq with
            | zero=>exact absurd HA.out (by simp[ep.j2])
            | succ apq =>
             have H:=HA.out;clear HA;simp only[ep.j2]at H;by_cases Lr:Nl=true
             ·subst Lr
              rw[if_pos rfl]at H
              obtain rfl:=Option.some.inj H;go_wp2
              go_ret
              exact⟨zH,zT HB⟩
             ·replace Lr:=Bool.eq_false_iff.mpr Lr
              subst Lr;rw[if_neg zn]at H
              have H':=qa H;clear H;go_wp2
              go_roundg apq
              case measure=>have:=fY.out;have:=Hh.out;have:=adi.out;omega
              case rel=>exact⟨(wrap64 (jG+1)),zR,H',⟨by have:=fY.out;have:=Hh.out;have:=adi.out;omega⟩,⟨by (with_reducible repeat(first|apply Kd.jr|apply Kd.ju|apply Kd.iP));exact Kd.xQ uU.out (fun _ hk=>trivial)⟩,zK oD,⟨zT HB⟩⟩
          ·rw[if_neg c12]at H
           exact absurd H (by simp)
         ·rw[if_neg c11]at H
          exact absurd H (by simp)
        ·rw[if_neg c10]at H
         have nY:=decide_eq_false c10;clear c10;obtain⟨Gy,A23,H⟩:=zo H;by_cases ur:Gy=0
         ·rw[if_pos ur]at H
          have ams:=beq_iff_eq.mpr ur;have amt:=bne_eq_false_iff_eq.mpr ur;clear ur;have H':=qa H;clear H;obtain⟨YZ,Y3,Y4,aru,arv,arw,Y5,Y6,Y7,arx,ary,arz⟩:=z6 oD;go_wp2_with (first|((with_reducible refine dB (f:=66) rfl ?_);refine zO Tryz.func66 (by kernel_rfl) (sq.calls k2 ((au l0 bu).f0.f0.f0) ((au l0 bu).f0.f0.f1) ((au l0 bu).f0.f1) ((au l0 bu).f1.f0.f0) ((au l0 bu).f1.f0.f1) ((au l0 bu).f1.f1) Gy _ A23.out) fun Lf hb=>?_;replace uU:=qa (Kd.jF (by (with_reducible repeat(first|apply Kd.jr|apply Kd.ju|apply Kd.iP));exact uU.out) hb);replace oD:=zB oD hb;replace HB:=zS HB hb;(try clear hb)))
          go_roundg k2
          case measure=>have:=fY.out;have:=Hh.out;omega
          case rel=>exact⟨(wrap64 (bu+1)),zR,H',⟨by have:=fY.out;have:=Hh.out;omega⟩,⟨zT HB⟩⟩
         ·rw[if_neg ur]at H
          have ams:=beq_eq_false_iff_ne.mpr ur;have amt:=bne_iff_ne.mpr ur;obtain rfl:=Option.some.inj H;obtain⟨Zd,Ze,Zf,Zg,Zh,Zi,Zj,Zk,Zl,Zm,Zn,Zo⟩:=z6 oD;go_wp2_with (first|((with_reducible refine dB (f:=66) rfl ?_);refine zO Tryz.func66 (by kernel_rfl) (sq.calls k2 ((au l0 bu).f0.f0.f0) ((au l0 bu).f0.f0.f1) ((au l0 bu).f0.f1) ((au l0 bu).f1.f0.f0) ((au l0 bu).f1.f0.f1) ((au l0 bu).f1.f1) Gy _ A23.out) fun Py hb=>?_;replace uU:=qa (Kd.jF (by (with_reducible repeat(first|apply Kd.jr|apply Kd.ju|apply Kd.iP));exact uU.out) hb);replace oD:=zB oD hb;replace HB:=zS HB hb;(try clear hb)))
          go_ret
          exact⟨zH,zT HB⟩
     ·rw[if_neg c4]at H
      exact absurd H (by simp)
    ·rw[if_neg c3]at H
     exact absurd H (by simp)
   ·rw[if_neg c2]at H
    have rL:=decide_eq_false c2;clear c2;obtain rfl:=Option.some.inj H;go_wp2
    go_ret
    exact⟨zH,zT HB⟩
def uH.f (k:Nat) (af:Bool) (aa aj:ByteArray) (aq:Bool) (ak ay:ByteArray):Option (Int):=(eY.f k af aa aj).bind fun GA=>(if GA=0 then ((eY.f k aq ak ay).bind fun UR=>(some UR)) else (some GA))
theorem uH.calls (k:Nat) (af:Bool) (aa aj:ByteArray) (aq:Bool) (ak ay:ByteArray) (r:Int) (w:World) (h:uH.f k af aa aj aq ak ay=some r) :
  Calls Tryz.prog 120 #[.agg #[.bool af,.string aa,.string aj],.agg #[.bool aq,.string ak,.string ay]] w fun e w'=>e = .returned (.int .i64 r)∧Below w.heap.size w w':=by
 have jT:=Tryz.underlying40;have HB:=qa (Below.refl w.heap.size w);unfold uH.f at h;have H:=h;clear h;obtain⟨GA,A3,H⟩:=zo H;by_cases c4:GA=0
 ·rw[if_pos c4]at H
  have fI:=beq_iff_eq.mpr c4;have n7:=bne_eq_false_iff_eq.mpr c4;clear c4;obtain⟨UR,A5,H⟩:=zo H;obtain rfl:=Option.some.inj H;go_enter Tryz.func120,Tryz.ntmps120;go_wp2_with (first|((with_reducible refine aZ (N:=2) rfl ?_);refine zY 2 #[.bool af,.string aa,.string aj] 40 ?_;intro amW hg w6 ah hb;have qA:=qa (ah);have amX:=zG hg HB;have amY:=zG hg HB;replace HB:=zS HB hb;clear hb ah hg)|((with_reducible refine aZ (N:=3) rfl ?_);refine zY 3 #[.bool aq,.string ak,.string ay] 40 ?_;intro amZ hg w7 ah hb;have AE:=qa (ah);have am0:=zG hg HB;have am1:=zG hg HB;obtain⟨Qp,Qq⟩:=zQ hg qA;replace qA:=zB qA hb;replace HB:=zS HB hb;clear hb ah hg;have AM:=Qp.out;have AO:=Qq.out;obtain⟨Ap,Aq,FO,Ar,At,FP⟩:=z3 qA)|((with_reducible refine dB (f:=95) rfl ?_);refine zO Tryz.func95 (by kernel_rfl) (eY.calls k af aa aj GA _ A3.out) fun g_ hb=>?_;obtain⟨qA,AE⟩:=fN qA AE hb;replace HB:=zS HB hb;(try clear hb);obtain⟨tG,tH,tI,tJ,tK,tL⟩:=z3 AE)|((with_reducible refine dB (f:=95) rfl ?_);refine zO Tryz.func95 (by kernel_rfl) (eY.calls k aq ak ay UR _ A5.out) fun jd hb=>?_;obtain⟨qA,AE⟩:=fN qA AE hb;replace HB:=zS HB hb;(try clear hb)))
  go_ret
  exact⟨zH,zT HB⟩
 ·rw[if_neg c4]at H
  have fI:=beq_eq_false_iff_ne.mpr c4;have n7:=bne_iff_ne.mpr c4;obtain rfl:=Option.some.inj H;go_enter Tryz.func120,Tryz.ntmps120;go_wp2_with (first|((with_reducible refine aZ (N:=2) rfl ?_);refine zY 2 #[.bool af,.string aa,.string aj] 40 ?_;intro amW hg rY ah hb;have qA:=qa (ah);have amX:=zG hg HB;have amY:=zG hg HB;replace HB:=zS HB hb;clear hb ah hg)|((with_reducible refine aZ (N:=3) rfl ?_);refine zY 3 #[.bool aq,.string ak,.string ay] 40 ?_;intro amZ hg xp ah hb;have AE:=qa (ah);have am0:=zG hg HB;have am1:=zG hg HB;obtain⟨Qp,Qq⟩:=zQ hg qA;replace qA:=zB qA hb;replace HB:=zS HB hb;clear hb ah hg;have AA:=Qp.out;have AB:=Qq.out;obtain⟨z8,z_,FH,Aa,Ab,FJ⟩:=z3 qA)|((with_reducible refine dB (f:=95) rfl ?_);refine zO Tryz.func95 (by kernel_rfl) (eY.calls k af aa aj GA _ A3.out) fun PA hb=>?_;obtain⟨qA,AE⟩:=fN qA AE hb;replace HB:=zS HB hb;(try clear hb)))
  go_ret
  exact⟨zH,zT HB⟩
open Go.Proofs.YtfcjnhkkfmgmpaaGreat Go.Proofs.YtfcjnhkkfmgmpaaGreat.aR in
def Hx.f (a0:Int):Option (Bool × ByteArray):=if -9223372036854775808≤a0∧a0≤9223372036854775807 then some ((pv a0).1,(pv a0).2) else none
open Go.Proofs.YtfcjnhkkfmgmpaaGreat Go.Proofs.YtfcjnhkkfmgmpaaGreat.aR in
theorem Hx.calls (a0:Int) (r1:Bool) (r2:ByteArray) (w:World) (h:Hx.f a0=some (r1,r2)) :
  Calls Tryz.prog 73 #[.int .i64 a0] w fun e w'=>e = .returned (.agg #[.bool r1,.string r2])∧Below w.heap.size w w':=by
 unfold Hx.f at h;split at h
 ·rename_i hc
  simp only[Option.some.injEq,Prod.mk.injEq]at h;obtain⟨rfl,rfl⟩:=h;exact aoZ a0 hc.1 hc.2 w
 ·exact absurd h (by simp)
end Go.Proofs.aC.R
