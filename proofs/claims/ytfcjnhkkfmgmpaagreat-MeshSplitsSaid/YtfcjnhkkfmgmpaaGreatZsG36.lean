import Derived.Test.YtfcjnhkkfmgmpaaGreatZsG35
set_option linter.all false
set_option maxRecDepth 100000
set_option maxHeartbeats 8000000
namespace Go.Proofs.aC.R
open Go.RowKit Go.Proofs.aC.Z Go.Proofs.aD.bf Go.Proofs.aD.ck Go.Proofs.aD.cL
attribute [local go_sem] cY cZ dm dn cW cX dc dh
mutual
def jN.l0:Nat→List (aX)→Int→Option (Int)
 | 0,_,_=>none
 | k+1,x0,x3=>if x3<(x0.length:Int) then (if 0≤x3 then ((tu.f ((au x0 x3).f0.f0.f0) ((au x0 x3).f0.f0.f1) ((au x0 x3).f0.f1)).bind fun t119=>(if t119=true then (jN.j1 k x0 x3 true) else ((tu.f ((au x0 x3).f1.f0.f0) ((au x0 x3).f1.f0.f1) ((au x0 x3).f1.f1)).bind fun t121=>(jN.j1 k x0 x3 t121)))) else (none)) else (some 0)
def jN.j1:Nat→List (aX)→Int→Bool→Option (Int)
 | 0,_,_,_=>none
 | k+1,x0,x3,V8=>if V8=true then (some 5) else (if 0≤x3 then (if x3<(x0.length:Int) then ((uz.f k ((au x0 x3).f0.f0.f0) ((au x0 x3).f0.f0.f1) ((au x0 x3).f0.f1) ((au x0 x3).f1.f0.f0) ((au x0 x3).f1.f0.f1) ((au x0 x3).f1.f1)).bind fun t123=>(if t123=0 then (jN.l0 k x0 (wrap64 (x3+1))) else (some t123))) else (none)) else (none))
end
def jN.f (k:Nat) (l0:List (aX)):Option (Int):=jN.l0 k l0 0
theorem jN.calls (k:Nat) (A0:Option Addr) (c0:Nat) (l0:List (aX)) (r:Int) (w:World) (dL:Kd.C dF w A0 l0.length l0) (hc0:l0.length≤c0) (h:jN.f k l0=some r) :
  Calls Tryz.prog 18 #[.slice A0 l0.length c0] w fun e w'=>e = .returned (.int .i64 r)∧Below w.heap.size w w':=by
 have jT:=Tryz.underlying40;have nZ:=Tryz.underlying42;have eF:=qa dL;have xq:=qa hc0;clear dL hc0;have HB:=qa (Below.refl w.heap.size w);unfold jN.f at h;have H:=h;clear h;have H':=qa H;clear H;go_enter Tryz.func18,Tryz.ntmps18;go_wp2
 go_loopg [3] k (fun kq v3 w'=>∃ (fu:Int),v3 = .int .i64 fu∧aM (jN.l0 kq l0 fu=some r)∧aM (kq≤k)∧aM (Below w.heap.size w w'))
 case atStart=>exact⟨(0),zR,H',⟨Nat.le_refl _⟩,⟨zT HB⟩⟩
 case round =>
  clear H';try clear c1
  obtain⟨fu,rfl,HA,fY,HB⟩:=hrel;cases gk with
  | zero=>exact absurd HA.out (by simp[jN.l0])
  | succ k1 =>
   have H:=HA.out;clear HA;simp only[jN.l0]at H;by_cases c2:fu<(l0.length:Int)
   ·rw[if_pos c2]at H
    have rL:=decide_eq_true c2;clear c2;have nS:=qa H;clear H;go_upto_region 4 with (fail)
    go_cut [24] (fun v24 wc=>∃ (kq:Nat) (NL:Bool),v24 = .bool NL∧aM (jN.j1 kq l0 fu NL=some r)∧aM (kq≤k1)∧aM (Below w.heap.size w wc))
    case first =>
     have H:=nS.out;clear nS;by_cases c4:0≤fu
     ·rw[if_pos c4]at H
      have fI:=decide_eq_true c4;clear c4
      (first|rw[fI]|(simp only[dJ,dK];rw[fI])|skip)
      obtain⟨t119,A5,H⟩:=zo H;by_cases c6:t119=true
      ·subst c6
       rw[if_pos rfl]at H
       have H':=qa H;clear H;have AV:0≤(fu:Int):=of_decide_eq_true (by first|(with_reducible assumption)|assumption);have AW:fu<(l0.length:Int):=of_decide_eq_true (by first|(with_reducible assumption)|assumption);obtain⟨abo,Uz,Ac,Ad,Ae,Af,Ag,Ah⟩:=nJ eF.out fu AV AW;cases Uz;replace Ac:=(HB.out.cell (World.block_lt_of_cell? w _ Ac)).trans Ac;replace Ad:=(HB.out.cell (World.block_lt_of_cell? w _ Ad)).trans Ad;replace Ae:=(HB.out.cell (World.block_lt_of_cell? w _ Ae)).trans Ae;replace Af:=(HB.out.cell (World.block_lt_of_cell? w _ Af)).trans Af;replace Ag:=(HB.out.cell (World.block_lt_of_cell? w _ Ag)).trans Ag;replace Ah:=(HB.out.cell (World.block_lt_of_cell? w _ Ah)).trans Ah;replace AV:=eq_true AV;replace AW:=eq_true AW;go_wp2_with (first|((with_reducible refine dB (f:=43) rfl ?_);refine zO Tryz.func43 (by kernel_rfl) (tu.calls ((au l0 fu).f0.f0.f0) ((au l0 fu).f0.f0.f1) ((au l0 fu).f0.f1) true _ A5.out) fun w7 hb=>?_;replace HB:=zS HB hb;(try clear hb)))
       go_meet
       case rel=>exact⟨_,(true),zR,H',⟨by have:=fY.out;first|omega|exact Nat.le_refl _⟩,⟨zT HB⟩⟩
      ·replace c6:=Bool.eq_false_iff.mpr c6
       subst c6;rw[if_neg zn]at H
       obtain⟨t121,A8,H⟩:=zo H;have H':=qa H;clear H;have AV:0≤(fu:Int):=of_decide_eq_true (by first|(with_reducible assumption)|assumption);have AW:fu<(l0.length:Int):=of_decide_eq_true (by first|(with_reducible assumption)|assumption);obtain⟨abo,Uz,Ac,Ad,Ae,Af,Ag,Ah⟩:=nJ eF.out fu AV AW;cases Uz;replace Ac:=(HB.out.cell (World.block_lt_of_cell? w _ Ac)).trans Ac;replace Ad:=(HB.out.cell (World.block_lt_of_cell? w _ Ad)).trans Ad;replace Ae:=(HB.out.cell (World.block_lt_of_cell? w _ Ae)).trans Ae;replace Af:=(HB.out.cell (World.block_lt_of_cell? w _ Af)).trans Af;replace Ag:=(HB.out.cell (World.block_lt_of_cell? w _ Ag)).trans Ag;replace Ah:=(HB.out.cell (World.block_lt_of_cell? w _ Ah)).trans Ah;replace AV:=eq_true AV;replace AW:=eq_true AW;go_wp2_with (first|((with_reducible refine dB (f:=43) rfl ?_);refine zO Tryz.func43 (by kernel_rfl) (tu.calls ((au l0 fu).f0.f0.f0) ((au l0 fu).f0.f0.f1) ((au l0 fu).f0.f1) false _ A5.out) fun w9 hb=>?_;replace HB:=zS HB hb;(try clear hb);have Ou:0≤(fu:Int):=of_decide_eq_true (by first|(with_reducible assumption)|assumption);have Ov:fu<(l0.length:Int):=of_decide_eq_true (by first|(with_reducible assumption)|assumption);obtain⟨al_,apg,My,Mz,MA,MC,MD,ME⟩:=nJ eF.out fu Ou Ov;obtain rfl:abo=al_:=(by injection apg);replace My:=(HB.out.cell (World.block_lt_of_cell? w _ My)).trans My;replace Mz:=(HB.out.cell (World.block_lt_of_cell? w _ Mz)).trans Mz;replace MA:=(HB.out.cell (World.block_lt_of_cell? w _ MA)).trans MA;replace MC:=(HB.out.cell (World.block_lt_of_cell? w _ MC)).trans MC;replace MD:=(HB.out.cell (World.block_lt_of_cell? w _ MD)).trans MD;replace ME:=(HB.out.cell (World.block_lt_of_cell? w _ ME)).trans ME;replace Ou:=eq_true Ou;replace Ov:=eq_true Ov)|(go_at_call 43;(with_reducible refine(tu.calls ((au l0 fu).f1.f0.f0) ((au l0 fu).f1.f0.f1) ((au l0 fu).f1.f1) t121 _ A8.out).mono ?_);rintro e g_ ⟨rfl,hb⟩;replace HB:=zS HB hb;(try clear hb)))
       go_meet
       case rel=>exact⟨_,(t121),zR,H',⟨by have:=fY.out;first|omega|exact Nat.le_refl _⟩,⟨zT HB⟩⟩
     ·rw[if_neg c4]at H
      exact absurd H (by simp)
    case rest =>
     clear nS;try clear c1;try clear p1;try clear q1;try clear hx1;try clear c2;try clear rL;try clear p2;try clear c4;try clear fI;try clear c6;try clear Ac;try clear Ad;try clear Ae;try clear Af;try clear Ag;try clear Ah;try clear My;try clear Mz;try clear MA;try clear MC;try clear MD;try clear ME;try clear AV;try clear Ou;try clear AW;try clear Ov
     obtain⟨kq,NL,rfl,HA,yU,HB⟩:=hcut;cases kq with
     | zero=>exact absurd HA.out (by simp[jN.j1])
     | succ G7 =>
      have H:=HA.out;clear HA;simp only[jN.j1]at H;by_cases c11:NL=true
      ·subst c11
       rw[if_pos rfl]at H
       obtain rfl:=Option.some.inj H;go_wp2
       go_ret
       exact⟨zH,zT HB⟩
      ·replace c11:=Bool.eq_false_iff.mpr c11
       subst c11;rw[if_neg zn]at H
       by_cases c12:0≤fu
       ·rw[if_pos c12]at H
        have abp:=decide_eq_true c12;clear c12;by_cases c13:fu<(l0.length:Int)
        ·rw[if_pos c13]at H
         have JH:=decide_eq_true c13;clear c13;obtain⟨t123,A14,H⟩:=zo H;by_cases c15:t123=0
         ·rw[if_pos c15]at H
          have AD:=beq_iff_eq.mpr c15;have NM:=bne_eq_false_iff_eq.mpr c15;clear c15;have H':=qa H;clear H;have DC:0≤(fu:Int):=of_decide_eq_true (by first|(with_reducible assumption)|assumption);have DD:fu<(l0.length:Int):=of_decide_eq_true (by first|(with_reducible assumption)|assumption);obtain⟨al',UA,Co,Cp,Cq,Cr,Cs,Ct⟩:=nJ eF.out fu DC DD;cases UA;replace Co:=(HB.out.cell (World.block_lt_of_cell? w _ Co)).trans Co;replace Cp:=(HB.out.cell (World.block_lt_of_cell? w _ Cp)).trans Cp;replace Cq:=(HB.out.cell (World.block_lt_of_cell? w _ Cq)).trans Cq;replace Cr:=(HB.out.cell (World.block_lt_of_cell? w _ Cr)).trans Cr;replace Cs:=(HB.out.cell (World.block_lt_of_cell? w _ Cs)).trans Cs;replace Ct:=(HB.out.cell (World.block_lt_of_cell? w _ Ct)).trans Ct;replace DC:=eq_true DC;replace DD:=eq_true DD;go_wp2_with (first|((with_reducible refine dB (f:=44) rfl ?_);refine zO Tryz.func44 (by kernel_rfl) (uz.calls G7 ((au l0 fu).f0.f0.f0) ((au l0 fu).f0.f0.f1) ((au l0 fu).f0.f1) ((au l0 fu).f1.f0.f0) ((au l0 fu).f1.f0.f1) ((au l0 fu).f1.f1) t123 _ A14.out) fun V6 hb=>?_;replace HB:=zS HB hb;(try clear hb)))
          go_roundg G7
          case measure=>have:=fY.out;have:=yU.out;omega
          case rel=>exact⟨(wrap64 (fu+1)),zR,H',⟨by have:=fY.out;have:=yU.out;omega⟩,⟨zT HB⟩⟩
         ·rw[if_neg c15]at H
          have AD:=beq_eq_false_iff_ne.mpr c15;have NM:=bne_iff_ne.mpr c15;obtain rfl:=Option.some.inj H;have DC:0≤(fu:Int):=of_decide_eq_true (by first|(with_reducible assumption)|assumption);have DD:fu<(l0.length:Int):=of_decide_eq_true (by first|(with_reducible assumption)|assumption);obtain⟨al',UA,Co,Cp,Cq,Cr,Cs,Ct⟩:=nJ eF.out fu DC DD;cases UA;replace Co:=(HB.out.cell (World.block_lt_of_cell? w _ Co)).trans Co;replace Cp:=(HB.out.cell (World.block_lt_of_cell? w _ Cp)).trans Cp;replace Cq:=(HB.out.cell (World.block_lt_of_cell? w _ Cq)).trans Cq;replace Cr:=(HB.out.cell (World.block_lt_of_cell? w _ Cr)).trans Cr;replace Cs:=(HB.out.cell (World.block_lt_of_cell? w _ Cs)).trans Cs;replace Ct:=(HB.out.cell (World.block_lt_of_cell? w _ Ct)).trans Ct;replace DC:=eq_true DC;replace DD:=eq_true DD;go_wp2_with (first|((with_reducible refine dB (f:=44) rfl ?_);refine zO Tryz.func44 (by kernel_rfl) (uz.calls G7 ((au l0 fu).f0.f0.f0) ((au l0 fu).f0.f0.f1) ((au l0 fu).f0.f1) ((au l0 fu).f1.f0.f0) ((au l0 fu).f1.f0.f1) ((au l0 fu).f1.f1) t123 _ A14.out) fun PA hb=>?_;replace HB:=zS HB hb;(try clear hb)))
          go_ret
          exact⟨zH,zT HB⟩
        ·rw[if_neg c13]at H
         exact absurd H (by simp)
       ·rw[if_neg c12]at H
        exact absurd H (by simp)
   ·rw[if_neg c2]at H
    have rL:=decide_eq_false c2;clear c2;obtain rfl:=Option.some.inj H;go_wp2
    go_ret
    exact⟨zH,zT HB⟩
end Go.Proofs.aC.R
namespace Go.Proofs.aC.R
open Go.RowKit Go.Proofs.aC.Z Go.Proofs.aD.bf Go.Proofs.aD.ck Go.Proofs.aD.cL
theorem ak6 (a0:Bool) (a1 a2:ByteArray) (b0:Bool) (b1 b2:ByteArray) (r1:Bool) (r2 r3:ByteArray) (x:Int)
  (H:aM (∀ w,Calls Tryz.prog 98 #[.agg #[.bool a0,.string a1,.string a2],.agg #[.bool b0,.string b1,.string b2]] w fun e w'=>e = .returned (.tuple #[.agg #[.bool r1,.string r2,.string r3],.int .i64 x])∧Below w.heap.size w w')) (w:World) :
  Calls Tryz.prog 110 #[.func (.func 98) #[] #[],.agg #[.bool a0,.string a1,.string a2],.agg #[.bool b0,.string b1,.string b2]] w fun e w'=>e = .returned (.agg #[.bool r1,.string r2,.string r3])∧Below w.heap.size w w':=by
 have hu:=Tryz.underlying40;have HB:=qa (Below.refl w.heap.size w);go_enter Tryz.func110,Tryz.ntmps110;go_wp2_with (first|((with_reducible refine aZ (N:=4) rfl ?_);refine zY 4 #[.bool a0,.string a1,.string a2] 40 ?_;intro p hg w4 ah hb;have k8:=qa (ah);have GWp:=zG hg HB;replace HB:=zS HB hb;clear hb ah hg)|((with_reducible refine aZ (N:=5) rfl ?_);refine zY 5 #[.bool b0,.string b1,.string b2] 40 ?_;intro q hg w5 ah hb;have ot:=qa (ah);have GWq:=zG hg HB;obtain⟨UG,UH⟩:=zQ hg k8;replace k8:=zB k8 hb;replace HB:=zS HB hb;clear hb ah hg)|((with_reducible refine aZ (N:=6) rfl ?_);refine zY 6 #[.bool false,.string ⟨#[]⟩,.string ⟨#[]⟩] 40 ?_;intro s hg w6 ah hb;have qU:=qa (ah);have GWs:=zG hg HB;obtain⟨UI,UJ⟩:=zQ hg k8;obtain⟨UK,UL⟩:=zQ hg ot;obtain⟨k8,ot⟩:=fN k8 ot hb;replace HB:=zS HB hb;clear hb ah hg;have mpq:=UG.out;have mqp:=UH.out;have mps:=UI.out;have msp:=UJ.out;obtain⟨amy,amz,amA,amB,amC,amD⟩:=z3 k8;have mqs:=UK.out;have msq:=UL.out;obtain⟨amE,amF,amG,amH,amI,amJ⟩:=z3 ot))
 refine(H.out _).mono ?_;rintro e jd ⟨rfl,hb⟩;obtain⟨k8,ot,qU⟩:=bL k8 ot qU hb;replace HB:=zS HB hb;clear hb;go_wp2_with (first|((with_reducible refine aZ (N:=7) rfl ?_);refine zY 7 #[.bool false,.string ⟨#[]⟩,.string ⟨#[]⟩] 40 ?_;intro d hg w7 ah hb;have Hi:=qa (ah);have GWd:=zG hg HB;obtain⟨UM,UN⟩:=zQ hg k8;obtain⟨UO,UP⟩:=zQ hg ot;obtain⟨yy,UQ⟩:=zQ hg qU;obtain⟨k8,ot,qU⟩:=bL k8 ot qU hb;replace HB:=zS HB hb;clear hb ah hg;have mdp:=UN.out;have mpd:=UM.out;have mdq:=UP.out;have mqd:=UO.out;have mds:=UQ.out;have msd:=yy.out;obtain⟨amK,amL,amM,amN,amO,amP⟩:=z3 Hi;obtain⟨amQ,amR,amS,amT,amU,amV⟩:=z3 qU))
 refine bodyPost_ret (results_cell_row rfl _ _ s 40 #[.bool r1,.string r2,.string r3] (0,0) _ rfl (by (with_reducible repeat(first|refine aI ?_ _|refine aH ?_|refine aF ?_ _));refine zP (cs:=#[.bool r1,.string r2,.string ⟨#[]⟩]) ?_ 2 _;(with_reducible repeat(first|refine aI ?_ _|refine aH ?_|refine aF ?_ _));refine zP (cs:=#[.bool r1,.string ⟨#[]⟩,.string ⟨#[]⟩]) ?_ 1 _;(with_reducible repeat(first|refine aI ?_ _|refine aH ?_|refine aF ?_ _));refine zP (cs:=#[.bool false,.string ⟨#[]⟩,.string ⟨#[]⟩]) ?_ 0 _;(with_reducible repeat(first|refine aI ?_ _|refine aH ?_|refine aF ?_ _));refine dz ?_ yy.out _;(with_reducible repeat(first|refine aI ?_ _|refine aH ?_|refine aF ?_ _));refine dz ?_ yy.out _;(with_reducible repeat(first|refine aI ?_ _|refine aH ?_|refine aF ?_ _));refine dz ?_ yy.out _;(with_reducible repeat(first|refine aI ?_ _|refine aH ?_|refine aF ?_ _));exact qU.out) Tryz.underlying40 rfl (by kernel_rfl)) rfl ?_;exact⟨zH,zT HB⟩
theorem ak7 (a0:Bool) (a1 a2:ByteArray) (b0:Bool) (b1 b2:ByteArray) (r1:Bool) (r2 r3:ByteArray) (x:Int)
  (H:aM (∀ w,Calls Tryz.prog 111 #[.agg #[.bool a0,.string a1,.string a2],.agg #[.bool b0,.string b1,.string b2]] w fun e w'=>e = .returned (.tuple #[.agg #[.bool r1,.string r2,.string r3],.int .i64 x])∧Below w.heap.size w w')) (w:World) :
  Calls Tryz.prog 110 #[.func (.func 111) #[] #[],.agg #[.bool a0,.string a1,.string a2],.agg #[.bool b0,.string b1,.string b2]] w fun e w'=>e = .returned (.agg #[.bool r1,.string r2,.string r3])∧Below w.heap.size w w':=by
 have hu:=Tryz.underlying40;have HB:=qa (Below.refl w.heap.size w);go_enter Tryz.func110,Tryz.ntmps110;go_wp2_with (first|((with_reducible refine aZ (N:=4) rfl ?_);refine zY 4 #[.bool a0,.string a1,.string a2] 40 ?_;intro p hg w4 ah hb;have k8:=qa (ah);have GWp:=zG hg HB;replace HB:=zS HB hb;clear hb ah hg)|((with_reducible refine aZ (N:=5) rfl ?_);refine zY 5 #[.bool b0,.string b1,.string b2] 40 ?_;intro q hg w5 ah hb;have ot:=qa (ah);have GWq:=zG hg HB;obtain⟨UG,UH⟩:=zQ hg k8;replace k8:=zB k8 hb;replace HB:=zS HB hb;clear hb ah hg)|((with_reducible refine aZ (N:=6) rfl ?_);refine zY 6 #[.bool false,.string ⟨#[]⟩,.string ⟨#[]⟩] 40 ?_;intro s hg w6 ah hb;have qU:=qa (ah);have GWs:=zG hg HB;obtain⟨UI,UJ⟩:=zQ hg k8;obtain⟨UK,UL⟩:=zQ hg ot;obtain⟨k8,ot⟩:=fN k8 ot hb;replace HB:=zS HB hb;clear hb ah hg;have mpq:=UG.out;have mqp:=UH.out;have mps:=UI.out;have msp:=UJ.out;obtain⟨amy,amz,amA,amB,amC,amD⟩:=z3 k8;have mqs:=UK.out;have msq:=UL.out;obtain⟨amE,amF,amG,amH,amI,amJ⟩:=z3 ot))
 refine(H.out _).mono ?_;rintro e jd ⟨rfl,hb⟩;obtain⟨k8,ot,qU⟩:=bL k8 ot qU hb;replace HB:=zS HB hb;clear hb;go_wp2_with (first|((with_reducible refine aZ (N:=7) rfl ?_);refine zY 7 #[.bool false,.string ⟨#[]⟩,.string ⟨#[]⟩] 40 ?_;intro d hg w7 ah hb;have Hi:=qa (ah);have GWd:=zG hg HB;obtain⟨UM,UN⟩:=zQ hg k8;obtain⟨UO,UP⟩:=zQ hg ot;obtain⟨yy,UQ⟩:=zQ hg qU;obtain⟨k8,ot,qU⟩:=bL k8 ot qU hb;replace HB:=zS HB hb;clear hb ah hg;have mdp:=UN.out;have mpd:=UM.out;have mdq:=UP.out;have mqd:=UO.out;have mds:=UQ.out;have msd:=yy.out;obtain⟨amK,amL,amM,amN,amO,amP⟩:=z3 Hi;obtain⟨amQ,amR,amS,amT,amU,amV⟩:=z3 qU))
 refine bodyPost_ret (results_cell_row rfl _ _ s 40 #[.bool r1,.string r2,.string r3] (0,0) _ rfl (by (with_reducible repeat(first|refine aI ?_ _|refine aH ?_|refine aF ?_ _));refine zP (cs:=#[.bool r1,.string r2,.string ⟨#[]⟩]) ?_ 2 _;(with_reducible repeat(first|refine aI ?_ _|refine aH ?_|refine aF ?_ _));refine zP (cs:=#[.bool r1,.string ⟨#[]⟩,.string ⟨#[]⟩]) ?_ 1 _;(with_reducible repeat(first|refine aI ?_ _|refine aH ?_|refine aF ?_ _));refine zP (cs:=#[.bool false,.string ⟨#[]⟩,.string ⟨#[]⟩]) ?_ 0 _;(with_reducible repeat(first|refine aI ?_ _|refine aH ?_|refine aF ?_ _));refine dz ?_ yy.out _;(with_reducible repeat(first|refine aI ?_ _|refine aH ?_|refine aF ?_ _));refine dz ?_ yy.out _;(with_reducible repeat(first|refine aI ?_ _|refine aH ?_|refine aF ?_ _));refine dz ?_ yy.out _;(with_reducible repeat(first|refine aI ?_ _|refine aH ?_|refine aF ?_ _));exact qU.out) Tryz.underlying40 rfl (by kernel_rfl)) rfl ?_;exact⟨zH,zT HB⟩
def Hu.f (k:Nat) (af:Bool) (aa aj:ByteArray) (aq:Bool) (ak ay:ByteArray):Option (Bool × ByteArray × ByteArray × Int):=iM.f zq.f k af aa aj aq ak ay
theorem Hu.calls (k:Nat) (af:Bool) (aa aj:ByteArray) (aq:Bool) (ak ay:ByteArray) (r1:Bool) (r2 r3:ByteArray) (r4:Int) (w:World) (h:Hu.f k af aa aj aq ak ay=some (r1,r2,r3,r4)) :
  Calls Tryz.prog 112 #[.agg #[.bool af,.string aa,.string aj],.agg #[.bool aq,.string ak,.string ay],.func (.func 113) #[] #[]] w fun e w'=>e = .returned (.tuple #[.agg #[.bool r1,.string r2,.string r3],.int .i64 r4])∧Below w.heap.size w w' :=
 iM.calls 113 _ ⟨fun n s m t r1 r2 w h=>zq.calls n s m t r1 r2 w h⟩ k _ _ _ _ _ _ _ _ _ _ w h
end Go.Proofs.aC.R
