import Derived.Test.YtfcjnhkkfmgmpaaGreatZsG20
import Derived.Test.YtfcjnhkkfmgmpaaGreatZsG30
set_option linter.all false
set_option maxRecDepth 100000
set_option maxHeartbeats 8000000
namespace Go.Proofs.aC.R
open Go.RowKit Go.Proofs.aC.Z Go.Proofs.aD.bf Go.Proofs.aD.ck Go.Proofs.aD.cL
attribute [local go_sem] cY cZ dm dn cW cX dc dh
open Go.Proofs.YtfcjnhkkfmgmpaaGreat Go.Proofs.YtfcjnhkkfmgmpaaGreat.aR in
def nU.f (af:Bool) (aa:ByteArray) (aq:Bool) (ak:ByteArray):Option (Bool × ByteArray):=if aa.size≤4000∧ak.size≤4000 then some ((pv (ival af aa*ival aq ak)).1,(pv (ival af aa*ival aq ak)).2) else none
open Go.Proofs.YtfcjnhkkfmgmpaaGreat Go.Proofs.YtfcjnhkkfmgmpaaGreat.aR in
theorem nU.calls (af:Bool) (aa:ByteArray) (aq:Bool) (ak:ByteArray) (r1:Bool) (r2:ByteArray) (w:World) (h:nU.f af aa aq ak=some (r1,r2)) :
  Calls Tryz.prog 76 #[.agg #[.bool af,.string aa],.agg #[.bool aq,.string ak]] w fun e w'=>e = .returned (.agg #[.bool r1,.string r2])∧Below w.heap.size w w':=by
 unfold nU.f at h;split at h
 ·rename_i hc
  simp only[Option.some.injEq,Prod.mk.injEq]at h;obtain⟨rfl,rfl⟩:=h;exact ahe _ _ _ _ hc.1 hc.2 w
 ·exact absurd h (by simp)
open Go.Proofs.YtfcjnhkkfmgmpaaGreat Go.Proofs.YtfcjnhkkfmgmpaaGreat.aR in
def xz.f (af:Bool) (aa:ByteArray) (aq:Bool) (ak:ByteArray):Option (Bool × ByteArray × ByteArray):=if aa.size≤1000∧ak.size≤1000∧gN af aa=0∧gN aq ak=0∧ival aq ak≠0 then some ((pq (Rat.divInt (ival af aa) (ival aq ak))).1,(pq (Rat.divInt (ival af aa) (ival aq ak))).2.1,(pq (Rat.divInt (ival af aa) (ival aq ak))).2.2) else none
open Go.Proofs.YtfcjnhkkfmgmpaaGreat Go.Proofs.YtfcjnhkkfmgmpaaGreat.aR in
theorem xz.calls (af:Bool) (aa:ByteArray) (aq:Bool) (ak:ByteArray) (r1:Bool) (r2 r3:ByteArray) (w:World) (h:xz.f af aa aq ak=some (r1,r2,r3)) :
  Calls Tryz.prog 77 #[.agg #[.bool af,.string aa],.agg #[.bool aq,.string ak]] w fun e w'=>e = .returned (.agg #[.bool r1,.string r2,.string r3])∧Below w.heap.size w w':=by
 unfold xz.f at h;split at h
 ·rename_i hc
  simp only[Option.some.injEq,Prod.mk.injEq]at h;obtain⟨rfl,rfl,rfl⟩:=h;exact agB _ _ _ _ hc.1 hc.2.1 (qw.1 hc.2.2.1) (qw.1 hc.2.2.2.1) hc.2.2.2.2 w
 ·exact absurd h (by simp)
open Go.Proofs.YtfcjnhkkfmgmpaaGreat Go.Proofs.YtfcjnhkkfmgmpaaGreat.aR in
def wA.f (af:Bool) (aa:ByteArray) (aq:Bool) (ak:ByteArray):Option (Bool × ByteArray):=if aa.size≤4000∧ak.size≤4000 then some ((pv (ival af aa+ival aq ak)).1,(pv (ival af aa+ival aq ak)).2) else none
open Go.Proofs.YtfcjnhkkfmgmpaaGreat Go.Proofs.YtfcjnhkkfmgmpaaGreat.aR in
theorem wA.calls (af:Bool) (aa:ByteArray) (aq:Bool) (ak:ByteArray) (r1:Bool) (r2:ByteArray) (w:World) (h:wA.f af aa aq ak=some (r1,r2)) :
  Calls Tryz.prog 89 #[.agg #[.bool af,.string aa],.agg #[.bool aq,.string ak]] w fun e w'=>e = .returned (.agg #[.bool r1,.string r2])∧Below w.heap.size w w':=by
 unfold wA.f at h;split at h
 ·rename_i hc
  simp only[Option.some.injEq,Prod.mk.injEq]at h;obtain⟨rfl,rfl⟩:=h;exact alI _ _ _ _ hc.1 hc.2 w
 ·exact absurd h (by simp)
open Go.Proofs.YtfcjnhkkfmgmpaaGreat Go.Proofs.YtfcjnhkkfmgmpaaGreat.aR in
def B8.f (af:Bool) (aa:ByteArray) (aq:Bool) (ak:ByteArray):Option (Bool × ByteArray):=if aa.size≤4000∧ak.size≤4000 then some ((pv ((Nat.gcd (nv aa).toNat (nv ak).toNat:Nat):Int)).1,(pv ((Nat.gcd (nv aa).toNat (nv ak).toNat:Nat):Int)).2) else none
open Go.Proofs.YtfcjnhkkfmgmpaaGreat Go.Proofs.YtfcjnhkkfmgmpaaGreat.aR in
theorem B8.calls (af:Bool) (aa:ByteArray) (aq:Bool) (ak:ByteArray) (r1:Bool) (r2:ByteArray) (w:World) (h:B8.f af aa aq ak=some (r1,r2)) :
  Calls Tryz.prog 86 #[.agg #[.bool af,.string aa],.agg #[.bool aq,.string ak]] w fun e w'=>e = .returned (.agg #[.bool r1,.string r2])∧Below w.heap.size w w':=by
 unfold B8.f at h;split at h
 ·rename_i hc
  simp only[Option.some.injEq,Prod.mk.injEq]at h;obtain⟨rfl,rfl⟩:=h;exact Ya _ _ _ _ hc.1 hc.2 w
 ·exact absurd h (by simp)
def kT.l0:Nat→List (aB)→Int→Int→Option (Int)
 | 0,_,_,_=>none
 | k+1,x6,x7,x8=>if x8<x7 then (if 0≤x8 then (if x8<(x6.length:Int) then ((eY.f k ((dP x6 x8).f0.f0) ((dP x6 x8).f0.f1) ((dP x6 x8).f1)).bind fun t240=>(if t240=0 then (kT.l0 k x6 x7 (wrap64 (x8+1))) else (some t240))) else (none)) else (none)) else (some 0)
def kT.f (k:Nat) (l0:List (aB)):Option (Int):=kT.l0 k l0 (l0.length:Int) 0
theorem kT.calls (k:Nat) (A0:Option Addr) (c0:Nat) (l0:List (aB)) (r:Int) (w:World) (dL:Kd.C kZ w A0 l0.length l0) (hc0:l0.length≤c0) (h:kT.f k l0=some r) :
  Calls Tryz.prog 79 #[.slice A0 l0.length c0] w fun e w'=>e = .returned (.int .i64 r)∧Below w.heap.size w w':=by
 have jT:=Tryz.underlying40;have eF:=qa dL;have xq:=qa hc0;clear dL hc0;have HB:=qa (Below.refl w.heap.size w);unfold kT.f at h;have H:=h;clear h;have H':=qa H;clear H;go_enter Tryz.func79,Tryz.ntmps79;go_wp2
 go_loopg [8] k (fun kq v8 w'=>∃ (bG:Int),v8 = .int .i64 bG∧aM (kT.l0 kq l0 (l0.length:Int) bG=some r)∧aM (kq≤k)∧aM (Below w.heap.size w w'))
 case atStart=>exact⟨(0),zR,H',⟨Nat.le_refl _⟩,⟨zT HB⟩⟩
 case round =>
  clear H';obtain⟨bG,rfl,HA,fY,HB⟩:=hrel;cases gk with
  | zero=>exact absurd HA.out (by simp[kT.l0])
  | succ k1 =>
   have H:=HA.out;clear HA;simp only[kT.l0]at H;by_cases c2:bG<(l0.length:Int)
   ·rw[if_pos c2]at H
    have rL:=decide_eq_true c2;clear c2;by_cases c3:0≤bG
    ·rw[if_pos c3]at H
     have sR:=decide_eq_true c3;clear c3;by_cases c4:bG<(l0.length:Int)
     ·rw[if_pos c4]at H
      have fI:=decide_eq_true c4;clear c4;obtain⟨t240,A5,H⟩:=zo H;by_cases c6:t240=0
      ·rw[if_pos c6]at H
       have qF:=beq_iff_eq.mpr c6;have yx:=bne_eq_false_iff_eq.mpr c6;clear c6;have H':=qa H;clear H;have DF:0≤(bG:Int):=of_decide_eq_true (by first|(with_reducible assumption)|assumption);have DG:bG<(l0.length:Int):=of_decide_eq_true (by first|(with_reducible assumption)|assumption);obtain⟨amn,UC,Cx,Cy,Cz⟩:=Sz eF.out bG DF DG;cases UC;replace Cx:=(HB.out.cell (World.block_lt_of_cell? w _ Cx)).trans Cx;replace Cy:=(HB.out.cell (World.block_lt_of_cell? w _ Cy)).trans Cy;replace Cz:=(HB.out.cell (World.block_lt_of_cell? w _ Cz)).trans Cz;replace DF:=eq_true DF;replace DG:=eq_true DG;go_wp2_with (first|((with_reducible refine aZ (N:=4) rfl ?_);refine zY 4 #[.bool false,.string ⟨#[]⟩,.string ⟨#[]⟩] 40 ?_;intro Tw hg w7 ah hb;have Df:=qa (ah);have amo:=zG hg HB;have amp:=zG hg HB;replace HB:=zS HB hb;clear hb ah hg;obtain⟨Nc,Nd,Nf,Ng,Nh,Nk⟩:=z3 Df)|((with_reducible refine dB (f:=95) rfl ?_);refine zO Tryz.func95 (by kernel_rfl) (eY.calls k1 ((dP l0 bG).f0.f0) ((dP l0 bG).f0.f1) ((dP l0 bG).f1) t240 _ A5.out) fun w9 hb=>?_;replace Df:=qa (eA (g:=Tw) (o := .cells #[.bool ((dP l0 bG).f0.f0),.string ((dP l0 bG).f0.f1),.string ((dP l0 bG).f1)] 40 (0,0)) (by (with_reducible repeat(first|refine aI ?_ _|refine aH ?_|refine aF ?_ _));refine zP (cs:=#[.bool ((dP l0 bG).f0.f0),.string ((dP l0 bG).f0.f1),.string ⟨#[]⟩]) ?_ 2 _;(with_reducible repeat(first|refine aI ?_ _|refine aH ?_|refine aF ?_ _));refine zP (cs:=#[.bool ((dP l0 bG).f0.f0),.string ⟨#[]⟩,.string ⟨#[]⟩]) ?_ 1 _;(with_reducible repeat(first|refine aI ?_ _|refine aH ?_|refine aF ?_ _));refine zP (cs:=#[.bool false,.string ⟨#[]⟩,.string ⟨#[]⟩]) ?_ 0 _;(with_reducible repeat(first|refine aI ?_ _|refine aH ?_|refine aF ?_ _));exact Df.out) hb);replace HB:=zS HB hb;(try clear hb)))
       go_roundg k1
       case measure=>have:=fY.out;omega
       case rel=>exact⟨(wrap64 (bG+1)),zR,H',⟨by have:=fY.out;omega⟩,⟨zT HB⟩⟩
      ·rw[if_neg c6]at H
       have qF:=beq_eq_false_iff_ne.mpr c6;have yx:=bne_iff_ne.mpr c6;obtain rfl:=Option.some.inj H;have DF:0≤(bG:Int):=of_decide_eq_true (by first|(with_reducible assumption)|assumption);have DG:bG<(l0.length:Int):=of_decide_eq_true (by first|(with_reducible assumption)|assumption);obtain⟨amn,UC,Cx,Cy,Cz⟩:=Sz eF.out bG DF DG;cases UC;replace Cx:=(HB.out.cell (World.block_lt_of_cell? w _ Cx)).trans Cx;replace Cy:=(HB.out.cell (World.block_lt_of_cell? w _ Cy)).trans Cy;replace Cz:=(HB.out.cell (World.block_lt_of_cell? w _ Cz)).trans Cz;replace DF:=eq_true DF;replace DG:=eq_true DG;go_wp2_with (first|((with_reducible refine aZ (N:=4) rfl ?_);refine zY 4 #[.bool false,.string ⟨#[]⟩,.string ⟨#[]⟩] 40 ?_;intro Tw hg g_ ah hb;have Df:=qa (ah);have amo:=zG hg HB;have amp:=zG hg HB;replace HB:=zS HB hb;clear hb ah hg;obtain⟨tG,tH,tI,tJ,tK,tL⟩:=z3 Df)|((with_reducible refine dB (f:=95) rfl ?_);refine zO Tryz.func95 (by kernel_rfl) (eY.calls k1 ((dP l0 bG).f0.f0) ((dP l0 bG).f0.f1) ((dP l0 bG).f1) t240 _ A5.out) fun jd hb=>?_;replace Df:=qa (eA (g:=Tw) (o := .cells #[.bool ((dP l0 bG).f0.f0),.string ((dP l0 bG).f0.f1),.string ((dP l0 bG).f1)] 40 (0,0)) (by (with_reducible repeat(first|refine aI ?_ _|refine aH ?_|refine aF ?_ _));refine zP (cs:=#[.bool ((dP l0 bG).f0.f0),.string ((dP l0 bG).f0.f1),.string ⟨#[]⟩]) ?_ 2 _;(with_reducible repeat(first|refine aI ?_ _|refine aH ?_|refine aF ?_ _));refine zP (cs:=#[.bool ((dP l0 bG).f0.f0),.string ⟨#[]⟩,.string ⟨#[]⟩]) ?_ 1 _;(with_reducible repeat(first|refine aI ?_ _|refine aH ?_|refine aF ?_ _));refine zP (cs:=#[.bool false,.string ⟨#[]⟩,.string ⟨#[]⟩]) ?_ 0 _;(with_reducible repeat(first|refine aI ?_ _|refine aH ?_|refine aF ?_ _));exact Df.out) hb);replace HB:=zS HB hb;(try clear hb)))
       go_ret
       exact⟨zH,zT HB⟩
     ·rw[if_neg c4]at H
      exact absurd H (by simp)
    ·rw[if_neg c3]at H
     exact absurd H (by simp)
   ·rw[if_neg c2]at H
    have rL:=decide_eq_false c2;clear c2;obtain rfl:=Option.some.inj H;go_wp2
    go_ret
    exact⟨zH,zT HB⟩
def Ci.f (k:Nat) (af:Bool) (aa aj:ByteArray):Option (Int × Int):=(eY.f k af aa aj).bind fun AX=>(if AX=0 then (if af=true then (some ((-1),0)) else (if aa.toList=([]:List UInt8) then (some (0,0)) else (some (1,0)))) else (some (0,AX)))
theorem Ci.calls (k:Nat) (af:Bool) (aa aj:ByteArray) (r1 r2:Int) (w:World) (h:Ci.f k af aa aj=some (r1,r2)) :
  Calls Tryz.prog 80 #[.agg #[.bool af,.string aa,.string aj]] w fun e w'=>e = .returned (.tuple #[.int .i64 r1,.int .i64 r2])∧Below w.heap.size w w':=by
 have jT:=Tryz.underlying40;have HB:=qa (Below.refl w.heap.size w);unfold Ci.f at h;have H:=h;clear h;obtain⟨AX,A2,H⟩:=zo H;by_cases c3:AX=0
 ·rw[if_pos c3]at H
  have sR:=beq_iff_eq.mpr c3;have DI:=bne_eq_false_iff_eq.mpr c3;clear c3;by_cases c4:af=true
  ·subst c4
   rw[if_pos rfl]at H
   simp only[Option.some.injEq,Prod.mk.injEq]at H;obtain⟨rfl,rfl⟩:=H;go_enter Tryz.func80,Tryz.ntmps80;go_wp2_with (first|((with_reducible refine aZ (N:=1) rfl ?_);refine zY 1 #[.bool true,.string aa,.string aj] 40 ?_;intro Ty hg w5 ah hb;have oF:=qa (ah);have Tz:=zG hg HB;have TA:=zG hg HB;replace HB:=zS HB hb;clear hb ah hg;obtain⟨uL,uM,xS,uN,uO,xT⟩:=z3 oF)|((with_reducible refine dB (f:=95) rfl ?_);refine zO Tryz.func95 (by kernel_rfl) (eY.calls k true aa aj AX _ A2.out) fun w7 hb=>?_;replace oF:=zB oF hb;replace HB:=zS HB hb;(try clear hb);obtain⟨Nc,Nd,Nf,Ng,Nh,Nk⟩:=z3 oF))
   go_ret2
   exact⟨zH,zT HB⟩
  ·replace c4:=Bool.eq_false_iff.mpr c4
   subst c4;rw[if_neg zn]at H
   by_cases c9:aa.toList=([]:List UInt8)
   ·rw[if_pos c9]at H
    have Ol:=beq_iff_eq.mpr c9;have Om:=bne_eq_false_iff_eq.mpr c9;clear c9;simp only[Option.some.injEq,Prod.mk.injEq]at H;obtain⟨rfl,rfl⟩:=H;go_enter Tryz.func80,Tryz.ntmps80;go_wp2_with (first|((with_reducible refine aZ (N:=1) rfl ?_);refine zY 1 #[.bool false,.string aa,.string aj] 40 ?_;intro Ty hg g_ ah hb;have oF:=qa (ah);have Tz:=zG hg HB;have TA:=zG hg HB;replace HB:=zS HB hb;clear hb ah hg;obtain⟨tG,tH,tI,tJ,tK,tL⟩:=z3 oF)|((with_reducible refine dB (f:=95) rfl ?_);refine zO Tryz.func95 (by kernel_rfl) (eY.calls k false aa aj AX _ A2.out) fun jd hb=>?_;replace oF:=zB oF hb;replace HB:=zS HB hb;(try clear hb);obtain⟨Je,Jf,Jg,Jh,Ji,Jj⟩:=z3 oF))
    go_ret2
    exact⟨zH,zT HB⟩
   ·rw[if_neg c9]at H
    have Ol:=beq_eq_false_iff_ne.mpr c9;have Om:=bne_iff_ne.mpr c9;simp only[Option.some.injEq,Prod.mk.injEq]at H;obtain⟨rfl,rfl⟩:=H;go_enter Tryz.func80,Tryz.ntmps80;go_wp2_with (first|((with_reducible refine aZ (N:=1) rfl ?_);refine zY 1 #[.bool false,.string aa,.string aj] 40 ?_;intro Ty hg xp ah hb;have oF:=qa (ah);have Tz:=zG hg HB;have TA:=zG hg HB;replace HB:=zS HB hb;clear hb ah hg;obtain⟨Fu,Fv,Fw,Fx,Fy,Fz⟩:=z3 oF)|((with_reducible refine dB (f:=95) rfl ?_);refine zO Tryz.func95 (by kernel_rfl) (eY.calls k false aa aj AX _ A2.out) fun V6 hb=>?_;replace oF:=zB oF hb;replace HB:=zS HB hb;(try clear hb);obtain⟨R6,R7,R8,R9,R_,Sa⟩:=z3 oF))
    go_ret2
    exact⟨zH,zT HB⟩
 ·rw[if_neg c3]at H
  have sR:=beq_eq_false_iff_ne.mpr c3;have DI:=bne_iff_ne.mpr c3;simp only[Option.some.injEq,Prod.mk.injEq]at H;obtain⟨rfl,rfl⟩:=H;go_enter Tryz.func80,Tryz.ntmps80;go_wp2_with (first|((with_reducible refine aZ (N:=1) rfl ?_);refine zY 1 #[.bool af,.string aa,.string aj] 40 ?_;intro Ty hg Lm ah hb;have oF:=qa (ah);have Tz:=zG hg HB;have TA:=zG hg HB;replace HB:=zS HB hb;clear hb ah hg;obtain⟨xL,xM,Cv,xN,xO,Cw⟩:=z3 oF)|((with_reducible refine dB (f:=95) rfl ?_);refine zO Tryz.func95 (by kernel_rfl) (eY.calls k af aa aj AX _ A2.out) fun Px hb=>?_;replace oF:=zB oF hb;replace HB:=zS HB hb;(try clear hb)))
  go_ret2
  exact⟨zH,zT HB⟩
def Ce.f (k:Nat) (af:Bool) (aa aj:ByteArray):Option (Int):=(Ci.f k af aa aj).bind fun amu=>(some amu.1)
theorem Ce.calls (k:Nat) (af:Bool) (aa aj:ByteArray) (r:Int) (w:World) (h:Ce.f k af aa aj=some r) :
  Calls Tryz.prog 67 #[.agg #[.bool af,.string aa,.string aj]] w fun e w'=>e = .returned (.int .i64 r)∧Below w.heap.size w w':=by
 have jT:=Tryz.underlying40;have HB:=qa (Below.refl w.heap.size w);unfold Ce.f at h;have H:=h;clear h;obtain⟨⟨apr,aps⟩,A2,H⟩:=zo H;try dsimp only at H
 obtain rfl:=Option.some.inj H;go_enter Tryz.func67,Tryz.ntmps67;go_wp2_with (first|((with_reducible refine aZ (N:=1) rfl ?_);refine zY 1 #[.bool af,.string aa,.string aj] 40 ?_;intro axL hg w3 ah hb;have TB:=qa (ah);have axM:=zG hg HB;have axN:=zG hg HB;replace HB:=zS HB hb;clear hb ah hg;obtain⟨M1,M4,M6,M7,M8,M9⟩:=z3 TB)|((with_reducible refine dB (f:=80) rfl ?_);refine zO Tryz.func80 (by kernel_rfl) (Ci.calls k af aa aj apr aps _ A2.out) fun w5 hb=>?_;replace TB:=zB TB hb;replace HB:=zS HB hb;(try clear hb)))
 go_ret
 exact⟨zH,zT HB⟩
open Go.Proofs.YtfcjnhkkfmgmpaaGreat Go.Proofs.YtfcjnhkkfmgmpaaGreat.aR in
def xF.f (af:Bool) (aa:ByteArray) (aq:Bool) (ak:ByteArray):Option (Bool × ByteArray × Bool × ByteArray × Int):=if aa.size≤15000∧ak.size≤15000 then some ((tW (af,aa) (aq,ak)).1.1,(tW (af,aa) (aq,ak)).1.2,(tW (af,aa) (aq,ak)).2.1.1,(tW (af,aa) (aq,ak)).2.1.2,(tW (af,aa) (aq,ak)).2.2) else none
open Go.Proofs.YtfcjnhkkfmgmpaaGreat Go.Proofs.YtfcjnhkkfmgmpaaGreat.aR in
theorem xF.calls (af:Bool) (aa:ByteArray) (aq:Bool) (ak:ByteArray) (r1:Bool) (r2:ByteArray) (r3:Bool) (r4:ByteArray) (r5:Int) (w:World) (h:xF.f af aa aq ak=some (r1,r2,r3,r4,r5)) :
  Calls Tryz.prog 137 #[.agg #[.bool af,.string aa],.agg #[.bool aq,.string ak]] w fun e w'=>e = .returned (.tuple #[.agg #[.bool r1,.string r2],.agg #[.bool r3,.string r4],.int .i64 r5])∧Below w.heap.size w w':=by
 unfold xF.f at h;split at h
 ·rename_i hc
  simp only[Option.some.injEq,Prod.mk.injEq]at h;obtain⟨rfl,rfl,rfl,rfl,rfl⟩:=h;exact akP (af,aa) (aq,ak) hc.1 hc.2 w
 ·exact absurd h (by simp)
open Go.Proofs.YtfcjnhkkfmgmpaaGreat Go.Proofs.YtfcjnhkkfmgmpaaGreat.aR in
def Fb.f (af:Bool) (aa:ByteArray) (aq:Bool) (ak:ByteArray):Option (Bool × ByteArray × Int):=if aa.size≤15000∧ak.size≤15000 then some ((oV (·-·) (af,aa) (aq,ak)).1.1,(oV (·-·) (af,aa) (aq,ak)).1.2,(oV (·-·) (af,aa) (aq,ak)).2) else none
open Go.Proofs.YtfcjnhkkfmgmpaaGreat Go.Proofs.YtfcjnhkkfmgmpaaGreat.aR in
theorem Fb.calls (af:Bool) (aa:ByteArray) (aq:Bool) (ak:ByteArray) (r1:Bool) (r2:ByteArray) (r3:Int) (w:World) (h:Fb.f af aa aq ak=some (r1,r2,r3)) :
  Calls Tryz.prog 113 #[.agg #[.bool af,.string aa],.agg #[.bool aq,.string ak]] w fun e w'=>e = .returned (.tuple #[.agg #[.bool r1,.string r2],.int .i64 r3])∧Below w.heap.size w w':=by
 unfold Fb.f at h;split at h
 ·rename_i hc
  simp only[Option.some.injEq,Prod.mk.injEq]at h;obtain⟨rfl,rfl,rfl⟩:=h;exact(alD (af,aa) (aq,ak) hc.1 hc.2).out w
 ·exact absurd h (by simp)
open Go.Proofs.YtfcjnhkkfmgmpaaGreat Go.Proofs.YtfcjnhkkfmgmpaaGreat.aR in
def zq.f (af:Bool) (aa:ByteArray) (aq:Bool) (ak:ByteArray):Option (Bool × ByteArray):=(Fb.f af aa aq ak).map fun r=>(r.1,r.2.1)
open Go.Proofs.YtfcjnhkkfmgmpaaGreat Go.Proofs.YtfcjnhkkfmgmpaaGreat.aR in
theorem zq.calls (af:Bool) (aa:ByteArray) (aq:Bool) (ak:ByteArray) (r1:Bool) (r2:ByteArray) (w:World) (h:zq.f af aa aq ak=some (r1,r2)) :
  Calls Tryz.prog 122 #[.func (.func 113) #[] #[],.agg #[.bool af,.string aa],.agg #[.bool aq,.string ak]] w fun e w'=>e = .returned (.agg #[.bool r1,.string r2])∧Below w.heap.size w w':=by
 unfold zq.f at h;obtain⟨⟨x1,x2,x3⟩,hx,he⟩:=Option.map_eq_some_iff.1 h;simp only[Prod.mk.injEq]at he;obtain⟨rfl,rfl⟩:=he;exact ak_ _ _ _ _ _ _ _ (qh fun w=>Fb.calls _ _ _ _ _ _ _ w hx) w
end Go.Proofs.aC.R
