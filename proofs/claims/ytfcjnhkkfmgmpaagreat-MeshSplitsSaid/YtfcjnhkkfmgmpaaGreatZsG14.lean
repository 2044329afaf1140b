import Derived.Test.YtfcjnhkkfmgmpaaGreatZsG2
import Derived.Test.YtfcjnhkkfmgmpaaGreatZsG33
set_option linter.all false
set_option maxRecDepth 100000
set_option maxHeartbeats 8000000
namespace Go.Proofs.aC.R
open Go.RowKit Go.Proofs.aC.Z Go.Proofs.aD.bf Go.Proofs.aD.ck Go.Proofs.aD.cL
attribute [local go_sem] cY cZ dm dn cW cX dc dh
def ac4:Option Int→Value
 | none => .nilIface
 | some c => .iface 0 (.int .i64 c)
theorem zw:ac4 none = .nilIface:=rfl
theorem zx (c:Int):ac4 (some c) = .iface 0 (.int .i64 c):=rfl
structure aG where
 f0:Bool
 f1:ByteArray
def z38:aG:=⟨false,⟨#[]⟩⟩
def Po:Kd aG:=Kd.OX (Kd.pair Kd.bool Kd.string) (fun x:aG=>(x.f0,x.f1))
theorem agt {w:World} {x:aG} {cs:List Value} (h:Po.K w x cs):cs=[.bool x.f0,.string x.f1]:=by
 obtain⟨_,_,rfl,rfl,rfl⟩:=h;exact rfl
theorem akR (w:World) (x:aG) :Po.K w x [.bool x.f0,.string x.f1]:=⟨[.bool x.f0],[.string x.f1],rfl,rfl,rfl⟩
theorem ahc (w:World) (base:Nat) (ok:Nat→Prop) (x:aG) :Po.M w base ok x [.bool x.f0,.string x.f1]:=⟨[.bool x.f0],[.string x.f1],rfl,rfl,rfl⟩
structure aB where
 f0:aG
 f1:ByteArray
def z40:aB:=⟨z38,⟨#[]⟩⟩
def kZ:Kd aB:=Kd.OX (Kd.pair Po Kd.string) (fun x:aB=>(x.f0,x.f1))
theorem Q8 {w:World} {x:aB} {cs:List Value} (h:kZ.K w x cs):cs=[.bool x.f0.f0,.string x.f0.f1,.string x.f1]:=by
 obtain⟨_,_,rfl,s0,rfl⟩:=h;obtain rfl:=agt s0;exact rfl
theorem Z9 (w:World) (x:aB) :kZ.K w x [.bool x.f0.f0,.string x.f0.f1,.string x.f1]:=⟨[.bool x.f0.f0,.string x.f0.f1],[.string x.f1],rfl,(akR w x.f0 ),rfl⟩
theorem ry (w:World) (base:Nat) (ok:Nat→Prop) (x:aB) :kZ.M w base ok x [.bool x.f0.f0,.string x.f0.f1,.string x.f1]:=⟨[.bool x.f0.f0,.string x.f0.f1],[.string x.f1],rfl,(ahc w base ok x.f0 ),rfl⟩
def dP (xs:List aB) (i:Int):aB:=xs.getD i.toNat z40
theorem Sz {w:World} {A:Option Addr} {n:Nat} {xs:List aB} (h:Kd.C kZ w A n xs) (i:Int) (h0:0≤i) (h1:i<n):∃ ad ,A=some ad∧w.cell? (ad.add (i.toNat*3))=some (.bool (dP xs i).f0.f0)∧w.cell? ⟨(ad.add (i.toNat*3)).block,(ad.add (i.toNat*3)).off+1,none⟩=some (.string (dP xs i).f0.f1)∧w.cell? ⟨(ad.add (i.toNat*3)).block,(ad.add (i.toNat*3)).off+2,none⟩=some (.string (dP xs i).f1):=by
 obtain⟨ad,c,e,_,hK,hc0⟩:=Kd.SR h z40 i h0 h1;have hc:∀ j u,c[j]?=some u→w.cell? (ad.add (i.toNat*3+j))=some u:=hc0;obtain rfl:=Q8 hK;exact⟨ad,e,hc 0 _ rfl,by rw[← xD _ _ 1 (by omega)];exact hc 1 _ rfl,by rw[← xD _ _ 2 (by omega)];exact hc 2 _ rfl⟩
structure aX where
 f0:aB
 f1:aB
def VJ:aX:=⟨z40,z40⟩
def dF:Kd aX:=Kd.OX (Kd.pair kZ kZ) (fun x:aX=>(x.f0,x.f1))
theorem X8 {w:World} {x:aX} {cs:List Value} (h:dF.K w x cs):cs=[.bool x.f0.f0.f0,.string x.f0.f0.f1,.string x.f0.f1,.bool x.f1.f0.f0,.string x.f1.f0.f1,.string x.f1.f1]:=by
 obtain⟨_,_,rfl,s0,s3⟩:=h;obtain rfl:=Q8 s0;obtain rfl:=Q8 s3;exact rfl
theorem wL (w:World) (x:aX) :dF.K w x [.bool x.f0.f0.f0,.string x.f0.f0.f1,.string x.f0.f1,.bool x.f1.f0.f0,.string x.f1.f0.f1,.string x.f1.f1]:=⟨[.bool x.f0.f0.f0,.string x.f0.f0.f1,.string x.f0.f1],[.bool x.f1.f0.f0,.string x.f1.f0.f1,.string x.f1.f1],rfl,(Z9 w x.f0 ),(Z9 w x.f1 )⟩
theorem kN (w:World) (base:Nat) (ok:Nat→Prop) (x:aX) :dF.M w base ok x [.bool x.f0.f0.f0,.string x.f0.f0.f1,.string x.f0.f1,.bool x.f1.f0.f0,.string x.f1.f0.f1,.string x.f1.f1]:=⟨[.bool x.f0.f0.f0,.string x.f0.f0.f1,.string x.f0.f1],[.bool x.f1.f0.f0,.string x.f1.f0.f1,.string x.f1.f1],rfl,(ry w base ok x.f0 ),(ry w base ok x.f1 )⟩
def au (xs:List aX) (i:Int):aX:=xs.getD i.toNat VJ
theorem nJ {w:World} {A:Option Addr} {n:Nat} {xs:List aX} (h:Kd.C dF w A n xs) (i:Int) (h0:0≤i) (h1:i<n):∃ ad ,A=some ad∧w.cell? (ad.add (i.toNat*6))=some (.bool (au xs i).f0.f0.f0)∧w.cell? ⟨(ad.add (i.toNat*6)).block,(ad.add (i.toNat*6)).off+1,none⟩=some (.string (au xs i).f0.f0.f1)∧w.cell? ⟨(ad.add (i.toNat*6)).block,(ad.add (i.toNat*6)).off+2,none⟩=some (.string (au xs i).f0.f1)∧w.cell? ⟨(ad.add (i.toNat*6)).block,(ad.add (i.toNat*6)).off+3,none⟩=some (.bool (au xs i).f1.f0.f0)∧w.cell? ⟨(ad.add (i.toNat*6)).block,(ad.add (i.toNat*6)).off+4,none⟩=some (.string (au xs i).f1.f0.f1)∧w.cell? ⟨(ad.add (i.toNat*6)).block,(ad.add (i.toNat*6)).off+5,none⟩=some (.string (au xs i).f1.f1):=by
 obtain⟨ad,c,e,_,hK,hc0⟩:=Kd.SR h VJ i h0 h1;have hc:∀ j u,c[j]?=some u→w.cell? (ad.add (i.toNat*6+j))=some u:=hc0;obtain rfl:=X8 hK;exact⟨ad,e,hc 0 _ rfl,by rw[← xD _ _ 1 (by omega)];exact hc 1 _ rfl,by rw[← xD _ _ 2 (by omega)];exact hc 2 _ rfl,by rw[← xD _ _ 3 (by omega)];exact hc 3 _ rfl,by rw[← xD _ _ 4 (by omega)];exact hc 4 _ rfl,by rw[← xD _ _ 5 (by omega)];exact hc 5 _ rfl⟩
structure mI where
 f0:Int
 f1:Int
 f2:Bool
def VK:mI:=⟨(0:Int),(0:Int),false⟩
def qQ:Kd mI:=Kd.OX (Kd.pair (Kd.int .i64) (Kd.pair (Kd.int .i64) Kd.bool)) (fun x:mI=>(x.f0,x.f1,x.f2))
theorem agu {w:World} {x:mI} {cs:List Value} (h:qQ.K w x cs):cs=[.int .i64 x.f0,.int .i64 x.f1,.bool x.f2]:=by
 obtain⟨_,_,rfl,rfl,⟨_,_,rfl,rfl,rfl⟩⟩:=h;exact rfl
theorem akS (w:World) (x:mI) :qQ.K w x [.int .i64 x.f0,.int .i64 x.f1,.bool x.f2]:=⟨[.int .i64 x.f0],[.int .i64 x.f1,.bool x.f2],rfl,rfl,⟨[.int .i64 x.f1],[.bool x.f2],rfl,rfl,rfl⟩⟩
def eG (xs:List mI) (i:Int):mI:=xs.getD i.toNat VK
theorem mY {w:World} {A:Option Addr} {n:Nat} {xs:List mI} (h:Kd.C qQ w A n xs) (i:Int) (h0:0≤i) (h1:i<n):∃ ad ,A=some ad∧w.cell? (ad.add (i.toNat*3))=some (.int .i64 (eG xs i).f0)∧w.cell? ⟨(ad.add (i.toNat*3)).block,(ad.add (i.toNat*3)).off+1,none⟩=some (.int .i64 (eG xs i).f1)∧w.cell? ⟨(ad.add (i.toNat*3)).block,(ad.add (i.toNat*3)).off+2,none⟩=some (.bool (eG xs i).f2):=by
 obtain⟨ad,c,e,_,hK,hc0⟩:=Kd.SR h VK i h0 h1;have hc:∀ j u,c[j]?=some u→w.cell? (ad.add (i.toNat*3+j))=some u:=hc0;obtain rfl:=agu hK;exact⟨ad,e,hc 0 _ rfl,by rw[← xD _ _ 1 (by omega)];exact hc 1 _ rfl,by rw[← xD _ _ 2 (by omega)];exact hc 2 _ rfl⟩
def B9.f (af:Bool) (aa aj:ByteArray):Option (Int):=if af=true then (some (-1)) else (if aa.toList=([]:List UInt8) then (some 0) else (some 1))
theorem B9.calls (af:Bool) (aa aj:ByteArray) (r:Int) (w:World) (h:B9.f af aa aj=some r) :
  Calls Tryz.prog 53 #[.agg #[.bool af,.string aa,.string aj]] w fun e w'=>e = .returned (.int .i64 r)∧Below w.heap.size w w':=by
 have jT:=Tryz.underlying40;have HB:=qa (Below.refl w.heap.size w);unfold B9.f at h;have H:=h;clear h;by_cases c2:af=true
 ·subst c2
  rw[if_pos rfl]at H
  obtain rfl:=Option.some.inj H;go_enter Tryz.func53,Tryz.ntmps53;go_wp2_with (first|((with_reducible refine aZ (N:=1) rfl ?_);refine zY 1 #[.bool true,.string aa,.string aj] 40 ?_;intro aa3 hg w3 ah hb;have JA:=qa (ah);have aa4:=zG hg HB;have aa5:=zG hg HB;replace HB:=zS HB hb;clear hb ah hg;obtain⟨M1,M4,M6,M7,M8,M9⟩:=z3 JA))
  go_ret
  exact⟨zH,zT HB⟩
 ·replace c2:=Bool.eq_false_iff.mpr c2
  subst c2;rw[if_neg zn]at H
  by_cases c5:aa.toList=([]:List UInt8)
  ·rw[if_pos c5]at H
   have J0:=beq_iff_eq.mpr c5;have Ur:=bne_eq_false_iff_eq.mpr c5;clear c5;obtain rfl:=Option.some.inj H;go_enter Tryz.func53,Tryz.ntmps53;go_wp2_with (first|((with_reducible refine aZ (N:=1) rfl ?_);refine zY 1 #[.bool false,.string aa,.string aj] 40 ?_;intro aa3 hg w6 ah hb;have JA:=qa (ah);have aa4:=zG hg HB;have aa5:=zG hg HB;replace HB:=zS HB hb;clear hb ah hg;obtain⟨awm,awn,awo,awp,awq,awr⟩:=z3 JA))
   go_ret
   exact⟨zH,zT HB⟩
  ·rw[if_neg c5]at H
   have J0:=beq_eq_false_iff_ne.mpr c5;have Ur:=bne_iff_ne.mpr c5;obtain rfl:=Option.some.inj H;go_enter Tryz.func53,Tryz.ntmps53;go_wp2_with (first|((with_reducible refine aZ (N:=1) rfl ?_);refine zY 1 #[.bool false,.string aa,.string aj] 40 ?_;intro aa3 hg w8 ah hb;have JA:=qa (ah);have aa4:=zG hg HB;have aa5:=zG hg HB;replace HB:=zS HB hb;clear hb ah hg;obtain⟨Ap,Aq,FO,Ar,At,FP⟩:=z3 JA))
   go_ret
   exact⟨zH,zT HB⟩
def lf.f (af:Bool) (aa aj:ByteArray):Option (Bool × ByteArray):=some (false,aj)
theorem lf.calls (af:Bool) (aa aj:ByteArray) (r1:Bool) (r2:ByteArray) (w:World) (h:lf.f af aa aj=some (r1,r2)) :
  Calls Tryz.prog 78 #[.agg #[.bool af,.string aa,.string aj]] w fun e w'=>e = .returned (.agg #[.bool r1,.string r2])∧Below w.heap.size w w':=by
 have jT:=Tryz.underlying40;have yu:=Tryz.underlying38;have vT:=wQ;have yT:=wR;have hf2:=wS;have hf3:=wT;have HB:=qa (Below.refl w.heap.size w);unfold lf.f at h;have H:=h;clear h;simp only[Option.some.injEq,Prod.mk.injEq]at H;obtain⟨rfl,rfl⟩:=H;go_enter Tryz.func78,Tryz.ntmps78;go_wp2_with (first|((with_reducible refine aZ (N:=1) rfl ?_);refine zY 1 #[.bool af,.string aa,.string aj] 40 ?_;intro awB hg w2 ah hb;have Ny:=qa (ah);have awC:=zG hg HB;have awD:=zG hg HB;replace HB:=zS HB hb;clear hb ah hg)|((with_reducible refine aZ (N:=2) rfl ?_);refine zY 2 #[.bool false,.string ⟨#[]⟩] 38 ?_;intro alF hg w3 ah hb;have aa6:=qa (ah);have awE:=zG hg HB;have awF:=zG hg HB;obtain⟨afb,afc⟩:=zQ hg Ny;replace Ny:=zB Ny hb;replace HB:=zS HB hb;clear hb ah hg;have ao0:=afb.out;have ao1:=afc.out;obtain⟨CX,CY,CZ,C6,C7,C8⟩:=z3 Ny;obtain⟨uL,uM,uN,uO⟩:=z2 aa6))
 refine bodyPost_ret (results_cell_row rfl _ _ alF 38 #[.bool false,.string aj] (0,0) _ rfl (by (with_reducible repeat(first|refine aI ?_ _|refine aH ?_|refine aF ?_ _));refine zP (cs:=#[.bool false,.string ⟨#[]⟩]) ?_ 1 _;(with_reducible repeat(first|refine aI ?_ _|refine aH ?_|refine aF ?_ _));refine zP (cs:=#[.bool false,.string ⟨#[]⟩]) ?_ 0 _;(with_reducible repeat(first|refine aI ?_ _|refine aH ?_|refine aF ?_ _));exact aa6.out) Tryz.underlying38 rfl (by kernel_rfl)) rfl ?_;exact⟨zH,zT HB⟩
mutual
def jl.l0:Nat→List (mI)→Int→Int→Int→Option (Int)
 | 0,_,_,_,_=>none
 | k+1,x0,x1,x2,x7=>if x7<(x0.length:Int) then (if 0≤x7 then (if ((eG x0 x7).f0)=x1 then (if ((eG x0 x7).f1)=x2 then (jl.j1 k x0 x1 x2 x7 true) else (if ((eG x0 x7).f0)=x2 then (jl.j1 k x0 x1 x2 x7 (((eG x0 x7).f1)==x1)) else (jl.j1 k x0 x1 x2 x7 false))) else (if ((eG x0 x7).f0)=x2 then (jl.j1 k x0 x1 x2 x7 (((eG x0 x7).f1)==x1)) else (jl.j1 k x0 x1 x2 x7 false))) else (none)) else (some (-1))
def jl.j1:Nat→List (mI)→Int→Int→Int→Bool→Option (Int)
 | 0,_,_,_,_,_=>none
 | k+1,x0,x1,x2,x7,x47=>if x47=true then (some x7) else (jl.l0 k x0 x1 x2 (wrap64 (x7+1)))
end
def jl.f (k:Nat) (l0:List (mI)) (a1 a2:Int):Option (Int):=jl.l0 k l0 a1 a2 0
theorem jl.calls (k:Nat) (A0:Option Addr) (c0:Nat) (l0:List (mI)) (a1 a2 r:Int) (w:World) (dL:Kd.C qQ w A0 l0.length l0) (hc0:l0.length≤c0) (h:jl.f k l0 a1 a2=some r) :
  Calls Tryz.prog 22 #[.slice A0 l0.length c0,.int .i64 a1,.int .i64 a2] w fun e w'=>e = .returned (.int .i64 r)∧dZ w w':=by
 have eF:=qa dL;have xq:=qa hc0;clear dL hc0;unfold jl.f at h;have H:=h;clear h;have H':=qa H;clear H;go_enter Tryz.func22,Tryz.ntmps22;go_wp2
 go_loopg [7] k (fun kq v7 w'=>∃ (dY:Int),v7 = .int .i64 dY∧aM (jl.l0 kq l0 a1 a2 dY=some r)∧aM (kq≤k)∧dZ w w')
 case atStart=>exact⟨(0),zR,H',⟨Nat.le_refl _⟩,by repeat(first|exact dZ.refl _|apply dZ.step)⟩
 case round =>
  clear H';try clear c2;try clear p2
  obtain⟨dY,rfl,HA,fY,⟨m1,rfl⟩⟩:=hrel;cases gk with
  | zero=>exact absurd HA.out (by simp[jl.l0])
  | succ k1 =>
   have H:=HA.out;clear HA;simp only[jl.l0]at H;by_cases c4:dY<(l0.length:Int)
   ·rw[if_pos c4]at H
    have fI:=decide_eq_true c4;clear c4;have Eu:=qa H;clear H;go_upto_region 4 with (fail)
    go_cut [47] (fun v47 wc=>∃ (kq:Nat) (NH:Bool),v47 = .bool NH∧aM (jl.j1 kq l0 a1 a2 dY NH=some r)∧aM (kq≤k1)∧dZ w wc)
    case first =>
     have H:=Eu.out;clear Eu;by_cases c6:0≤dY
     ·rw[if_pos c6]at H
      have qF:=decide_eq_true c6;clear c6
      (first|rw[qF]|(simp only[dJ,dK];rw[qF])|skip)
      by_cases c7:((eG l0 dY).f0)=a1
      ·rw[if_pos c7]at H
       have nN:=beq_iff_eq.mpr c7;have AL:=bne_eq_false_iff_eq.mpr c7;clear c7;by_cases c8:((eG l0 dY).f1)=a2
       ·rw[if_pos c8]at H
        have Oj:=beq_iff_eq.mpr c8;have Ok:=bne_eq_false_iff_eq.mpr c8;clear c8;have H':=qa H;clear H;have nO:0≤(dY:Int):=of_decide_eq_true (by first|(with_reducible assumption)|assumption);have nP:dY<(l0.length:Int):=of_decide_eq_true (by first|(with_reducible assumption)|assumption);obtain⟨sI,yw,IQ,IU,IV⟩:=mY eF.out dY nO nP;cases yw;replace nO:=eq_true nO;replace nP:=eq_true nP;have tY:0≤(dY:Int):=of_decide_eq_true (by first|(with_reducible assumption)|assumption);have tZ:dY<(l0.length:Int):=of_decide_eq_true (by first|(with_reducible assumption)|assumption);obtain⟨JG,J3,RJ,RK,RM⟩:=mY eF.out dY tY tZ;obtain rfl:sI=JG:=(by injection J3)
        replace tY:=eq_true tY;replace tZ:=eq_true tZ;go_wp2
        go_meet
        case rel=>exact⟨_,(true),zR,H',⟨by have:=fY.out;first|omega|exact Nat.le_refl _⟩,by repeat(first|exact dZ.refl _|apply dZ.step)⟩
       ·rw[if_neg c8]at H
        have Oj:=beq_eq_false_iff_ne.mpr c8;have Ok:=bne_iff_ne.mpr c8;by_cases c9:((eG l0 dY).f0)=a2
        ·rw[if_pos c9]at H
         have Ol:=beq_iff_eq.mpr c9;have Om:=bne_eq_false_iff_eq.mpr c9;clear c9;have H':=qa H;clear H;have nO:0≤(dY:Int):=of_decide_eq_true (by first|(with_reducible assumption)|assumption);have nP:dY<(l0.length:Int):=of_decide_eq_true (by first|(with_reducible assumption)|assumption);obtain⟨sI,yw,IQ,IU,IV⟩:=mY eF.out dY nO nP;cases yw;replace nO:=eq_true nO;replace nP:=eq_true nP;have tY:0≤(dY:Int):=of_decide_eq_true (by first|(with_reducible assumption)|assumption);have tZ:dY<(l0.length:Int):=of_decide_eq_true (by first|(with_reducible assumption)|assumption);obtain⟨JG,J3,RJ,RK,RM⟩:=mY eF.out dY tY tZ;obtain rfl:sI=JG:=(by injection J3)
         replace tY:=eq_true tY;replace tZ:=eq_true tZ;have AP:0≤(dY:Int):=of_decide_eq_true (by first|(with_reducible assumption)|assumption);have AQ:dY<(l0.length:Int):=of_decide_eq_true (by first|(with_reducible assumption)|assumption);obtain⟨Ts,Ux,YR,YS,YT⟩:=mY eF.out dY AP AQ;obtain rfl:sI=Ts:=(by injection Ux)
         replace AP:=eq_true AP;replace AQ:=eq_true AQ;have On:0≤(dY:Int):=of_decide_eq_true (by first|(with_reducible assumption)|assumption);have Oo:dY<(l0.length:Int):=of_decide_eq_true (by first|(with_reducible assumption)|assumption);obtain⟨alY,apd,ahZ,ah0,ah1⟩:=mY eF.out dY On Oo;obtain rfl:sI=alY:=(by injection apd)
         replace On:=eq_true On;replace Oo:=eq_true Oo;go_wp2
         go_meet
         case rel=>exact⟨_,((((eG l0 dY).f1)==a1)),zR,H',⟨by have:=fY.out;first|omega|exact Nat.le_refl _⟩,by repeat(first|exact dZ.refl _|apply dZ.step)⟩
        ·rw[if_neg c9]at H
         have Ol:=beq_eq_false_iff_ne.mpr c9;have Om:=bne_iff_ne.mpr c9;have H':=qa H;clear H;have nO:0≤(dY:Int):=of_decide_eq_true (by first|(with_reducible assumption)|assumption);have nP:dY<(l0.length:Int):=of_decide_eq_true (by first|(with_reducible assumption)|assumption);obtain⟨sI,yw,IQ,IU,IV⟩:=mY eF.out dY nO nP;cases yw;replace nO:=eq_true nO;replace nP:=eq_true nP;have tY:0≤(dY:Int):=of_decide_eq_true (by first|(with_reducible assumption)|assumption);have tZ:dY<(l0.length:Int):=of_decide_eq_true (by first|(with_reducible assumption)|assumption);obtain⟨JG,J3,RJ,RK,RM⟩:=mY eF.out dY tY tZ;obtain rfl:sI=JG:=(by injection J3)
         replace tY:=eq_true tY;replace tZ:=eq_true tZ;have AP:0≤(dY:Int):=of_decide_eq_true (by first|(with_reducible assumption)|assumption);have AQ:dY<(l0.length:Int):=of_decide_eq_true (by first|(with_reducible assumption)|assumption);obtain⟨Ts,Ux,YR,YS,YT⟩:=mY eF.out dY AP AQ;obtain rfl:sI=Ts:=(by injection Ux)
         replace AP:=eq_true AP;replace AQ:=eq_true AQ;go_wp2
         go_meet
         case rel=>exact⟨_,(false),zR,H',⟨by have:=fY.out;first|omega|exact Nat.le_refl _⟩,by repeat(first|exact dZ.refl _|apply dZ.step)⟩
      ·rw[if_neg c7]at H
       have nN:=beq_eq_false_iff_ne.mpr c7;have AL:=bne_iff_ne.mpr c7;by_cases c10:((eG l0 dY).f0)=a2
       ·rw[if_pos c10]at H
        have nY:=beq_iff_eq.mpr c10;have Ay:=bne_eq_false_iff_eq.mpr c10;clear c10;have H':=qa H;clear H;have nO:0≤(dY:Int):=of_decide_eq_true (by first|(with_reducible assumption)|assumption);have nP:dY<(l0.length:Int):=of_decide_eq_true (by first|(with_reducible assumption)|assumption);obtain⟨sI,yw,IQ,IU,IV⟩:=mY eF.out dY nO nP;cases yw;replace nO:=eq_true nO;replace nP:=eq_true nP;have AR:0≤(dY:Int):=of_decide_eq_true (by first|(with_reducible assumption)|assumption);have AU:dY<(l0.length:Int):=of_decide_eq_true (by first|(with_reducible assumption)|assumption);obtain⟨Tt,Uy,YU,YV,YW⟩:=mY eF.out dY AR AU;obtain rfl:sI=Tt:=(by injection Uy)
        replace AR:=eq_true AR;replace AU:=eq_true AU;have Oq:0≤(dY:Int):=of_decide_eq_true (by first|(with_reducible assumption)|assumption);have Ot:dY<(l0.length:Int):=of_decide_eq_true (by first|(with_reducible assumption)|assumption);obtain⟨alZ,ape,ah2,ah3,ah4⟩:=mY eF.out dY Oq Ot;obtain rfl:sI=alZ:=(by injection ape)
        replace Oq:=eq_true Oq;replace Ot:=eq_true Ot;go_wp2
        go_meet
        case rel=>exact⟨_,((((eG l0 dY).f1)==a1)),zR,H',⟨by have:=fY.out;first|omega|exact Nat.le_refl _⟩,by repeat(first|exact dZ.refl _|apply dZ.step)⟩
       ·rw[if_neg c10]at H
        have nY:=beq_eq_false_iff_ne.mpr c10;have Ay:=bne_iff_ne.mpr c10;have H':=qa H;clear H;have nO:0≤(dY:Int):=of_decide_eq_true (by first|(with_reducible assumption)|assumption);have nP:dY<(l0.length:Int):=of_decide_eq_true (by first|(with_reducible assumption)|assumption);obtain⟨sI,yw,IQ,IU,IV⟩:=mY eF.out dY nO nP;cases yw;replace nO:=eq_true nO;replace nP:=eq_true nP;have AR:0≤(dY:Int):=of_decide_eq_true (by first|(with_reducible assumption)|assumption);have AU:dY<(l0.length:Int):=of_decide_eq_true (by first|(with_reducible assumption)|assumption);obtain⟨Tt,Uy,YU,YV,YW⟩:=mY eF.out dY AR AU;obtain rfl:sI=Tt:=(by injection Uy)
        replace AR:=eq_true AR;replace AU:=eq_true AU;go_wp2
        go_meet
        case rel=>exact⟨_,(false),zR,H',⟨by have:=fY.out;first|omega|exact Nat.le_refl _⟩,by repeat(first|exact dZ.refl _|apply dZ.step)⟩
     ·rw[if_neg c6]at H
      exact absurd H (by simp)
    case rest =>
     clear Eu;try clear c1;try clear c2;try clear p2;try clear q2;try clear hx2;try clear c4;try clear fI;try clear c6;try clear qF;try clear c7;try clear nN;try clear AL;try clear c8;try clear Oj;try clear Ok;try clear c9;try clear Ol;try clear Om;try clear c10;try clear nY;try clear Ay;try clear IQ;try clear IU;try clear IV;try clear RJ;try clear RK;try clear RM;try clear YR;try clear YS;try clear YT;try clear ahZ;try clear ah0;try clear ah1;try clear YU;try clear YV;try clear YW;try clear ah2;try clear ah3;try clear ah4;try clear p2;try clear nO;try clear tY;try clear AP;try clear On;try clear AR;try clear Oq;try clear nP;try clear tZ;try clear AQ;try clear Oo;try clear AU;try clear Ot
     obtain⟨kq,NH,rfl,HA,V3,⟨mc4,rfl⟩⟩:=hcut;cases kq with
     | zero=>exact absurd HA.out (by simp[jl.j1])
     | succ V4 =>
      have H:=HA.out;clear HA;simp only[jl.j1]at H;by_cases c11:NH=true
      ·subst c11
       rw[if_pos rfl]at H
       obtain rfl:=Option.some.inj H;go_wp2
       go_ret
       exact⟨by first|rfl|(simp;done)|(simp[*];done),by repeat(first|exact dZ.refl _|apply dZ.step)⟩
      ·replace c11:=Bool.eq_false_iff.mpr c11
       subst c11;rw[if_neg zn]at H
       have H':=qa H;clear H;go_wp2
       go_roundg V4
       case measure=>have:=fY.out;have:=V3.out;omega
       case rel=>exact⟨(wrap64 (dY+1)),zR,H',⟨by have:=fY.out;have:=V3.out;omega⟩,by repeat(first|exact dZ.refl _|apply dZ.step)⟩
   ·rw[if_neg c4]at H
    have fI:=decide_eq_false c4;clear c4;obtain rfl:=Option.some.inj H;go_wp2
    go_ret
    exact⟨by first|rfl|(simp;done)|(simp[*];done),by repeat(first|exact dZ.refl _|apply dZ.step)⟩
def tu.f (af:Bool) (aa aj:ByteArray):Option (Bool):=if (aa.size:Int) > 100 then (some true) else (some (decide ((aj.size:Int) > 100)))
theorem tu.calls (af:Bool) (aa aj:ByteArray) (r:Bool) (w:World) (h:tu.f af aa aj=some r) :
  Calls Tryz.prog 43 #[.agg #[.bool af,.string aa,.string aj]] w fun e w'=>e = .returned (.bool r)∧Below w.heap.size w w':=by
 have jT:=Tryz.underlying40;have HB:=qa (Below.refl w.heap.size w);unfold tu.f at h;have H:=h;clear h;by_cases c2:(aa.size:Int) > 100
 ·rw[if_pos c2]at H
  have rL:=decide_eq_true c2;have apf:decide (100<aa.size)=true:=decide_eq_true (by omega);clear c2;obtain rfl:=Option.some.inj H;go_enter Tryz.func43,Tryz.ntmps43;go_wp2_with (first|((with_reducible refine aZ (N:=1) rfl ?_);(try(refine Cb (by rfl) ?_;dsimp only));refine zY 1 #[.bool af,.string aa,.string aj] 40 ?_;intro al0 hg w3 ah hb;have Tu:=qa (ah);have al1:=zG hg HB;have al2:=zG hg HB;replace HB:=zS HB hb;clear hb ah hg;obtain⟨M1,M4,M6,M7,M8,M9⟩:=z3 Tu))
  go_ret
  exact⟨zH,zT HB⟩
 ·rw[if_neg c2]at H
  have rL:=decide_eq_false c2;have apf:decide (100<aa.size)=false:=decide_eq_false (by omega);clear c2;obtain rfl:=Option.some.inj H;go_enter Tryz.func43,Tryz.ntmps43;go_wp2_with (first|((with_reducible refine aZ (N:=1) rfl ?_);(try(refine Cb (by rfl) ?_;dsimp only));refine zY 1 #[.bool af,.string aa,.string aj] 40 ?_;intro al0 hg w5 ah hb;have Tu:=qa (ah);have al1:=zG hg HB;have al2:=zG hg HB;replace HB:=zS HB hb;clear hb ah hg;obtain⟨uL,uM,xS,uN,uO,xT⟩:=z3 Tu))
  go_ret
  exact⟨zH,zT HB⟩
open Go.Proofs.YtfcjnhkkfmgmpaaGreat Go.Proofs.YtfcjnhkkfmgmpaaGreat.aR in
def xA.f (af:Bool) (aa:ByteArray):Option (Int):=some (gN af aa)
open Go.Proofs.YtfcjnhkkfmgmpaaGreat Go.Proofs.YtfcjnhkkfmgmpaaGreat.aR in
theorem xA.calls (af:Bool) (aa:ByteArray) (r:Int) (w:World) (h:xA.f af aa=some r) :
  Calls Tryz.prog 84 #[.agg #[.bool af,.string aa]] w fun e w'=>e = .returned (.int .i64 r)∧Below w.heap.size w w':=by
 unfold xA.f at h;obtain rfl:=Option.some.inj h;exact ahb _ _ w
open Go.Proofs.YtfcjnhkkfmgmpaaGreat Go.Proofs.YtfcjnhkkfmgmpaaGreat.aR in
def zu.f (a0:ByteArray):Option (Bool):=some (qD a0)
open Go.Proofs.YtfcjnhkkfmgmpaaGreat Go.Proofs.YtfcjnhkkfmgmpaaGreat.aR in
theorem zu.calls (a0:ByteArray) (r:Bool) (w:World) (h:zu.f a0=some r) :
  Calls Tryz.prog 85 #[.string a0] w fun e w'=>e = .returned (.bool r)∧Below w.heap.size w w':=by
 unfold zu.f at h;obtain rfl:=Option.some.inj h;exact YA a0 w
open Go.Proofs.YtfcjnhkkfmgmpaaGreat Go.Proofs.YtfcjnhkkfmgmpaaGreat.aR in
def uC.f (af:Bool) (aa:ByteArray):Option (Int):=some (gN af aa)
open Go.Proofs.YtfcjnhkkfmgmpaaGreat Go.Proofs.YtfcjnhkkfmgmpaaGreat.aR in
theorem uC.calls (af:Bool) (aa:ByteArray) (r:Int) (w:World) (h:uC.f af aa=some r) :
  Calls Tryz.prog 107 #[.agg #[.bool af,.string aa]] w fun e w'=>e = .returned (.int .i64 r)∧Below w.heap.size w w':=by
 unfold uC.f at h;obtain rfl:=Option.some.inj h;exact Mo _ _ w
def jv.f (af:Bool) (aa aj:ByteArray):Option (Bool × ByteArray):=some (false,aj)
theorem jv.calls (af:Bool) (aa aj:ByteArray) (r1:Bool) (r2:ByteArray) (w:World) (h:jv.f af aa aj=some (r1,r2)) :
  Calls Tryz.prog 108 #[.agg #[.bool af,.string aa,.string aj]] w fun e w'=>e = .returned (.agg #[.bool r1,.string r2])∧Below w.heap.size w w':=by
 have jT:=Tryz.underlying40;have yu:=Tryz.underlying38;have vT:=wQ;have yT:=wR;have hf2:=wS;have hf3:=wT;have HB:=qa (Below.refl w.heap.size w);unfold jv.f at h;have H:=h;clear h;simp only[Option.some.injEq,Prod.mk.injEq]at H;obtain⟨rfl,rfl⟩:=H;go_enter Tryz.func108,Tryz.ntmps108;go_wp2_with (first|((with_reducible refine aZ (N:=1) rfl ?_);refine zY 1 #[.bool af,.string aa,.string aj] 40 ?_;intro axu hg w2 ah hb;have NP:=qa (ah);have axv:=zG hg HB;have axw:=zG hg HB;replace HB:=zS HB hb;clear hb ah hg)|((with_reducible refine aZ (N:=2) rfl ?_);refine zY 2 #[.bool false,.string ⟨#[]⟩] 38 ?_;intro ame hg w3 ah hb;have abt:=qa (ah);have axx:=zG hg HB;have axy:=zG hg HB;obtain⟨afh,afi⟩:=zQ hg NP;replace NP:=zB NP hb;replace HB:=zS HB hb;clear hb ah hg;have ao0:=afh.out;have ao1:=afi.out;obtain⟨CX,CY,CZ,C6,C7,C8⟩:=z3 NP;obtain⟨uL,uM,uN,uO⟩:=z2 abt))
 refine bodyPost_ret (results_cell_row rfl _ _ ame 38 #[.bool false,.string aj] (0,0) _ rfl (by (with_reducible repeat(first|refine aI ?_ _|refine aH ?_|refine aF ?_ _));refine zP (cs:=#[.bool false,.string ⟨#[]⟩]) ?_ 1 _;(with_reducible repeat(first|refine aI ?_ _|refine aH ?_|refine aF ?_ _));refine zP (cs:=#[.bool false,.string ⟨#[]⟩]) ?_ 0 _;(with_reducible repeat(first|refine aI ?_ _|refine aH ?_|refine aF ?_ _));exact abt.out) Tryz.underlying38 rfl (by kernel_rfl)) rfl ?_;exact⟨zH,zT HB⟩
open Go.Proofs.YtfcjnhkkfmgmpaaGreat Go.Proofs.YtfcjnhkkfmgmpaaGreat.aR in
def rj.f (af:Bool) (aa:ByteArray) (aq:Bool) (ak:ByteArray):Option (Bool × ByteArray × Int):=if aa.size≤15000∧ak.size≤15000 then some ((AJ (af,aa) (aq,ak)).1.1,(AJ (af,aa) (aq,ak)).1.2,(AJ (af,aa) (aq,ak)).2) else none
open Go.Proofs.YtfcjnhkkfmgmpaaGreat Go.Proofs.YtfcjnhkkfmgmpaaGreat.aR in
theorem rj.calls (af:Bool) (aa:ByteArray) (aq:Bool) (ak:ByteArray) (r1:Bool) (r2:ByteArray) (r3:Int) (w:World) (h:rj.f af aa aq ak=some (r1,r2,r3)) :
  Calls Tryz.prog 109 #[.agg #[.bool af,.string aa],.agg #[.bool aq,.string ak]] w fun e w'=>e = .returned (.tuple #[.agg #[.bool r1,.string r2],.int .i64 r3])∧Below w.heap.size w w':=by
 unfold rj.f at h;split at h
 ·rename_i hc
  simp only[Option.some.injEq,Prod.mk.injEq]at h;obtain⟨rfl,rfl,rfl⟩:=h;exact akQ (af,aa) (aq,ak) hc.1 hc.2 w
 ·exact absurd h (by simp)
open Go.Proofs.YtfcjnhkkfmgmpaaGreat Go.Proofs.YtfcjnhkkfmgmpaaGreat.aR in
def E7.f (af:Bool) (aa:ByteArray) (aq:Bool) (ak:ByteArray):Option (Bool × ByteArray × Int):=if aa.size≤15000∧ak.size≤15000 then some ((oV (·*·) (af,aa) (aq,ak)).1.1,(oV (·*·) (af,aa) (aq,ak)).1.2,(oV (·*·) (af,aa) (aq,ak)).2) else none
open Go.Proofs.YtfcjnhkkfmgmpaaGreat Go.Proofs.YtfcjnhkkfmgmpaaGreat.aR in
theorem E7.calls (af:Bool) (aa:ByteArray) (aq:Bool) (ak:ByteArray) (r1:Bool) (r2:ByteArray) (r3:Int) (w:World) (h:E7.f af aa aq ak=some (r1,r2,r3)) :
  Calls Tryz.prog 123 #[.agg #[.bool af,.string aa],.agg #[.bool aq,.string ak]] w fun e w'=>e = .returned (.tuple #[.agg #[.bool r1,.string r2],.int .i64 r3])∧Below w.heap.size w w':=by
 unfold E7.f at h;split at h
 ·rename_i hc
  simp only[Option.some.injEq,Prod.mk.injEq]at h;obtain⟨rfl,rfl,rfl⟩:=h;exact(alE (af,aa) (aq,ak) hc.1 hc.2).out w
 ·exact absurd h (by simp)
theorem aoe (d:Nat) (w:World) (x0 y0:Bool) (x1 y1:ByteArray) :
  (Op.equalIn (d+2) 38 (.agg #[.bool x0,.string x1]) (.agg #[.bool y0,.string y1])).run Tryz.prog w = .ok (x0==y0&&(x1.toList==y1.toList)) w:=by
 refine MW Tryz.underlying38 (by kernel_rfl) ?_;refine Iv (by rfl) (by go_simp;rfl) (by go_simp;rfl) (by go_simp) ?_;exact Mf (by rfl) (by go_simp;rfl) (by go_simp;rfl) (by go_simp)
theorem ab8 (d:Nat) (w:World) (x0 y0:Bool) (x1 y1 x2 y2:ByteArray) :
  (Op.equalIn (d+3) 40 (.agg #[.bool x0,.string x1,.string x2]) (.agg #[.bool y0,.string y1,.string y2])).run Tryz.prog w = .ok ((x0==y0&&(x1.toList==y1.toList))&&(x2.toList==y2.toList)) w:=by
 refine MW Tryz.underlying40 (by kernel_rfl) ?_;refine Iv (by rfl) (by go_simp) (by go_simp) (aoe (d+0) w _ _ _ _) ?_;exact Mf (by rfl) (by go_simp;rfl) (by go_simp;rfl) (by go_simp)
theorem aof (d:Nat) (w:World) (x0 y0:Bool) (x1 y1 x2 y2:ByteArray) (x3 y3:Bool) (x4 y4 x5 y5:ByteArray) :
  (Op.equalIn (d+4) 42 (.agg #[.bool x0,.string x1,.string x2,.bool x3,.string x4,.string x5]) (.agg #[.bool y0,.string y1,.string y2,.bool y3,.string y4,.string y5])).run Tryz.prog w = .ok (((x0==y0&&(x1.toList==y1.toList))&&(x2.toList==y2.toList))&&(((x3==y3&&(x4.toList==y4.toList))&&(x5.toList==y5.toList)))) w:=by
 refine MW Tryz.underlying42 (by kernel_rfl) ?_;refine Iv (by rfl) (by go_simp) (by go_simp) (ab8 (d+0) w _ _ _ _ _ _) ?_;exact Mf (by rfl) (by go_simp) (by go_simp) (ab8 (d+0) w _ _ _ _ _ _)
theorem aoi (d:Nat) (w:World) (x0 y0 x1 y1:Int) (x2 y2:Bool) :
  (Op.equalIn (d+2) 55 (.agg #[.int .i64 x0,.int .i64 x1,.bool x2]) (.agg #[.int .i64 y0,.int .i64 y1,.bool y2])).run Tryz.prog w = .ok (x0==y0&&(x1==y1&&(x2==y2))) w:=by
 refine MW Tryz.underlying55 (by kernel_rfl) ?_;refine Iv (by rfl) (by go_simp;rfl) (by go_simp;rfl) (by go_simp) ?_;refine Iv (by rfl) (by go_simp;rfl) (by go_simp;rfl) (by go_simp) ?_;exact Mf (by rfl) (by go_simp;rfl) (by go_simp;rfl) (by go_simp)
end Go.Proofs.aC.R
