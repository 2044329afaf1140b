import Derived.Test.YtcmepkhjggpmeaaGreatZuG25
set_option linter.all false
set_option maxRecDepth 100000
set_option maxHeartbeats 8000000
namespace Go.Proofs.YtcmepkhjggpmeaaGreat
open Go.RowKit aP Go.Proofs.aF.R Go.Proofs.aF.Z Go.Proofs.aD.aY
structure MB (g:Nat) (w:World) (A0 A1 A2:Option Addr) (n0 c0 n1 c1 n2 c2:Nat) (wr:World):Prop where
 below:Below g w wr
 b0:wr.cell? ⟨g,0,none⟩=some (.slice A0 n0 c0)
 b1:wr.cell? ⟨g,1,none⟩=some (.slice A1 n1 c1)
 b2:wr.cell? ⟨g,2,none⟩=some (.slice A2 n2 c2)
theorem MB.step {g:Nat} {w:World} {A0 A1 A2:Option Addr} {n0 c0 n1 c1 n2 c2:Nat} {wr w2:World} (h:MB g w A0 A1 A2 n0 c0 n1 c1 n2 c2 wr) (hb:Below wr.heap.size wr w2):MB g w A0 A1 A2 n0 c0 n1 c1 n2 c2 w2:=by
 have hl:=ql h.b0;exact⟨h.below.trans (hb.mono (by have:g<wr.heap.size:=hl;omega)),(hb.cell (p:=⟨g,0,none⟩) hl).trans h.b0,(hb.cell (p:=⟨g,1,none⟩) hl).trans h.b1,(hb.cell (p:=⟨g,2,none⟩) hl).trans h.b2⟩
theorem MB.new (w:World) (A0 A1 A2:Option Addr) (n0 c0 n1 c1 n2 c2:Nat):MB w.heap.size w A0 A1 A2 n0 c0 n1 c1 n2 c2 (w.alloc (.cells #[.slice A0 n0 c0,.slice A1 n1 c1,.slice A2 n2 c2] 26)) :=
 ⟨(Below.refl _ _).alloc (Nat.le_refl _) _,by simp[go_sem],by simp[go_sem],by simp[go_sem]⟩
def sq (n1:Nat) (t k:Int):Bool:=decide (0<=t)&&decide (t<n1)&&decide (0<=k)&&decide (k<=2)
theorem aqK (A0 A1 A2:Option Addr) (n0 c0 n1 c1 n2 c2:Nat) (w:World) (t k:Int) :
  Calls Tryz.prog 14 #[.agg #[.slice A0 n0 c0,.slice A1 n1 c1,.slice A2 n2 c2],.int .i64 t,.int .i64 k] w fun e w'=>e = .returned (.bool (sq n1 t k))/\Below w.heap.size w w':=by
 have HB:=qh (MB.new w A0 A1 A2 n0 c0 n1 c1 n2 c2);unfold sq;by_cases a1:0<=t
 ·have e1:decide (0<=t)=true:=decide_eq_true a1
  clear a1;by_cases a2:t<(n1:Int)
  ·have e2:decide (t<(n1:Int))=true:=decide_eq_true a2
   clear a2;by_cases a3:0<=k
   ·have e3:decide (0<=k)=true:=decide_eq_true a3
    clear a3;by_cases a4:k<=2
    ·have e4:decide (k<=2)=true:=decide_eq_true a4
     clear a4;rw[e1,e2,e3,e4];go_enter Tryz.func14,Tryz.ntmps14;go_wp2
     go_ret
     exact⟨rfl,HB.out.below⟩
    ·have e4:decide (k<=2)=false:=decide_eq_false a4
     clear a4;rw[e1,e2,e3,e4];go_enter Tryz.func14,Tryz.ntmps14;go_wp2
     go_ret
     exact⟨rfl,HB.out.below⟩
   ·have e3:decide (0<=k)=false:=decide_eq_false a3
    clear a3;rw[e1,e2,e3];go_enter Tryz.func14,Tryz.ntmps14;go_wp2
    go_ret
    exact⟨rfl,HB.out.below⟩
  ·have e2:decide (t<(n1:Int))=false:=decide_eq_false a2
   clear a2;rw[e1,e2];go_enter Tryz.func14,Tryz.ntmps14;go_wp2
   go_ret
   exact⟨rfl,HB.out.below⟩
 ·have e1:decide (0<=t)=false:=decide_eq_false a1
  clear a1;rw[e1];go_enter Tryz.func14,Tryz.ntmps14;go_wp2
  go_ret
  exact⟨rfl,HB.out.below⟩
theorem ahJ (A0 A1 A2:Option Addr) (n0 c0 n1 c1 n2 c2:Nat) (zs:List Int) (w:World) (hr:IR w A1 (3*n1) zs) (t k:Nat) (ht:t<n1) (hk:k<=2) (hn:n1<=100000) :
  Calls Tryz.prog 15 #[.agg #[.slice A0 n0 c0,.slice A1 n1 c1,.slice A2 n2 c2],.int .i64 t,.int .i64 k] w fun e w'=>e = .returned (.tuple #[.int .i64 (fT (bK zs (zs.getD (3*t+nx k) 0) (zs.getD (3*t+k) 0) (3*n1))),.int .i64 (fK (bK zs (zs.getD (3*t+nx k) 0) (zs.getD (3*t+k) 0) (3*n1)))])/\Below w.heap.size w w':=by
 have hB:=MB.new w A0 A1 A2 n0 c0 n1 c1 n2 c2;have HE:=qh (SL A0 A1 A2 n0 c0 n1 c1 n2 c2 zs _ (hr.below hB.below rfl) t k ht hk hn);have q0:=hB.b0;have q1:=hB.b1;have q2:=hB.b2;have HB:=qh hB;have HR:=qh hr;have HN:=qh hn;obtain⟨x,hx⟩:∃ x,zs.getD (3*t+k) 0=x:=⟨_,rfl⟩
 obtain⟨y,hy⟩:∃ y,zs.getD (3*t+nx k) 0=y:=⟨_,rfl⟩
 rw[hx,hy]at HE ⊢
 clear hx hy hB hr hn ht hk;go_enter Tryz.func15,Tryz.ntmps15;go_wp2_with fail
 refine HE.out.mono ?_;rintro e w2 ⟨rfl,hb⟩;have AA:=HB.out.step hb;have p0:=AA.b0;have p1:=AA.b1;have p2:=AA.b2;have HF:=qh (Jz A0 A1 A2 n0 c0 n1 c1 n2 c2 zs _ (HR.out.below AA.below rfl) y x HN.out);have bV:=qh AA;clear hb AA q0 q1 q2;go_wp2_with fail
 refine HF.out.mono ?_;rintro e w3 ⟨rfl,hb⟩;have bX:=qh (bV.out.step hb);clear hb;go_wp2
 go_ret2
 exact⟨rfl,bX.out.below⟩
abbrev SS:=List pT
abbrev bG (ss:SS) (i:Nat):pT:=kJ ss (i:Int)
def SgO (K:Nat) (ss:SS) (sg:Int->Int->Int):Prop:=∀ a b,i_.f K ss a b=some (sg a b)
def DS (zs:List Int) (n1 j:Nat):Prop:=bK zs (zs.getD j 0) (zs.getD (3*(j / 3)+nx (j%3)) 0) (3*n1)=some j
def Gp (zs:List Int) (n1:Nat) (sg:Int->Int->Int) (ss:SS) (i:Nat):Prop :=
 (fT (bK zs (bG ss i).f0 (bG ss i).f1 (3*n1))<0/\fT (bK zs (bG ss i).f1 (bG ss i).f0 (3*n1))<0)\/sg (bG ss i).f0 (bG ss i).f1≠i
structure uf (ps:PS) (zs:List Int) (n1:Nat) (ss:SS) (ask:Int) (bn:Nat->Nat->Nat->Int) (sg:Int->Int->Int):Prop where
 l0:ps.length<=400
 l1:n1<=900
 l2:ss.length<=1300
 a:ask=0
 c:∀ t,t<n1->uF bn ps.length zs t=true
 d:∀ j,j<3*n1->DS zs n1 j
 s:∀ i,i<ss.length->¬ Gp zs n1 sg ss i
structure ow (w:World) (A0 A1 A2:Option Addr) (c0 c2:Nat) (ps:PS) (zs:List Int) (n1:Nat) (ss:SS):Prop where
 p:Kd.C eA w A0 ps.length ps
 pc:ps.length<=c0
 t:IR w A1 (3*n1) zs
 s:Kd.C tZ w A2 ss.length ss
 sc:ss.length<=c2
theorem ow.below {w w':World} {A0 A1 A2:Option Addr} {c0 c2:Nat} {ps:PS} {zs:List Int} {n1:Nat} {ss:SS} (h:ow w A0 A1 A2 c0 c2 ps zs n1 ss) {b:Nat} (hb:Below b w w') (hz:b=w.heap.size):ow w' A0 A1 A2 c0 c2 ps zs n1 ss:=by
 subst hz;exact⟨Kd.xq h.p hb,h.pc,h.t.below hb rfl,Kd.xq h.s hb,h.sc⟩
theorem ajd (A0 A1 A2:Option Addr) (c0 n1 c1 c2:Nat) (ps:PS) (zs:List Int) (ss:SS) (w:World) (hA:ow w A0 A1 A2 c0 c2 ps zs n1 ss) (K:Nat) (ask:Int) (hK:l6.f K ps=some ask) (bn:Nat->Nat->Nat->Int) (hO:ask=0->Wi K ps bn) (sg:Int->Int->Int) (hG:SgO K ss sg) :
  Calls Tryz.prog 7 #[.agg #[.slice A0 ps.length c0,.slice A1 n1 c1,.slice A2 ss.length c2]] w fun e w'=>∃ r,e = .returned (.int .i64 r)/\(r=0↔uf ps zs n1 ss ask bn sg)/\Below w.heap.size w w':=by
 obtain⟨n0,hn0⟩:∃ n,ps.length=n:=⟨_,rfl⟩
 obtain⟨n2,hn2⟩:∃ n,ss.length=n:=⟨_,rfl⟩
 have HB:=qh (MB.new w A0 A1 A2 n0 c0 n1 c1 n2 c2);have H0:=qh hn0;have H2:=qh hn2;have HA:=qh hA;have HK:=qh hK;have HO:=qh hO;have Lr:=qh hG;rw[hn0,hn2];clear hA hK hO hG hn0 hn2;by_cases a0:400<n0
 ·have e0:decide ((400:Int)<(n0:Int))=true:=decide_eq_true qo
  have HF:=qh (show ¬ uf ps zs n1 ss ask bn sg from fun h=>by have:=h.l0;rw[H0.out]at this;omega);clear a0;go_enter Tryz.func7,Tryz.ntmps7;go_wp2
  go_ret
  exact⟨5,rfl,⟨fun h=>absurd h qd,fun h=>absurd h HF.out⟩,HB.out.below⟩
 have e0:decide ((400:Int)<(n0:Int))=false:=decide_eq_false qo;by_cases a1:900<n1
 ·have e1:decide ((900:Int)<(n1:Int))=true:=decide_eq_true qo
  have HF:=qh (show ¬ uf ps zs n1 ss ask bn sg from fun h=>by have:=h.l1;omega);clear a0 a1;go_enter Tryz.func7,Tryz.ntmps7;go_wp2
  go_ret
  exact⟨5,rfl,⟨fun h=>absurd h qd,fun h=>absurd h HF.out⟩,HB.out.below⟩
 have e1:decide ((900:Int)<(n1:Int))=false:=decide_eq_false qo;by_cases a2:1300<n2
 ·have e2:decide ((1300:Int)<(n2:Int))=true:=decide_eq_true qo
  have HF:=qh (show ¬ uf ps zs n1 ss ask bn sg from fun h=>by have:=h.l2;rw[H2.out]at this;omega);clear a0 a1 a2;go_enter Tryz.func7,Tryz.ntmps7;go_wp2
  go_ret
  exact⟨5,rfl,⟨fun h=>absurd h qd,fun h=>absurd h HF.out⟩,HB.out.below⟩
 have e2:decide ((1300:Int)<(n2:Int))=false:=decide_eq_false qo;have HL:=qh (show n0<=400/\n1<=900/\n2<=1300 by omega);clear a0 a1 a2;have q0:=HB.out.b0;have q1:=HB.out.b1;have q2:=HB.out.b2;have vu:=qh (l6.calls K A0 c0 ps ask _ (HA.out.below HB.out.below rfl).p HA.out.pc HK.out);rw[H0.out]at vu
 by_cases a3:ask=0;rotate_left
 ·have e3:(ask != 0)=true:=bne_iff_ne.mpr a3
  have HF:=qh (show ¬ uf ps zs n1 ss ask bn sg from fun h=>a3 h.a);have jA:=qh a3;clear a3;go_enter Tryz.func7,Tryz.ntmps7;go_wp2_with fail
  refine vu.out.mono ?_;rintro e w2 ⟨rfl,hb⟩;have bV:=qh (HB.out.step hb);clear hb;go_wp2
  go_ret
  exact⟨ask,rfl,⟨fun h=>absurd h jA.out,fun h=>absurd h HF.out⟩,bV.out.below⟩
 have HO:=qh (HO.out a3);have e3:(ask != 0)=false:=bne_eq_false_iff_eq.mpr a3;have HQ:=qh a3;clear a3;obtain⟨g,hg⟩:∃ g,w.heap.size=g:=⟨_,rfl⟩
 have HG:=qh hg;go_enter Tryz.func7,Tryz.ntmps7;go_wp2_with fail
 refine vu.out.mono ?_;rintro e w2 ⟨rfl,hb⟩;have bV:=qh (HB.out.step hb);clear hb q0 q1 q2 vu HB;have q0:=bV.out.b0;have q1:=bV.out.b1;have q2:=bV.out.b2;go_wp2
 rw[hg]at bV
 clear hg q0 q1 q2;go_loopw [4] (fun v wr=>∃ (t:Nat),t<=n1/\v = .int .i64 (t:Int)/\Hid (MB g w A0 A1 A2 n0 c0 n1 c1 n2 c2 wr)/\Hid (∀ i,i<t->uF bn n0 zs i=true)) (fun v _=>n1-(intOf v).toNat)
 case atStart=>exact⟨0,Nat.zero_le _,rfl,bV,qh (fun i hi=>absurd hi (Nat.not_lt_zero _))⟩
 case round =>
  obtain⟨t,ht,rfl,hI,hC⟩:=hrel;have q0:=hI.out.b0;have q1:=hI.out.b1;have q2:=hI.out.b2;by_cases htn:t<n1
  ·have h1:decide ((t:Int)<(n1:Int))=true:=decide_eq_true qo
   have gA:=HA.out.below hI.out.below HG.out.symm;have HC:=qh (af2 A0 A1 A2 n0 c0 n1 c1 n2 c2 ps zs _ (by have:=gA.p;rw[H0.out]at this;exact this) H0.out gA.t K bn HO.out t htn (by have:=HL.out;omega) (by have:=HL.out;omega));have HT:=qh htn;clear gA htn ht;cases hcb:uF bn n0 zs t with
   | false =>
    have HF:=qh (show ¬ uf ps zs n1 ss ask bn sg from fun h=>by have:=h.c t HT.out;rw[H0.out,hcb]at this;cases this);rw[hcb]at HC
    clear hcb;go_wp2_with fail
    refine HC.out.mono ?_;rintro e w3 ⟨rfl,hb⟩;have bX:=qh (hI.out.step hb);clear hb;go_wp2
    go_ret
    exact⟨7,rfl,⟨fun h=>absurd h qd,fun h=>absurd h HF.out⟩,by rw[HG.out];exact bX.out.below⟩
   | true =>
    have pF:=qh hcb;rw[hcb]at HC
    clear hcb;go_wp2_with fail
    refine HC.out.mono ?_;rintro e w3 ⟨rfl,hb⟩;have bX:=qh (hI.out.step hb);clear hb;go_wp2
    have h9:=HL.out;have h8:=HT.out;rw[kB qo];exact⟨⟨t+1,by omega,rfl,bX,qh (fun i hi=>by
     rcases Nat.lt_succ_iff_lt_or_eq.1 hi with h|h
     ·exact hC.out i h
     ·subst h;exact pF.out)⟩,by show n1-(((t+1:Nat):Int)).toNat<n1-((t:Nat):Int).toNat;omega⟩
  ·have h1:decide ((t:Int)<(n1:Int))=false:=decide_eq_false qo
   have aqL:=qh (show ∀ i,i<n1->uF bn n0 zs i=true from fun i hi=>hC.out i qo);have HM:=hI;go_wp2
   clear h1 htn ht q0 q1 q2 hI hC;go_loopw [6] (fun v wr=>∃ (t:Nat),t<=n1/\v = .int .i64 (t:Int)/\Hid (MB g w A0 A1 A2 n0 c0 n1 c1 n2 c2 wr)/\Hid (∀ i,i<3*t->DS zs n1 i)) (fun v _=>n1-(intOf v).toNat)
   case atStart=>exact⟨0,Nat.zero_le _,rfl,HM,qh (fun i hi=>absurd hi (Nat.not_lt_zero _))⟩
   case round =>
    obtain⟨t2,ht,rfl,hI,hC⟩:=hrel;have q0:=hI.out.b0;have q1:=hI.out.b1;have q2:=hI.out.b2;by_cases htn:t2<n1
    ·have h1:decide ((t2:Int)<(n1:Int))=true:=decide_eq_true qo
     go_wp2
     have HT:=qh htn;have hI0:=hI;have Wq:=hC;clear htn ht h1 q0 q1 q2 hI hC;go_loopw [7] (fun v wx=>∃ (k:Nat),k<=3/\v = .int .i64 (k:Int)/\Hid (MB g w A0 A1 A2 n0 c0 n1 c1 n2 c2 wx)/\Hid (∀ i,i<3*t2+k->DS zs n1 i)) (fun v _=>3-(intOf v).toNat)
     case atStart=>exact⟨0,by omega,rfl,hI0,Wq⟩
     case round =>
      obtain⟨k,hk,rfl,hJ,hD⟩:=hrel;have q0:=hJ.out.b0;have q1:=hJ.out.b1;have q2:=hJ.out.b2;by_cases hk3:k<3
      ·have h2:decide ((k:Int)<3)=true:=decide_eq_true qo
       have gA:=HA.out.below hJ.out.below HG.out.symm;have HE:=qh (SL A0 A1 A2 n0 c0 n1 c1 n2 c2 zs _ gA.t t2 k HT.out qo (by have:=HL.out;omega));have E_:=qh (show DS zs n1 (3*t2+k)↔bK zs (zs.getD (3*t2+k) 0) (zs.getD (3*t2+nx k) 0) (3*n1)=some (3*t2+k) by unfold DS;rw[show(3*t2+k) / 3=t2 by omega,show(3*t2+k)%3=k by omega]);have Ls:=qh hk3;clear gA hk3 hk;obtain⟨x,hx⟩:∃ x,zs.getD (3*t2+k) 0=x:=⟨_,rfl⟩
       obtain⟨y,hy⟩:∃ y,zs.getD (3*t2+nx k) 0=y:=⟨_,rfl⟩
       rw[hx,hy]at HE E_
       clear hx hy;obtain⟨f,hf⟩:∃ f,bK zs x y (3*n1)=f:=⟨_,rfl⟩
       have xZ:=qh (fun wz (hb:MB g w A0 A1 A2 n0 c0 n1 c1 n2 c2 wz)=>Jz A0 A1 A2 n0 c0 n1 c1 n2 c2 zs wz (HA.out.below hb.below HG.out.symm).t x y (by have:=HL.out;omega));rw[hf]at E_
       have Wr:=qh hf;have HBD:=qh (fun j (h:f=some j)=>(FO (hf.trans h)).1);clear hf;by_cases bb1:fT f=(t2:Int)
       ·have d1:(fT f != (t2:Int))=false:=bne_eq_false_iff_eq.mpr bb1
        by_cases bb2:fK f=(k:Int)
        ·have d2:(fK f != (k:Int))=false:=bne_eq_false_iff_eq.mpr bb2
         have HS:=qh (show DS zs n1 (3*t2+k) from E_.out.2 (by
          cases f with
          | none=>have:(-1:Int)=(t2:Int):=bb1;omega
          | some j =>
           have e1:((j / 3:Nat):Int)=(t2:Int):=bb1;have e2:((j%3:Nat):Int)=(k:Int):=bb2;rw[show j=3*t2+k by omega]))
         clear bb1 bb2;go_wp2_with fail
         refine HE.out.mono ?_;rintro e w3 ⟨rfl,hb⟩;have dA:=hJ.out.step hb;clear hb q0 q1 q2;have q0:=dA.b0;have q1:=dA.b1;have q2:=dA.b2;have iZ:=qh (xZ.out _ dA);rw[Wr.out]at iZ
         have bX:=qh dA;clear dA;go_wp2_with fail
         refine iZ.out.mono ?_;rintro e w4 ⟨rfl,hb⟩;have nZ:=qh (bX.out.step hb);clear hb;go_wp2
         have h7:=Ls.out;rw[kB qo];exact⟨⟨k+1,by omega,rfl,nZ,qh (fun i hi=>by
          rcases Nat.lt_succ_iff_lt_or_eq.1 (show i<3*t2+k+1 from hi) with h|h
          ·exact hD.out i h
          ·subst h;exact HS.out)⟩,by show 3-(((k+1:Nat):Int)).toNat<3-((k:Nat):Int).toNat;omega⟩
        ·have d2:(fK f != (k:Int))=true:=bne_iff_ne.mpr bb2
         have HF:=qh (show ¬ uf ps zs n1 ss ask bn sg from fun h=>by
          have hs:=E_.out.1 (h.d (3*t2+k) (by have:=HT.out;have:=Ls.out;omega));apply bb2;rw[hs];have:=Ls.out;show(((3*t2+k)%3:Nat):Int)=_;omega)
         clear bb1 bb2;go_wp2_with fail
         refine HE.out.mono ?_;rintro e w3 ⟨rfl,hb⟩;have dA:=hJ.out.step hb;clear hb q0 q1 q2;have q0:=dA.b0;have q1:=dA.b1;have q2:=dA.b2;have iZ:=qh (xZ.out _ dA);rw[Wr.out]at iZ
         have bX:=qh dA;clear dA;go_wp2_with fail
         refine iZ.out.mono ?_;rintro e w4 ⟨rfl,hb⟩;have nZ:=qh (bX.out.step hb);clear hb;go_wp2
         go_ret
         exact⟨7,rfl,⟨fun h=>absurd h qd,fun h=>absurd h HF.out⟩,by rw[HG.out];exact nZ.out.below⟩
       ·have d1:(fT f != (t2:Int))=true:=bne_iff_ne.mpr bb1
        have HF:=qh (show ¬ uf ps zs n1 ss ask bn sg from fun h=>by
         have hs:=E_.out.1 (h.d (3*t2+k) (by have:=HT.out;have:=Ls.out;omega));apply bb1;rw[hs];have:=Ls.out;show(((3*t2+k) / 3:Nat):Int)=_;omega)
        clear bb1;go_wp2_with fail
        refine HE.out.mono ?_;rintro e w3 ⟨rfl,hb⟩;have dA:=hJ.out.step hb;clear hb q0 q1 q2;have q0:=dA.b0;have q1:=dA.b1;have q2:=dA.b2;have iZ:=qh (xZ.out _ dA);rw[Wr.out]at iZ
        have bX:=qh dA;clear dA;go_wp2_with fail
        refine iZ.out.mono ?_;rintro e w4 ⟨rfl,hb⟩;have nZ:=qh (bX.out.step hb);clear hb;go_wp2
        go_ret
        exact⟨7,rfl,⟨fun h=>absurd h qd,fun h=>absurd h HF.out⟩,by rw[HG.out];exact nZ.out.below⟩
      ·have h2:decide ((k:Int)<3)=false:=decide_eq_false qo
       go_wp2
       have h9:=HL.out;have h8:=HT.out;rw[kB qo];exact⟨⟨t2+1,by omega,rfl,hJ,qh (fun i hi=>hD.out i qo)⟩,by show n1-(((t2+1:Nat):Int)).toNat<n1-((t2:Nat):Int).toNat;omega⟩
    ·have h1:decide ((t2:Int)<(n1:Int))=false:=decide_eq_false qo
     go_wp2
     have aqM:=qh (show ∀ i,i<3*n1->DS zs n1 i from fun i hi=>hC.out i qo);have HM:=hI;clear h1 htn ht q0 q1 q2 hI hC;go_loopw [12] (fun v wr=>∃ (t:Nat),t<=n2/\v = .int .i64 (t:Int)/\Hid (MB g w A0 A1 A2 n0 c0 n1 c1 n2 c2 wr)/\Hid (∀ i,i<t->¬ Gp zs n1 sg ss i)) (fun v _=>n2-(intOf v).toNat)
     case atStart=>exact⟨0,Nat.zero_le _,rfl,HM,qh (fun i hi=>absurd hi (Nat.not_lt_zero _))⟩
     case round =>
      obtain⟨i,ht,rfl,hI,hC⟩:=hrel;have q0:=hI.out.b0;have q1:=hI.out.b1;have q2:=hI.out.b2;by_cases htn:i<n2
      ·have h1:decide ((i:Int)<(n2:Int))=true:=decide_eq_true qo
       have CN:((i:Int)<(n2:Int))=True:=eq_true qo;have h1c:(i<n2)=True:=eq_true htn;have gA:=HA.out.below hI.out.below HG.out.symm;obtain⟨ad,rfl,s0,s1,s2⟩:=pN gA.s (i:Int) qo (by rw[H2.out];omega);rw[Int.toNat_natCast]at s0 s1 s2
       have Fa:=qh (show Gp zs n1 sg ss i↔(fT (bK zs (bG ss i).f0 (bG ss i).f1 (3*n1))<0/\fT (bK zs (bG ss i).f1 (bG ss i).f0 (3*n1))<0)\/sg (bG ss i).f0 (bG ss i).f1≠i from Iff.rfl);obtain⟨xa,iR⟩:∃ x,(bG ss i).f0=x:=⟨_,rfl⟩
       obtain⟨xb,iT⟩:∃ x,(bG ss i).f1=x:=⟨_,rfl⟩
       obtain⟨xc,lX⟩:∃ x,(bG ss i).f2=x:=⟨_,rfl⟩
       rw[iR,iT]at Fa
       have Kk:(kJ ss (i:Int)).f0=xa:=iR;have Kl:(kJ ss (i:Int)).f1=xb:=iT;have Km:(kJ ss (i:Int)).f2=xc:=lX;rw[Kk]at s0
       rw[Kl]at s1
       rw[Km]at s2
       clear iR iT lX Kk Kl Km gA;have dR:=qh htn;clear htn ht;have xZ:=qh (fun x y wz (hb:MB g w A0 A1 (some ad) n0 c0 n1 c1 n2 c2 wz)=>Jz A0 A1 (some ad) n0 c0 n1 c1 n2 c2 zs wz (HA.out.below hb.below HG.out.symm).t x y (by have:=HL.out;omega));have Im:=qh (fun wz (hb:MB g w A0 A1 (some ad) n0 c0 n1 c1 n2 c2 wz)=>i_.calls K (some ad) c2 ss xa xb (sg xa xb) wz (HA.out.below hb.below HG.out.symm).s HA.out.sc (Lr.out xa xb));rw[H2.out]at Im
       obtain⟨tt,Lt⟩:∃ x,fT (bK zs xa xb (3*n1))=x:=⟨_,rfl⟩
       obtain⟨uu,Ws⟩:∃ x,fT (bK zs xb xa (3*n1))=x:=⟨_,rfl⟩
       rw[Lt,Ws]at Fa
       have HTT:=qh Lt;have Lu:=qh Ws;clear Lt Ws;have dX:=hI.out.step ((Below.refl wr.heap.size wr).alloc (Nat.le_refl _) (.cells #[.int .i64 xa,.int .i64 xb,.bool xc] 65));have pH:=qh (xZ.out xa xb _ dX);rw[HTT.out]at pH
       have bu:=qh dX;clear dX;by_cases t1:tt<0
       ·have m1:decide (tt<0)=true:=decide_eq_true t1
        by_cases u1:uu<0
        ·have m2:decide (uu<0)=true:=decide_eq_true u1
         have HF:=qh (show ¬ uf ps zs n1 ss ask bn sg from fun h=>h.s i (by rw[H2.out];exact dR.out) (Fa.out.2 (.inl ⟨t1,u1⟩)));clear t1 u1;go_upto_region 26 with fail
         have s0:(wr.alloc (.cells #[.int .i64 xa,.int .i64 xb,.bool xc] 65)).cell? ⟨wr.heap.size,0,none⟩=some (.int .i64 xa):=by simp[go_sem]
         have s1:(wr.alloc (.cells #[.int .i64 xa,.int .i64 xb,.bool xc] 65)).cell? ⟨wr.heap.size,1,none⟩=some (.int .i64 xb):=by simp[go_sem]
         generalize (wr.alloc (.cells #[.int .i64 xa,.int .i64 xb,.bool xc] 65))=W1 at s0 s1 bu pH ⊢;clear q0 q1 q2;have q0:=bu.out.b0;have q1:=bu.out.b1;have q2:=bu.out.b2;go_wp2_with fail
         refine pH.out.mono ?_;rintro e w3 ⟨rfl,hb⟩;have dA:=bu.out.step hb;have r0:=(hb.cell (ql s0)).trans s0;have r1:=(hb.cell (ql s1)).trans s1;clear hb q0 q1 q2 s0 s1;have q0:=dA.b0;have q1:=dA.b1;have q2:=dA.b2;have iZ:=qh (xZ.out xb xa _ dA);rw[Lu.out]at iZ
         have bX:=qh dA;clear dA;go_wp2_with fail
         refine iZ.out.mono ?_;rintro e w4 ⟨rfl,hb⟩;have iN:=bX.out.step hb;have z0:=(hb.cell (ql r0)).trans r0;have z1:=(hb.cell (ql r1)).trans r1;clear hb q0 q1 q2 r0 r1;have q0:=iN.b0;have q1:=iN.b1;have q2:=iN.b2;have jB:=qh (Im.out _ iN);have nZ:=qh iN;clear iN;go_wp2
         go_ret
         exact⟨7,rfl,⟨fun h=>absurd h qd,fun h=>absurd h HF.out⟩,by rw[HG.out];exact nZ.out.below⟩
        ·have m2:decide (uu<0)=false:=decide_eq_false u1
         have NB:=qh (fun h=>u1 h.2:¬ (tt<0/\uu<0));clear t1 u1;by_cases v1:sg xa xb=(i:Int)
         ·have o1:(sg xa xb != (i:Int))=false:=bne_eq_false_iff_eq.mpr v1
          have HS:=qh (show ¬ Gp zs n1 sg ss i from fun h=>by
           rcases Fa.out.1 h with h|h
           ·exact NB.out h
           ·exact h v1)
          clear v1;go_upto_region 26 with fail
          have s0:(wr.alloc (.cells #[.int .i64 xa,.int .i64 xb,.bool xc] 65)).cell? ⟨wr.heap.size,0,none⟩=some (.int .i64 xa):=by simp[go_sem]
          have s1:(wr.alloc (.cells #[.int .i64 xa,.int .i64 xb,.bool xc] 65)).cell? ⟨wr.heap.size,1,none⟩=some (.int .i64 xb):=by simp[go_sem]
          generalize (wr.alloc (.cells #[.int .i64 xa,.int .i64 xb,.bool xc] 65))=W1 at s0 s1 bu pH ⊢;clear q0 q1 q2;have q0:=bu.out.b0;have q1:=bu.out.b1;have q2:=bu.out.b2;go_wp2_with fail
          refine pH.out.mono ?_;rintro e w3 ⟨rfl,hb⟩;have dA:=bu.out.step hb;have r0:=(hb.cell (ql s0)).trans s0;have r1:=(hb.cell (ql s1)).trans s1;clear hb q0 q1 q2 s0 s1;have q0:=dA.b0;have q1:=dA.b1;have q2:=dA.b2;have iZ:=qh (xZ.out xb xa _ dA);rw[Lu.out]at iZ
          have bX:=qh dA;clear dA;go_wp2_with fail
          refine iZ.out.mono ?_;rintro e w4 ⟨rfl,hb⟩;have iN:=bX.out.step hb;have z0:=(hb.cell (ql r0)).trans r0;have z1:=(hb.cell (ql r1)).trans r1;clear hb q0 q1 q2 r0 r1;have q0:=iN.b0;have q1:=iN.b1;have q2:=iN.b2;have jB:=qh (Im.out _ iN);have nZ:=qh iN;clear iN;go_wp2_with fail
          refine jB.out.mono ?_;rintro e w5 ⟨rfl,hb⟩;have kE:=qh (nZ.out.step hb.below);clear hb;go_wp2
          have h9:=HL.out;have h8:=dR.out;rw[kB qo];exact⟨⟨i+1,by omega,rfl,kE,qh (fun j hj=>by
           rcases Nat.lt_succ_iff_lt_or_eq.1 hj with h|h
           ·exact hC.out j h
           ·subst h;exact HS.out)⟩,by show n2-(((i+1:Nat):Int)).toNat<n2-((i:Nat):Int).toNat;omega⟩
         ·have o1:(sg xa xb != (i:Int))=true:=bne_iff_ne.mpr v1
          have HF:=qh (show ¬ uf ps zs n1 ss ask bn sg from fun h=>h.s i (by rw[H2.out];exact dR.out) (Fa.out.2 (.inr v1)));clear v1;go_upto_region 26 with fail
          have s0:(wr.alloc (.cells #[.int .i64 xa,.int .i64 xb,.bool xc] 65)).cell? ⟨wr.heap.size,0,none⟩=some (.int .i64 xa):=by simp[go_sem]
          have s1:(wr.alloc (.cells #[.int .i64 xa,.int .i64 xb,.bool xc] 65)).cell? ⟨wr.heap.size,1,none⟩=some (.int .i64 xb):=by simp[go_sem]
          generalize (wr.alloc (.cells #[.int .i64 xa,.int .i64 xb,.bool xc] 65))=W1 at s0 s1 bu pH ⊢;clear q0 q1 q2;have q0:=bu.out.b0;have q1:=bu.out.b1;have q2:=bu.out.b2;go_wp2_with fail
          refine pH.out.mono ?_;rintro e w3 ⟨rfl,hb⟩;have dA:=bu.out.step hb;have r0:=(hb.cell (ql s0)).trans s0;have r1:=(hb.cell (ql s1)).trans s1;clear hb q0 q1 q2 s0 s1;have q0:=dA.b0;have q1:=dA.b1;have q2:=dA.b2;have iZ:=qh (xZ.out xb xa _ dA);rw[Lu.out]at iZ
          have bX:=qh dA;clear dA;go_wp2_with fail
          refine iZ.out.mono ?_;rintro e w4 ⟨rfl,hb⟩;have iN:=bX.out.step hb;have z0:=(hb.cell (ql r0)).trans r0;have z1:=(hb.cell (ql r1)).trans r1;clear hb q0 q1 q2 r0 r1;have q0:=iN.b0;have q1:=iN.b1;have q2:=iN.b2;have jB:=qh (Im.out _ iN);have nZ:=qh iN;clear iN;go_wp2_with fail
          refine jB.out.mono ?_;rintro e w5 ⟨rfl,hb⟩;have kE:=qh (nZ.out.step hb.below);clear hb;go_wp2
          go_ret
          exact⟨7,rfl,⟨fun h=>absurd h qd,fun h=>absurd h HF.out⟩,by rw[HG.out];exact kE.out.below⟩
       ·have m1:decide (tt<0)=false:=decide_eq_false t1
        have NB:=qh (fun h=>t1 h.1:¬ (tt<0/\uu<0));clear t1;by_cases v1:sg xa xb=(i:Int)
        ·have o1:(sg xa xb != (i:Int))=false:=bne_eq_false_iff_eq.mpr v1
         have HS:=qh (show ¬ Gp zs n1 sg ss i from fun h=>by
          rcases Fa.out.1 h with h|h
          ·exact NB.out h
          ·exact h v1)
         clear v1;go_upto_region 26 with fail
         have s0:(wr.alloc (.cells #[.int .i64 xa,.int .i64 xb,.bool xc] 65)).cell? ⟨wr.heap.size,0,none⟩=some (.int .i64 xa):=by simp[go_sem]
         have s1:(wr.alloc (.cells #[.int .i64 xa,.int .i64 xb,.bool xc] 65)).cell? ⟨wr.heap.size,1,none⟩=some (.int .i64 xb):=by simp[go_sem]
         generalize (wr.alloc (.cells #[.int .i64 xa,.int .i64 xb,.bool xc] 65))=W1 at s0 s1 bu pH ⊢;clear q0 q1 q2;have q0:=bu.out.b0;have q1:=bu.out.b1;have q2:=bu.out.b2;go_wp2_with fail
         refine pH.out.mono ?_;rintro e w3 ⟨rfl,hb⟩;have dA:=bu.out.step hb;have r0:=(hb.cell (ql s0)).trans s0;have r1:=(hb.cell (ql s1)).trans s1;clear hb q0 q1 q2 s0 s1;have q0:=dA.b0;have q1:=dA.b1;have q2:=dA.b2;have iZ:=qh (xZ.out xb xa _ dA);rw[Lu.out]at iZ
         have bX:=qh dA;clear dA;go_wp2_with fail
         refine iZ.out.mono ?_;rintro e w4 ⟨rfl,hb⟩;have iN:=bX.out.step hb;have z0:=(hb.cell (ql r0)).trans r0;have z1:=(hb.cell (ql r1)).trans r1;clear hb q0 q1 q2 r0 r1;have q0:=iN.b0;have q1:=iN.b1;have q2:=iN.b2;have jB:=qh (Im.out _ iN);have nZ:=qh iN;clear iN;go_wp2_with fail
         refine jB.out.mono ?_;rintro e w5 ⟨rfl,hb⟩;have kE:=qh (nZ.out.step hb.below);clear hb;go_wp2
         have h9:=HL.out;have h8:=dR.out;rw[kB qo];exact⟨⟨i+1,by omega,rfl,kE,qh (fun j hj=>by
          rcases Nat.lt_succ_iff_lt_or_eq.1 hj with h|h
          ·exact hC.out j h
          ·subst h;exact HS.out)⟩,by show n2-(((i+1:Nat):Int)).toNat<n2-((i:Nat):Int).toNat;omega⟩
        ·have o1:(sg xa xb != (i:Int))=true:=bne_iff_ne.mpr v1
         have HF:=qh (show ¬ uf ps zs n1 ss ask bn sg from fun h=>h.s i (by rw[H2.out];exact dR.out) (Fa.out.2 (.inr v1)));clear v1;go_upto_region 26 with fail
         have s0:(wr.alloc (.cells #[.int .i64 xa,.int .i64 xb,.bool xc] 65)).cell? ⟨wr.heap.size,0,none⟩=some (.int .i64 xa):=by simp[go_sem]
         have s1:(wr.alloc (.cells #[.int .i64 xa,.int .i64 xb,.bool xc] 65)).cell? ⟨wr.heap.size,1,none⟩=some (.int .i64 xb):=by simp[go_sem]
         generalize (wr.alloc (.cells #[.int .i64 xa,.int .i64 xb,.bool xc] 65))=W1 at s0 s1 bu pH ⊢;clear q0 q1 q2;have q0:=bu.out.b0;have q1:=bu.out.b1;have q2:=bu.out.b2;go_wp2_with fail
         refine pH.out.mono ?_;rintro e w3 ⟨rfl,hb⟩;have dA:=bu.out.step hb;have r0:=(hb.cell (ql s0)).trans s0;have r1:=(hb.cell (ql s1)).trans s1;clear hb q0 q1 q2 s0 s1;have q0:=dA.b0;have q1:=dA.b1;have q2:=dA.b2;have iZ:=qh (xZ.out xb xa _ dA);rw[Lu.out]at iZ
         have bX:=qh dA;clear dA;go_wp2_with fail
         refine iZ.out.mono ?_;rintro e w4 ⟨rfl,hb⟩;have iN:=bX.out.step hb;have z0:=(hb.cell (ql r0)).trans r0;have z1:=(hb.cell (ql r1)).trans r1;clear hb q0 q1 q2 r0 r1;have q0:=iN.b0;have q1:=iN.b1;have q2:=iN.b2;have jB:=qh (Im.out _ iN);have nZ:=qh iN;clear iN;go_wp2_with fail
         refine jB.out.mono ?_;rintro e w5 ⟨rfl,hb⟩;have kE:=qh (nZ.out.step hb.below);clear hb;go_wp2
         go_ret
         exact⟨7,rfl,⟨fun h=>absurd h qd,fun h=>absurd h HF.out⟩,by rw[HG.out];exact kE.out.below⟩
      ·have h1:decide ((i:Int)<(n2:Int))=false:=decide_eq_false qo
       have aqN:=qh (show uf ps zs n1 ss ask bn sg from ⟨by rw[H0.out];exact HL.out.1,HL.out.2.1,by rw[H2.out];exact HL.out.2.2,HQ.out,by rw[H0.out];exact aqL.out,aqM.out,fun j hj=>hC.out j (by rw[H2.out]at hj;omega)⟩);go_wp2
       go_ret
       exact⟨0,rfl,⟨fun _=>aqN.out,fun _=>rfl⟩,by rw[HG.out];exact hI.out.below⟩
def CP (K:Nat) (ps:PS) (bn:Nat->Nat->Nat->Int):Prop:=∀ i j k,i<ps.length->j<ps.length->k<ps.length->th.f K (au ps i).f0.f0.f0 (au ps i).f0.f0.f1 (au ps i).f0.f1 (au ps i).f1.f0.f0 (au ps i).f1.f0.f1 (au ps i).f1.f1 (au ps j).f0.f0.f0 (au ps j).f0.f0.f1 (au ps j).f0.f1 (au ps j).f1.f0.f0 (au ps j).f1.f0.f1 (au ps j).f1.f1 (au ps k).f0.f0.f0 (au ps k).f0.f0.f1 (au ps k).f0.f1 (au ps k).f1.f0.f0 (au ps k).f1.f0.f1 (au ps k).f1.f1=some (bn i j k,0)
theorem Tg (A0 A1 A2:Option Addr) (n0 c0 n1 c1 n2 c2:Nat) (ps:PS) (w:World) (hp:Kd.C eA w A0 n0 ps) (hl:ps.length=n0) (K:Nat) (bn:Nat->Nat->Nat->Int) (hO:CP K ps bn) (i j k:Nat) (hi:i<n0) (hj:j<n0) (hk:k<n0) :
  Calls Tryz.prog 46 #[.agg #[.slice A0 n0 c0,.slice A1 n1 c1,.slice A2 n2 c2],.int .i64 i,.int .i64 j,.int .i64 k] w fun e w'=>e = .returned (.bool (decide (0<bn i j k)))/\Below w.heap.size w w':=by
 have hb0:Below w.heap.size w (w.alloc (.cells #[.slice A0 n0 c0,.slice A1 n1 c1,.slice A2 n2 c2] 26)):=(Below.refl _ _).alloc (Nat.le_refl _) _;obtain⟨ad,rfl,-⟩:=oW hp (i:Int) qo qo;have pi:=tD hp i hi;have pj:=tD hp j hj;have pk:=tD hp k hk;have HO:=qh (hO i j k qo qo qo);have x1:((i:Int)<(n0:Int))=True:=eq_true qo;have x2:((j:Int)<(n0:Int))=True:=eq_true qo;have x3:((k:Int)<(n0:Int))=True:=eq_true qo;have y1:(i<n0)=True:=eq_true hi;have y2:(j<n0)=True:=eq_true hj;have y3:(k<n0)=True:=eq_true hk;have hc0:(w.alloc (.cells #[.slice (some ad) n0 c0,.slice A1 n1 c1,.slice A2 n2 c2] 26)).cell? ⟨w.heap.size,0,none⟩=some (.slice (some ad) n0 c0):=by simp[go_sem]
 obtain⟨W0,hW0⟩:∃ W0,W0=w.alloc (.cells #[.slice (some ad) n0 c0,.slice A1 n1 c1,.slice A2 n2 c2] 26):=⟨_,rfl⟩
 have HS:=qh (show W0.cell? ⟨w.heap.size,0,none⟩=some (.slice (some ad) n0 c0)/\W0.cell? (ad.add (i*6))=some (.bool (au ps i).f0.f0.f0)/\W0.cell? ⟨(ad.add (i*6)).block,(ad.add (i*6)).off+1,none⟩=some (.string (au ps i).f0.f0.f1)/\W0.cell? ⟨(ad.add (i*6)).block,(ad.add (i*6)).off+2,none⟩=some (.string (au ps i).f0.f1)/\W0.cell? ⟨(ad.add (i*6)).block,(ad.add (i*6)).off+3,none⟩=some (.bool (au ps i).f1.f0.f0)/\W0.cell? ⟨(ad.add (i*6)).block,(ad.add (i*6)).off+4,none⟩=some (.string (au ps i).f1.f0.f1)/\W0.cell? ⟨(ad.add (i*6)).block,(ad.add (i*6)).off+5,none⟩=some (.string (au ps i).f1.f1)/\W0.cell? (ad.add (j*6))=some (.bool (au ps j).f0.f0.f0)/\W0.cell? ⟨(ad.add (j*6)).block,(ad.add (j*6)).off+1,none⟩=some (.string (au ps j).f0.f0.f1)/\W0.cell? ⟨(ad.add (j*6)).block,(ad.add (j*6)).off+2,none⟩=some (.string (au ps j).f0.f1)/\W0.cell? ⟨(ad.add (j*6)).block,(ad.add (j*6)).off+3,none⟩=some (.bool (au ps j).f1.f0.f0)/\W0.cell? ⟨(ad.add (j*6)).block,(ad.add (j*6)).off+4,none⟩=some (.string (au ps j).f1.f0.f1)/\W0.cell? ⟨(ad.add (j*6)).block,(ad.add (j*6)).off+5,none⟩=some (.string (au ps j).f1.f1)/\W0.cell? (ad.add (k*6))=some (.bool (au ps k).f0.f0.f0)/\W0.cell? ⟨(ad.add (k*6)).block,(ad.add (k*6)).off+1,none⟩=some (.string (au ps k).f0.f0.f1)/\W0.cell? ⟨(ad.add (k*6)).block,(ad.add (k*6)).off+2,none⟩=some (.string (au ps k).f0.f1)/\W0.cell? ⟨(ad.add (k*6)).block,(ad.add (k*6)).off+3,none⟩=some (.bool (au ps k).f1.f0.f0)/\W0.cell? ⟨(ad.add (k*6)).block,(ad.add (k*6)).off+4,none⟩=some (.string (au ps k).f1.f0.f1)/\W0.cell? ⟨(ad.add (k*6)).block,(ad.add (k*6)).off+5,none⟩=some (.string (au ps k).f1.f1)/\Below w.heap.size w W0 by
  rw[hW0];exact⟨hc0,(hb0.cell (ql pi.1)).trans pi.1,(hb0.cell (ql pi.2.1)).trans pi.2.1,(hb0.cell (ql pi.2.2.1)).trans pi.2.2.1,(hb0.cell (ql pi.2.2.2.1)).trans pi.2.2.2.1,(hb0.cell (ql pi.2.2.2.2.1)).trans pi.2.2.2.2.1,(hb0.cell (ql pi.2.2.2.2.2)).trans pi.2.2.2.2.2,(hb0.cell (ql pj.1)).trans pj.1,(hb0.cell (ql pj.2.1)).trans pj.2.1,(hb0.cell (ql pj.2.2.1)).trans pj.2.2.1,(hb0.cell (ql pj.2.2.2.1)).trans pj.2.2.2.1,(hb0.cell (ql pj.2.2.2.2.1)).trans pj.2.2.2.2.1,(hb0.cell (ql pj.2.2.2.2.2)).trans pj.2.2.2.2.2,(hb0.cell (ql pk.1)).trans pk.1,(hb0.cell (ql pk.2.1)).trans pk.2.1,(hb0.cell (ql pk.2.2.1)).trans pk.2.2.1,(hb0.cell (ql pk.2.2.2.1)).trans pk.2.2.2.1,(hb0.cell (ql pk.2.2.2.2.1)).trans pk.2.2.2.2.1,(hb0.cell (ql pk.2.2.2.2.2)).trans pk.2.2.2.2.2,hb0⟩)
 have oG:=qh hW0;clear hb0 hc0 hp hl pi pj pk hW0 hO hi hj hk;go_enter Tryz.func46,Tryz.ntmps46;go_wp2
 rw[<- oG.out];have cQ:=HS.out;go_region_held3 (fun w'=>w'.cell? ⟨w.heap.size,0,none⟩=some (.slice (some ad) n0 c0)/\w'.cell? (ad.add (i*6))=some (.bool (au ps i).f0.f0.f0)/\w'.cell? ⟨(ad.add (i*6)).block,(ad.add (i*6)).off+1,none⟩=some (.string (au ps i).f0.f0.f1)/\w'.cell? ⟨(ad.add (i*6)).block,(ad.add (i*6)).off+2,none⟩=some (.string (au ps i).f0.f1)/\w'.cell? ⟨(ad.add (i*6)).block,(ad.add (i*6)).off+3,none⟩=some (.bool (au ps i).f1.f0.f0)/\w'.cell? ⟨(ad.add (i*6)).block,(ad.add (i*6)).off+4,none⟩=some (.string (au ps i).f1.f0.f1)/\w'.cell? ⟨(ad.add (i*6)).block,(ad.add (i*6)).off+5,none⟩=some (.string (au ps i).f1.f1)/\w'.cell? (ad.add (j*6))=some (.bool (au ps j).f0.f0.f0)/\w'.cell? ⟨(ad.add (j*6)).block,(ad.add (j*6)).off+1,none⟩=some (.string (au ps j).f0.f0.f1)/\w'.cell? ⟨(ad.add (j*6)).block,(ad.add (j*6)).off+2,none⟩=some (.string (au ps j).f0.f1)/\w'.cell? ⟨(ad.add (j*6)).block,(ad.add (j*6)).off+3,none⟩=some (.bool (au ps j).f1.f0.f0)/\w'.cell? ⟨(ad.add (j*6)).block,(ad.add (j*6)).off+4,none⟩=some (.string (au ps j).f1.f0.f1)/\w'.cell? ⟨(ad.add (j*6)).block,(ad.add (j*6)).off+5,none⟩=some (.string (au ps j).f1.f1)/\w'.cell? (ad.add (k*6))=some (.bool (au ps k).f0.f0.f0)/\w'.cell? ⟨(ad.add (k*6)).block,(ad.add (k*6)).off+1,none⟩=some (.string (au ps k).f0.f0.f1)/\w'.cell? ⟨(ad.add (k*6)).block,(ad.add (k*6)).off+2,none⟩=some (.string (au ps k).f0.f1)/\w'.cell? ⟨(ad.add (k*6)).block,(ad.add (k*6)).off+3,none⟩=some (.bool (au ps k).f1.f0.f0)/\w'.cell? ⟨(ad.add (k*6)).block,(ad.add (k*6)).off+4,none⟩=some (.string (au ps k).f1.f0.f1)/\w'.cell? ⟨(ad.add (k*6)).block,(ad.add (k*6)).off+5,none⟩=some (.string (au ps k).f1.f1)/\Below w.heap.size w w') (first|assumption|exact Sk (by assumption)) (first|(go_at_call 77;refine(th.calls K _ _ _ _ _ _ _ _ _ _ _ _ _ _ _ _ _ _ _ _ _ HO.out).mono ?_;rintro e Lp ⟨rfl,hbr⟩;have hS1:=ai7 hbr (by assumption);clear hbr))
 all_goals go_wp2
 all_goals go_ret
 all_goals exact⟨rfl,by first|exact hS1.2.2.2.2.2.2.2.2.2.2.2.2.2.2.2.2.2.2.2|exact(Sk hS1).2.2.2.2.2.2.2.2.2.2.2.2.2.2.2.2.2.2.2|exact cQ.2.2.2.2.2.2.2.2.2.2.2.2.2.2.2.2.2.2.2|exact(Sk cQ).2.2.2.2.2.2.2.2.2.2.2.2.2.2.2.2.2.2.2⟩
end Go.Proofs.YtcmepkhjggpmeaaGreat
