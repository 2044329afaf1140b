import Derived.Test.YtfcjnhkkfmgmpaaGreatZtG23
import Derived.Test.YtfcjnhkkfmgmpaaGreatZtG42
set_option linter.all false
set_option maxRecDepth 100000
set_option maxHeartbeats 8000000
namespace Go.Proofs.YtfcjnhkkfmgmpaaGreat
open Go.RowKit aS Go.Proofs.aA.R Go.Proofs.aA.Z Go.Proofs.aB.aZ
structure MB (g:Nat) (w:World) (A0 A1 A2:Option Addr) (n0 c0 n1 c1 n2 c2:Nat) (wr:World):Prop where
 below:Below g w wr
 b0:wr.cell? ⟨g,0,none⟩=some (.slice A0 n0 c0)
 b1:wr.cell? ⟨g,1,none⟩=some (.slice A1 n1 c1)
 b2:wr.cell? ⟨g,2,none⟩=some (.slice A2 n2 c2)
theorem MB.step {g:Nat} {w:World} {A0 A1 A2:Option Addr} {n0 c0 n1 c1 n2 c2:Nat} {wr w2:World} (h:MB g w A0 A1 A2 n0 c0 n1 c1 n2 c2 wr) (hb:Below wr.heap.size wr w2):MB g w A0 A1 A2 n0 c0 n1 c1 n2 c2 w2:=by
 have hl:=ql h.b0;exact⟨h.below.trans (hb.mono (by have:g<wr.heap.size:=hl;omega)),(hb.cell (p:=⟨g,0,none⟩) hl).trans h.b0,(hb.cell (p:=⟨g,1,none⟩) hl).trans h.b1,(hb.cell (p:=⟨g,2,none⟩) hl).trans h.b2⟩
theorem MB.new (w:World) (A0 A1 A2:Option Addr) (n0 c0 n1 c1 n2 c2:Nat):MB w.heap.size w A0 A1 A2 n0 c0 n1 c1 n2 c2 (w.alloc (.cells #[.slice A0 n0 c0,.slice A1 n1 c1,.slice A2 n2 c2] 26)) :=
 ⟨(Below.refl _ _).alloc (Nat.le_refl _) _,by simp[go_sem],by simp[go_sem],by simp[go_sem]⟩
def qm (n1:Nat) (t k:Int):Bool:=decide (0<=t)&&decide (t<n1)&&decide (0<=k)&&decide (k<=2)
theorem aua (A0 A1 A2:Option Addr) (n0 c0 n1 c1 n2 c2:Nat) (w:World) (t k:Int) :
  Calls Tryz.prog 32 #[.agg #[.slice A0 n0 c0,.slice A1 n1 c1,.slice A2 n2 c2],.int .i64 t,.int .i64 k] w fun e w'=>e = .returned (.bool (qm n1 t k))/\Below w.heap.size w w':=by
 have HB:=qh (MB.new w A0 A1 A2 n0 c0 n1 c1 n2 c2);unfold qm;by_cases a1:0<=t
 ·have e1:decide (0<=t)=true:=decide_eq_true a1
  clear a1;by_cases a2:t<(n1:Int)
  ·have e2:decide (t<(n1:Int))=true:=decide_eq_true a2
   clear a2;by_cases a3:0<=k
   ·have e3:decide (0<=k)=true:=decide_eq_true a3
    clear a3;by_cases a4:k<=2
    ·have e4:decide (k<=2)=true:=decide_eq_true a4
     clear a4;rw[e1,e2,e3,e4];go_enter Tryz.func32,Tryz.ntmps32;go_wp2
     go_ret
     exact⟨rfl,HB.out.below⟩
    ·have e4:decide (k<=2)=false:=decide_eq_false a4
     clear a4;rw[e1,e2,e3,e4];go_enter Tryz.func32,Tryz.ntmps32;go_wp2
     go_ret
     exact⟨rfl,HB.out.below⟩
   ·have e3:decide (0<=k)=false:=decide_eq_false a3
    clear a3;rw[e1,e2,e3];go_enter Tryz.func32,Tryz.ntmps32;go_wp2
    go_ret
    exact⟨rfl,HB.out.below⟩
  ·have e2:decide (t<(n1:Int))=false:=decide_eq_false a2
   clear a2;rw[e1,e2];go_enter Tryz.func32,Tryz.ntmps32;go_wp2
   go_ret
   exact⟨rfl,HB.out.below⟩
 ·have e1:decide (0<=t)=false:=decide_eq_false a1
  clear a1;rw[e1];go_enter Tryz.func32,Tryz.ntmps32;go_wp2
  go_ret
  exact⟨rfl,HB.out.below⟩
theorem ak5 (A0 A1 A2:Option Addr) (n0 c0 n1 c1 n2 c2:Nat) (zs:List Int) (w:World) (hr:IR w A1 (3*n1) zs) (t k:Nat) (ht:t<n1) (hk:k<=2) (hn:n1<=100000) :
  Calls Tryz.prog 33 #[.agg #[.slice A0 n0 c0,.slice A1 n1 c1,.slice A2 n2 c2],.int .i64 t,.int .i64 k] w fun e w'=>e = .returned (.tuple #[.int .i64 (fT (bV zs (zs.getD (3*t+nx k) 0) (zs.getD (3*t+k) 0) (3*n1))),.int .i64 (fK (bV zs (zs.getD (3*t+nx k) 0) (zs.getD (3*t+k) 0) (3*n1)))])/\Below w.heap.size w w':=by
 have hB:=MB.new w A0 A1 A2 n0 c0 n1 c1 n2 c2;have HE:=qh (PW A0 A1 A2 n0 c0 n1 c1 n2 c2 zs _ (hr.below hB.below rfl) t k ht hk hn);have q0:=hB.b0;have q1:=hB.b1;have q2:=hB.b2;have HB:=qh hB;have HR:=qh hr;have HN:=qh hn;obtain⟨x,hx⟩:∃ x,zs.getD (3*t+k) 0=x:=⟨_,rfl⟩
 obtain⟨y,hy⟩:∃ y,zs.getD (3*t+nx k) 0=y:=⟨_,rfl⟩
 rw[hx,hy]at HE ⊢
 clear hx hy hB hr hn ht hk;go_enter Tryz.func33,Tryz.ntmps33;go_wp2_with fail
 refine HE.out.mono ?_;rintro e w2 ⟨rfl,hb⟩;have tJ:=HB.out.step hb;have p0:=tJ.b0;have p1:=tJ.b1;have p2:=tJ.b2;have HF:=qh (VX A0 A1 A2 n0 c0 n1 c1 n2 c2 zs _ (HR.out.below tJ.below rfl) y x HN.out);have cZ:=qh tJ;clear hb tJ q0 q1 q2;go_wp2_with fail
 refine HF.out.mono ?_;rintro e w3 ⟨rfl,hb⟩;have cW:=qh (cZ.out.step hb);clear hb;go_wp2
 go_ret2
 exact⟨rfl,cW.out.below⟩
abbrev SS:=List mN
abbrev bH (ss:SS) (i:Nat):mN:=eC ss (i:Int)
def ZB (K:Nat) (ss:SS) (sg:Int->Int->Int):Prop:=∀ a b,jB.f K ss a b=some (sg a b)
def FD (zs:List Int) (n1 j:Nat):Prop:=bV zs (zs.getD j 0) (zs.getD (3*(j / 3)+nx (j%3)) 0) (3*n1)=some j
def I1 (zs:List Int) (n1:Nat) (sg:Int->Int->Int) (ss:SS) (i:Nat):Prop :=
 (fT (bV zs (bH ss i).f0 (bH ss i).f1 (3*n1))<0/\fT (bV zs (bH ss i).f1 (bH ss i).f0 (3*n1))<0)\/sg (bH ss i).f0 (bH ss i).f1≠i
structure vI (ps:PS) (zs:List Int) (n1:Nat) (ss:SS) (ask:Int) (bJ:Nat->Nat->Nat->Int) (sg:Int->Int->Int):Prop where
 l0:ps.length<=400
 l1:n1<=900
 l2:ss.length<=1300
 a:ask=0
 c:∀ t,t<n1->zi bJ ps.length zs t=true
 d:∀ j,j<3*n1->FD zs n1 j
 s:∀ i,i<ss.length->¬ I1 zs n1 sg ss i
structure mJ (w:World) (A0 A1 A2:Option Addr) (c0 c2:Nat) (ps:PS) (zs:List Int) (n1:Nat) (ss:SS):Prop where
 p:Kd.C dX w A0 ps.length ps
 pc:ps.length<=c0
 t:IR w A1 (3*n1) zs
 s:Kd.C qi w A2 ss.length ss
 sc:ss.length<=c2
theorem mJ.below {w w':World} {A0 A1 A2:Option Addr} {c0 c2:Nat} {ps:PS} {zs:List Int} {n1:Nat} {ss:SS} (h:mJ w A0 A1 A2 c0 c2 ps zs n1 ss) {b:Nat} (hb:Below b w w') (hz:b=w.heap.size):mJ w' A0 A1 A2 c0 c2 ps zs n1 ss:=by
 subst hz;exact⟨Kd.yM h.p hb,h.pc,h.t.below hb rfl,Kd.yM h.s hb,h.sc⟩
theorem amf (A0 A1 A2:Option Addr) (c0 n1 c1 c2:Nat) (ps:PS) (zs:List Int) (ss:SS) (w:World) (hA:mJ w A0 A1 A2 c0 c2 ps zs n1 ss) (K:Nat) (ask:Int) (hK:j9.f K ps=some ask) (bJ:Nat->Nat->Nat->Int) (hO:ask=0->Zv K ps bJ) (sg:Int->Int->Int) (hG:ZB K ss sg) :
  Calls Tryz.prog 7 #[.agg #[.slice A0 ps.length c0,.slice A1 n1 c1,.slice A2 ss.length c2]] w fun e w'=>∃ r,e = .returned (.int .i64 r)/\(r=0↔vI ps zs n1 ss ask bJ sg)/\Below w.heap.size w w':=by
 obtain⟨n0,hn0⟩:∃ n,ps.length=n:=⟨_,rfl⟩
 obtain⟨n2,hn2⟩:∃ n,ss.length=n:=⟨_,rfl⟩
 have HB:=qh (MB.new w A0 A1 A2 n0 c0 n1 c1 n2 c2);have H0:=qh hn0;have H2:=qh hn2;have HA:=qh hA;have HK:=qh hK;have HO:=qh hO;have tK:=qh hG;rw[hn0,hn2];clear hA hK hO hG hn0 hn2;by_cases a0:400<n0
 ·have e0:decide ((400:Int)<(n0:Int))=true:=decide_eq_true qo
  have HF:=qh (show ¬ vI ps zs n1 ss ask bJ sg from fun h=>by have:=h.l0;rw[H0.out]at this;omega);clear a0;go_enter Tryz.func7,Tryz.ntmps7;go_wp2
  go_ret
  exact⟨5,rfl,⟨fun h=>absurd h qd,fun h=>absurd h HF.out⟩,HB.out.below⟩
 have e0:decide ((400:Int)<(n0:Int))=false:=decide_eq_false qo;by_cases a1:900<n1
 ·have e1:decide ((900:Int)<(n1:Int))=true:=decide_eq_true qo
  have HF:=qh (show ¬ vI ps zs n1 ss ask bJ sg from fun h=>by have:=h.l1;omega);clear a0 a1;go_enter Tryz.func7,Tryz.ntmps7;go_wp2
  go_ret
  exact⟨5,rfl,⟨fun h=>absurd h qd,fun h=>absurd h HF.out⟩,HB.out.below⟩
 have e1:decide ((900:Int)<(n1:Int))=false:=decide_eq_false qo;by_cases a2:1300<n2
 ·have e2:decide ((1300:Int)<(n2:Int))=true:=decide_eq_true qo
  have HF:=qh (show ¬ vI ps zs n1 ss ask bJ sg from fun h=>by have:=h.l2;rw[H2.out]at this;omega);clear a0 a1 a2;go_enter Tryz.func7,Tryz.ntmps7;go_wp2
  go_ret
  exact⟨5,rfl,⟨fun h=>absurd h qd,fun h=>absurd h HF.out⟩,HB.out.below⟩
 have e2:decide ((1300:Int)<(n2:Int))=false:=decide_eq_false qo;have HL:=qh (show n0<=400/\n1<=900/\n2<=1300 by omega);clear a0 a1 a2;have q0:=HB.out.b0;have q1:=HB.out.b1;have q2:=HB.out.b2;have x_:=qh (j9.calls K A0 c0 ps ask _ (HA.out.below HB.out.below rfl).p HA.out.pc HK.out);rw[H0.out]at x_
 by_cases a3:ask=0;rotate_left
 ·have e3:(ask != 0)=true:=bne_iff_ne.mpr a3
  have HF:=qh (show ¬ vI ps zs n1 ss ask bJ sg from fun h=>a3 h.a);have gY:=qh a3;clear a3;go_enter Tryz.func7,Tryz.ntmps7;go_wp2_with fail
  refine x_.out.mono ?_;rintro e w2 ⟨rfl,hb⟩;have cZ:=qh (HB.out.step hb);clear hb;go_wp2
  go_ret
  exact⟨ask,rfl,⟨fun h=>absurd h gY.out,fun h=>absurd h HF.out⟩,cZ.out.below⟩
 have HO:=qh (HO.out a3);have e3:(ask != 0)=false:=bne_eq_false_iff_eq.mpr a3;have HQ:=qh a3;clear a3;obtain⟨g,hg⟩:∃ g,w.heap.size=g:=⟨_,rfl⟩
 have HG:=qh hg;go_enter Tryz.func7,Tryz.ntmps7;go_wp2_with fail
 refine x_.out.mono ?_;rintro e w2 ⟨rfl,hb⟩;have cZ:=qh (HB.out.step hb);clear hb q0 q1 q2 x_ HB;have q0:=cZ.out.b0;have q1:=cZ.out.b1;have q2:=cZ.out.b2;go_wp2
 rw[hg]at cZ
 clear hg q0 q1 q2;go_loopw [4] (fun v wr=>∃ (t:Nat),t<=n1/\v = .int .i64 (t:Int)/\Hid (MB g w A0 A1 A2 n0 c0 n1 c1 n2 c2 wr)/\Hid (∀ i,i<t->zi bJ n0 zs i=true)) (fun v _=>n1-(intOf v).toNat)
 case atStart=>exact⟨0,Nat.zero_le _,rfl,cZ,qh (fun i hi=>absurd hi (Nat.not_lt_zero _))⟩
 case round =>
  obtain⟨t,ht,rfl,hI,hC⟩:=hrel;have q0:=hI.out.b0;have q1:=hI.out.b1;have q2:=hI.out.b2;by_cases htn:t<n1
  ·have h1:decide ((t:Int)<(n1:Int))=true:=decide_eq_true qo
   have gJ:=HA.out.below hI.out.below HG.out.symm;have HC:=qh (ajI A0 A1 A2 n0 c0 n1 c1 n2 c2 ps zs _ (by have:=gJ.p;rw[H0.out]at this;exact this) H0.out gJ.t K bJ HO.out t htn (by have:=HL.out;omega) (by have:=HL.out;omega));have HT:=qh htn;clear gJ htn ht;cases hcb:zi bJ n0 zs t with
   | false =>
    have HF:=qh (show ¬ vI ps zs n1 ss ask bJ sg from fun h=>by have:=h.c t HT.out;rw[H0.out,hcb]at this;cases this);rw[hcb]at HC
    clear hcb;go_wp2_with fail
    refine HC.out.mono ?_;rintro e w3 ⟨rfl,hb⟩;have cW:=qh (hI.out.step hb);clear hb;go_wp2
    go_ret
    exact⟨7,rfl,⟨fun h=>absurd h qd,fun h=>absurd h HF.out⟩,by rw[HG.out];exact cW.out.below⟩
   | true =>
    have tD:=qh hcb;rw[hcb]at HC
    clear hcb;go_wp2_with fail
    refine HC.out.mono ?_;rintro e w3 ⟨rfl,hb⟩;have cW:=qh (hI.out.step hb);clear hb;go_wp2
    have h9:=HL.out;have h8:=HT.out;rw[mK qo];exact⟨⟨t+1,by omega,rfl,cW,qh (fun i hi=>by
     rcases Nat.lt_succ_iff_lt_or_eq.1 hi with h|h
     ·exact hC.out i h
     ·subst h;exact tD.out)⟩,by show n1-(((t+1:Nat):Int)).toNat<n1-((t:Nat):Int).toNat;omega⟩
  ·have h1:decide ((t:Int)<(n1:Int))=false:=decide_eq_false qo
   have aub:=qh (show ∀ i,i<n1->zi bJ n0 zs i=true from fun i hi=>hC.out i qo);have HM:=hI;go_wp2
   clear h1 htn ht q0 q1 q2 hI hC;go_loopw [6] (fun v wr=>∃ (t:Nat),t<=n1/\v = .int .i64 (t:Int)/\Hid (MB g w A0 A1 A2 n0 c0 n1 c1 n2 c2 wr)/\Hid (∀ i,i<3*t->FD zs n1 i)) (fun v _=>n1-(intOf v).toNat)
   case atStart=>exact⟨0,Nat.zero_le _,rfl,HM,qh (fun i hi=>absurd hi (Nat.not_lt_zero _))⟩
   case round =>
    obtain⟨t2,ht,rfl,hI,hC⟩:=hrel;have q0:=hI.out.b0;have q1:=hI.out.b1;have q2:=hI.out.b2;by_cases htn:t2<n1
    ·have h1:decide ((t2:Int)<(n1:Int))=true:=decide_eq_true qo
     go_wp2
     have HT:=qh htn;have RY:=hI;have ZC:=hC;clear htn ht h1 q0 q1 q2 hI hC;go_loopw [7] (fun v wx=>∃ (k:Nat),k<=3/\v = .int .i64 (k:Int)/\Hid (MB g w A0 A1 A2 n0 c0 n1 c1 n2 c2 wx)/\Hid (∀ i,i<3*t2+k->FD zs n1 i)) (fun v _=>3-(intOf v).toNat)
     case atStart=>exact⟨0,by omega,rfl,RY,ZC⟩
     case round =>
      obtain⟨k,hk,rfl,hJ,hD⟩:=hrel;have q0:=hJ.out.b0;have q1:=hJ.out.b1;have q2:=hJ.out.b2;by_cases hk3:k<3
      ·have h2:decide ((k:Int)<3)=true:=decide_eq_true qo
       have gJ:=HA.out.below hJ.out.below HG.out.symm;have HE:=qh (PW A0 A1 A2 n0 c0 n1 c1 n2 c2 zs _ gJ.t t2 k HT.out qo (by have:=HL.out;omega));have G8:=qh (show FD zs n1 (3*t2+k)↔bV zs (zs.getD (3*t2+k) 0) (zs.getD (3*t2+nx k) 0) (3*n1)=some (3*t2+k) by unfold FD;rw[show(3*t2+k) / 3=t2 by omega,show(3*t2+k)%3=k by omega]);have Ad:=qh hk3;clear gJ hk3 hk;obtain⟨x,hx⟩:∃ x,zs.getD (3*t2+k) 0=x:=⟨_,rfl⟩
       obtain⟨y,hy⟩:∃ y,zs.getD (3*t2+nx k) 0=y:=⟨_,rfl⟩
       rw[hx,hy]at HE G8
       clear hx hy;obtain⟨f,hf⟩:∃ f,bV zs x y (3*n1)=f:=⟨_,rfl⟩
       have Ae:=qh (fun wz (hb:MB g w A0 A1 A2 n0 c0 n1 c1 n2 c2 wz)=>VX A0 A1 A2 n0 c0 n1 c1 n2 c2 zs wz (HA.out.below hb.below HG.out.symm).t x y (by have:=HL.out;omega));rw[hf]at G8
       have ZD:=qh hf;have SE:=qh (fun j (h:f=some j)=>(Ex (hf.trans h)).1);clear hf;by_cases bb1:fT f=(t2:Int)
       ·have d1:(fT f != (t2:Int))=false:=bne_eq_false_iff_eq.mpr bb1
        by_cases bb2:fK f=(k:Int)
        ·have d2:(fK f != (k:Int))=false:=bne_eq_false_iff_eq.mpr bb2
         have HS:=qh (show FD zs n1 (3*t2+k) from G8.out.2 (by
          cases f with
          | none=>have:(-1:Int)=(t2:Int):=bb1;omega
          | some j =>
           have e1:((j / 3:Nat):Int)=(t2:Int):=bb1;have e2:((j%3:Nat):Int)=(k:Int):=bb2;rw[show j=3*t2+k by omega]))
         clear bb1 bb2;go_wp2_with fail
         refine HE.out.mono ?_;rintro e w3 ⟨rfl,hb⟩;have cY:=hJ.out.step hb;clear hb q0 q1 q2;have q0:=cY.b0;have q1:=cY.b1;have q2:=cY.b2;have eG:=qh (Ae.out _ cY);rw[ZD.out]at eG
         have cW:=qh cY;clear cY;go_wp2_with fail
         refine eG.out.mono ?_;rintro e w4 ⟨rfl,hb⟩;have nL:=qh (cW.out.step hb);clear hb;go_wp2
         have h7:=Ad.out;rw[mK qo];exact⟨⟨k+1,by omega,rfl,nL,qh (fun i hi=>by
          rcases Nat.lt_succ_iff_lt_or_eq.1 (show i<3*t2+k+1 from hi) with h|h
          ·exact hD.out i h
          ·subst h;exact HS.out)⟩,by show 3-(((k+1:Nat):Int)).toNat<3-((k:Nat):Int).toNat;omega⟩
        ·have d2:(fK f != (k:Int))=true:=bne_iff_ne.mpr bb2
         have HF:=qh (show ¬ vI ps zs n1 ss ask bJ sg from fun h=>by
          have hs:=G8.out.1 (h.d (3*t2+k) (by have:=HT.out;have:=Ad.out;omega));apply bb2;rw[hs];have:=Ad.out;show(((3*t2+k)%3:Nat):Int)=_;omega)
         clear bb1 bb2;go_wp2_with fail
         refine HE.out.mono ?_;rintro e w3 ⟨rfl,hb⟩;have cY:=hJ.out.step hb;clear hb q0 q1 q2;have q0:=cY.b0;have q1:=cY.b1;have q2:=cY.b2;have eG:=qh (Ae.out _ cY);rw[ZD.out]at eG
         have cW:=qh cY;clear cY;go_wp2_with fail
         refine eG.out.mono ?_;rintro e w4 ⟨rfl,hb⟩;have nL:=qh (cW.out.step hb);clear hb;go_wp2
         go_ret
         exact⟨7,rfl,⟨fun h=>absurd h qd,fun h=>absurd h HF.out⟩,by rw[HG.out];exact nL.out.below⟩
       ·have d1:(fT f != (t2:Int))=true:=bne_iff_ne.mpr bb1
        have HF:=qh (show ¬ vI ps zs n1 ss ask bJ sg from fun h=>by
         have hs:=G8.out.1 (h.d (3*t2+k) (by have:=HT.out;have:=Ad.out;omega));apply bb1;rw[hs];have:=Ad.out;show(((3*t2+k) / 3:Nat):Int)=_;omega)
        clear bb1;go_wp2_with fail
        refine HE.out.mono ?_;rintro e w3 ⟨rfl,hb⟩;have cY:=hJ.out.step hb;clear hb q0 q1 q2;have q0:=cY.b0;have q1:=cY.b1;have q2:=cY.b2;have eG:=qh (Ae.out _ cY);rw[ZD.out]at eG
        have cW:=qh cY;clear cY;go_wp2_with fail
        refine eG.out.mono ?_;rintro e w4 ⟨rfl,hb⟩;have nL:=qh (cW.out.step hb);clear hb;go_wp2
        go_ret
        exact⟨7,rfl,⟨fun h=>absurd h qd,fun h=>absurd h HF.out⟩,by rw[HG.out];exact nL.out.below⟩
      ·have h2:decide ((k:Int)<3)=false:=decide_eq_false qo
       go_wp2
       have h9:=HL.out;have h8:=HT.out;rw[mK qo];exact⟨⟨t2+1,by omega,rfl,hJ,qh (fun i hi=>hD.out i qo)⟩,by show n1-(((t2+1:Nat):Int)).toNat<n1-((t2:Nat):Int).toNat;omega⟩
    ·have h1:decide ((t2:Int)<(n1:Int))=false:=decide_eq_false qo
     go_wp2
     have auc:=qh (show ∀ i,i<3*n1->FD zs n1 i from fun i hi=>hC.out i qo);have HM:=hI;clear h1 htn ht q0 q1 q2 hI hC;go_loopw [12] (fun v wr=>∃ (t:Nat),t<=n2/\v = .int .i64 (t:Int)/\Hid (MB g w A0 A1 A2 n0 c0 n1 c1 n2 c2 wr)/\Hid (∀ i,i<t->¬ I1 zs n1 sg ss i)) (fun v _=>n2-(intOf v).toNat)
     case atStart=>exact⟨0,Nat.zero_le _,rfl,HM,qh (fun i hi=>absurd hi (Nat.not_lt_zero _))⟩
     case round =>
      obtain⟨i,ht,rfl,hI,hC⟩:=hrel;have q0:=hI.out.b0;have q1:=hI.out.b1;have q2:=hI.out.b2;by_cases htn:i<n2
      ·have h1:decide ((i:Int)<(n2:Int))=true:=decide_eq_true qo
       have BV:((i:Int)<(n2:Int))=True:=eq_true qo;have h1c:(i<n2)=True:=eq_true htn;have gJ:=HA.out.below hI.out.below HG.out.symm;obtain⟨ad,rfl,s0,s1,s2⟩:=mF gJ.s (i:Int) qo (by rw[H2.out];omega);rw[Int.toNat_natCast]at s0 s1 s2
       have G9:=qh (show I1 zs n1 sg ss i↔(fT (bV zs (bH ss i).f0 (bH ss i).f1 (3*n1))<0/\fT (bV zs (bH ss i).f1 (bH ss i).f0 (3*n1))<0)\/sg (bH ss i).f0 (bH ss i).f1≠i from Iff.rfl);obtain⟨xa,jx⟩:∃ x,(bH ss i).f0=x:=⟨_,rfl⟩
       obtain⟨xb,jy⟩:∃ x,(bH ss i).f1=x:=⟨_,rfl⟩
       obtain⟨xc,mS⟩:∃ x,(bH ss i).f2=x:=⟨_,rfl⟩
       rw[jx,jy]at G9
       have Mw:(eC ss (i:Int)).f0=xa:=jx;have Mx:(eC ss (i:Int)).f1=xb:=jy;have My:(eC ss (i:Int)).f2=xc:=mS;rw[Mw]at s0
       rw[Mx]at s1
       rw[My]at s2
       clear jx jy mS Mw Mx My gJ;have eR:=qh htn;clear htn ht;have Ae:=qh (fun x y wz (hb:MB g w A0 A1 (some ad) n0 c0 n1 c1 n2 c2 wz)=>VX A0 A1 (some ad) n0 c0 n1 c1 n2 c2 zs wz (HA.out.below hb.below HG.out.symm).t x y (by have:=HL.out;omega));have Kj:=qh (fun wz (hb:MB g w A0 A1 (some ad) n0 c0 n1 c1 n2 c2 wz)=>jB.calls K (some ad) c2 ss xa xb (sg xa xb) wz (HA.out.below hb.below HG.out.symm).s HA.out.sc (tK.out xa xb));rw[H2.out]at Kj
       obtain⟨tt,NV⟩:∃ x,fT (bV zs xa xb (3*n1))=x:=⟨_,rfl⟩
       obtain⟨uu,ZE⟩:∃ x,fT (bV zs xb xa (3*n1))=x:=⟨_,rfl⟩
       rw[NV,ZE]at G9
       have HTT:=qh NV;have NW:=qh ZE;clear NV ZE;have ey:=hI.out.step ((Below.refl wr.heap.size wr).alloc (Nat.le_refl _) (.cells #[.int .i64 xa,.int .i64 xb,.bool xc] 55));have jF:=qh (Ae.out xa xb _ ey);rw[HTT.out]at jF
       have bI:=qh ey;clear ey;by_cases t1:tt<0
       ·have m1:decide (tt<0)=true:=decide_eq_true t1
        by_cases u1:uu<0
        ·have m2:decide (uu<0)=true:=decide_eq_true u1
         have HF:=qh (show ¬ vI ps zs n1 ss ask bJ sg from fun h=>h.s i (by rw[H2.out];exact eR.out) (G9.out.2 (.inl ⟨t1,u1⟩)));clear t1 u1;go_upto_region 26 with fail
         have s0:(wr.alloc (.cells #[.int .i64 xa,.int .i64 xb,.bool xc] 55)).cell? ⟨wr.heap.size,0,none⟩=some (.int .i64 xa):=by simp[go_sem]
         have s1:(wr.alloc (.cells #[.int .i64 xa,.int .i64 xb,.bool xc] 55)).cell? ⟨wr.heap.size,1,none⟩=some (.int .i64 xb):=by simp[go_sem]
         generalize (wr.alloc (.cells #[.int .i64 xa,.int .i64 xb,.bool xc] 55))=W1 at s0 s1 bI jF ⊢;clear q0 q1 q2;have q0:=bI.out.b0;have q1:=bI.out.b1;have q2:=bI.out.b2;go_wp2_with fail
         refine jF.out.mono ?_;rintro e w3 ⟨rfl,hb⟩;have cY:=bI.out.step hb;have r0:=(hb.cell (ql s0)).trans s0;have r1:=(hb.cell (ql s1)).trans s1;clear hb q0 q1 q2 s0 s1;have q0:=cY.b0;have q1:=cY.b1;have q2:=cY.b2;have eG:=qh (Ae.out xb xa _ cY);rw[NW.out]at eG
         have cW:=qh cY;clear cY;go_wp2_with fail
         refine eG.out.mono ?_;rintro e w4 ⟨rfl,hb⟩;have jm:=cW.out.step hb;have z0:=(hb.cell (ql r0)).trans r0;have z1:=(hb.cell (ql r1)).trans r1;clear hb q0 q1 q2 r0 r1;have q0:=jm.b0;have q1:=jm.b1;have q2:=jm.b2;have j6:=qh (Kj.out _ jm);have nL:=qh jm;clear jm;go_wp2
         go_ret
         exact⟨7,rfl,⟨fun h=>absurd h qd,fun h=>absurd h HF.out⟩,by rw[HG.out];exact nL.out.below⟩
        ·have m2:decide (uu<0)=false:=decide_eq_false u1
         have NB:=qh (fun h=>u1 h.2:¬ (tt<0/\uu<0));clear t1 u1;by_cases v1:sg xa xb=(i:Int)
         ·have o1:(sg xa xb != (i:Int))=false:=bne_eq_false_iff_eq.mpr v1
          have HS:=qh (show ¬ I1 zs n1 sg ss i from fun h=>by
           rcases G9.out.1 h with h|h
           ·exact NB.out h
           ·exact h v1)
          clear v1;go_upto_region 26 with fail
          have s0:(wr.alloc (.cells #[.int .i64 xa,.int .i64 xb,.bool xc] 55)).cell? ⟨wr.heap.size,0,none⟩=some (.int .i64 xa):=by simp[go_sem]
          have s1:(wr.alloc (.cells #[.int .i64 xa,.int .i64 xb,.bool xc] 55)).cell? ⟨wr.heap.size,1,none⟩=some (.int .i64 xb):=by simp[go_sem]
          generalize (wr.alloc (.cells #[.int .i64 xa,.int .i64 xb,.bool xc] 55))=W1 at s0 s1 bI jF ⊢;clear q0 q1 q2;have q0:=bI.out.b0;have q1:=bI.out.b1;have q2:=bI.out.b2;go_wp2_with fail
          refine jF.out.mono ?_;rintro e w3 ⟨rfl,hb⟩;have cY:=bI.out.step hb;have r0:=(hb.cell (ql s0)).trans s0;have r1:=(hb.cell (ql s1)).trans s1;clear hb q0 q1 q2 s0 s1;have q0:=cY.b0;have q1:=cY.b1;have q2:=cY.b2;have eG:=qh (Ae.out xb xa _ cY);rw[NW.out]at eG
          have cW:=qh cY;clear cY;go_wp2_with fail
          refine eG.out.mono ?_;rintro e w4 ⟨rfl,hb⟩;have jm:=cW.out.step hb;have z0:=(hb.cell (ql r0)).trans r0;have z1:=(hb.cell (ql r1)).trans r1;clear hb q0 q1 q2 r0 r1;have q0:=jm.b0;have q1:=jm.b1;have q2:=jm.b2;have j6:=qh (Kj.out _ jm);have nL:=qh jm;clear jm;go_wp2_with fail
          refine j6.out.mono ?_;rintro e w5 ⟨rfl,hb⟩;have jw:=qh (nL.out.step hb.below);clear hb;go_wp2
          have h9:=HL.out;have h8:=eR.out;rw[mK qo];exact⟨⟨i+1,by omega,rfl,jw,qh (fun j hj=>by
           rcases Nat.lt_succ_iff_lt_or_eq.1 hj with h|h
           ·exact hC.out j h
           ·subst h;exact HS.out)⟩,by show n2-(((i+1:Nat):Int)).toNat<n2-((i:Nat):Int).toNat;omega⟩
         ·have o1:(sg xa xb != (i:Int))=true:=bne_iff_ne.mpr v1
          have HF:=qh (show ¬ vI ps zs n1 ss ask bJ sg from fun h=>h.s i (by rw[H2.out];exact eR.out) (G9.out.2 (.inr v1)));clear v1;go_upto_region 26 with fail
          have s0:(wr.alloc (.cells #[.int .i64 xa,.int .i64 xb,.bool xc] 55)).cell? ⟨wr.heap.size,0,none⟩=some (.int .i64 xa):=by simp[go_sem]
          have s1:(wr.alloc (.cells #[.int .i64 xa,.int .i64 xb,.bool xc] 55)).cell? ⟨wr.heap.size,1,none⟩=some (.int .i64 xb):=by simp[go_sem]
          generalize (wr.alloc (.cells #[.int .i64 xa,.int .i64 xb,.bool xc] 55))=W1 at s0 s1 bI jF ⊢;clear q0 q1 q2;have q0:=bI.out.b0;have q1:=bI.out.b1;have q2:=bI.out.b2;go_wp2_with fail
          refine jF.out.mono ?_;rintro e w3 ⟨rfl,hb⟩;have cY:=bI.out.step hb;have r0:=(hb.cell (ql s0)).trans s0;have r1:=(hb.cell (ql s1)).trans s1;clear hb q0 q1 q2 s0 s1;have q0:=cY.b0;have q1:=cY.b1;have q2:=cY.b2;have eG:=qh (Ae.out xb xa _ cY);rw[NW.out]at eG
          have cW:=qh cY;clear cY;go_wp2_with fail
          refine eG.out.mono ?_;rintro e w4 ⟨rfl,hb⟩;have jm:=cW.out.step hb;have z0:=(hb.cell (ql r0)).trans r0;have z1:=(hb.cell (ql r1)).trans r1;clear hb q0 q1 q2 r0 r1;have q0:=jm.b0;have q1:=jm.b1;have q2:=jm.b2;have j6:=qh (Kj.out _ jm);have nL:=qh jm;clear jm;go_wp2_with fail
          refine j6.out.mono ?_;rintro e w5 ⟨rfl,hb⟩;have jw:=qh (nL.out.step hb.below);clear hb;go_wp2
          go_ret
          exact⟨7,rfl,⟨fun h=>absurd h qd,fun h=>absurd h HF.out⟩,by rw[HG.out];exact jw.out.below⟩
       ·have m1:decide (tt<0)=false:=decide_eq_false t1
        have NB:=qh (fun h=>t1 h.1:¬ (tt<0/\uu<0));clear t1;by_cases v1:sg xa xb=(i:Int)
        ·have o1:(sg xa xb != (i:Int))=false:=bne_eq_false_iff_eq.mpr v1
         have HS:=qh (show ¬ I1 zs n1 sg ss i from fun h=>by
          rcases G9.out.1 h with h|h
          ·exact NB.out h
          ·exact h v1)
         clear v1;go_upto_region 26 with fail
         have s0:(wr.alloc (.cells #[.int .i64 xa,.int .i64 xb,.bool xc] 55)).cell? ⟨wr.heap.size,0,none⟩=some (.int .i64 xa):=by simp[go_sem]
         have s1:(wr.alloc (.cells #[.int .i64 xa,.int .i64 xb,.bool xc] 55)).cell? ⟨wr.heap.size,1,none⟩=some (.int .i64 xb):=by simp[go_sem]
         generalize (wr.alloc (.cells #[.int .i64 xa,.int .i64 xb,.bool xc] 55))=W1 at s0 s1 bI jF ⊢;clear q0 q1 q2;have q0:=bI.out.b0;have q1:=bI.out.b1;have q2:=bI.out.b2;go_wp2_with fail
         refine jF.out.mono ?_;rintro e w3 ⟨rfl,hb⟩;have cY:=bI.out.step hb;have r0:=(hb.cell (ql s0)).trans s0;have r1:=(hb.cell (ql s1)).trans s1;clear hb q0 q1 q2 s0 s1;have q0:=cY.b0;have q1:=cY.b1;have q2:=cY.b2;have eG:=qh (Ae.out xb xa _ cY);rw[NW.out]at eG
         have cW:=qh cY;clear cY;go_wp2_with fail
         refine eG.out.mono ?_;rintro e w4 ⟨rfl,hb⟩;have jm:=cW.out.step hb;have z0:=(hb.cell (ql r0)).trans r0;have z1:=(hb.cell (ql r1)).trans r1;clear hb q0 q1 q2 r0 r1;have q0:=jm.b0;have q1:=jm.b1;have q2:=jm.b2;have j6:=qh (Kj.out _ jm);have nL:=qh jm;clear jm;go_wp2_with fail
         refine j6.out.mono ?_;rintro e w5 ⟨rfl,hb⟩;have jw:=qh (nL.out.step hb.below);clear hb;go_wp2
         have h9:=HL.out;have h8:=eR.out;rw[mK qo];exact⟨⟨i+1,by omega,rfl,jw,qh (fun j hj=>by
          rcases Nat.lt_succ_iff_lt_or_eq.1 hj with h|h
          ·exact hC.out j h
          ·subst h;exact HS.out)⟩,by show n2-(((i+1:Nat):Int)).toNat<n2-((i:Nat):Int).toNat;omega⟩
        ·have o1:(sg xa xb != (i:Int))=true:=bne_iff_ne.mpr v1
         have HF:=qh (show ¬ vI ps zs n1 ss ask bJ sg from fun h=>h.s i (by rw[H2.out];exact eR.out) (G9.out.2 (.inr v1)));clear v1;go_upto_region 26 with fail
         have s0:(wr.alloc (.cells #[.int .i64 xa,.int .i64 xb,.bool xc] 55)).cell? ⟨wr.heap.size,0,none⟩=some (.int .i64 xa):=by simp[go_sem]
         have s1:(wr.alloc (.cells #[.int .i64 xa,.int .i64 xb,.bool xc] 55)).cell? ⟨wr.heap.size,1,none⟩=some (.int .i64 xb):=by simp[go_sem]
         generalize (wr.alloc (.cells #[.int .i64 xa,.int .i64 xb,.bool xc] 55))=W1 at s0 s1 bI jF ⊢;clear q0 q1 q2;have q0:=bI.out.b0;have q1:=bI.out.b1;have q2:=bI.out.b2;go_wp2_with fail
         refine jF.out.mono ?_;rintro e w3 ⟨rfl,hb⟩;have cY:=bI.out.step hb;have r0:=(hb.cell (ql s0)).trans s0;have r1:=(hb.cell (ql s1)).trans s1;clear hb q0 q1 q2 s0 s1;have q0:=cY.b0;have q1:=cY.b1;have q2:=cY.b2;have eG:=qh (Ae.out xb xa _ cY);rw[NW.out]at eG
         have cW:=qh cY;clear cY;go_wp2_with fail
         refine eG.out.mono ?_;rintro e w4 ⟨rfl,hb⟩;have jm:=cW.out.step hb;have z0:=(hb.cell (ql r0)).trans r0;have z1:=(hb.cell (ql r1)).trans r1;clear hb q0 q1 q2 r0 r1;have q0:=jm.b0;have q1:=jm.b1;have q2:=jm.b2;have j6:=qh (Kj.out _ jm);have nL:=qh jm;clear jm;go_wp2_with fail
         refine j6.out.mono ?_;rintro e w5 ⟨rfl,hb⟩;have jw:=qh (nL.out.step hb.below);clear hb;go_wp2
         go_ret
         exact⟨7,rfl,⟨fun h=>absurd h qd,fun h=>absurd h HF.out⟩,by rw[HG.out];exact jw.out.below⟩
      ·have h1:decide ((i:Int)<(n2:Int))=false:=decide_eq_false qo
       have aud:=qh (show vI ps zs n1 ss ask bJ sg from ⟨by rw[H0.out];exact HL.out.1,HL.out.2.1,by rw[H2.out];exact HL.out.2.2,HQ.out,by rw[H0.out];exact aub.out,auc.out,fun j hj=>hC.out j (by rw[H2.out]at hj;omega)⟩);go_wp2
       go_ret
       exact⟨0,rfl,⟨fun _=>aud.out,fun _=>rfl⟩,by rw[HG.out];exact hI.out.below⟩
def Kn (K:Nat) (ps:PS) (bJ:Nat->Nat->Nat->Int):Prop:=∀ i j k,i<ps.length->j<ps.length->k<ps.length->yG.f K (ay ps i).f0.f0.f0 (ay ps i).f0.f0.f1 (ay ps i).f0.f1 (ay ps i).f1.f0.f0 (ay ps i).f1.f0.f1 (ay ps i).f1.f1 (ay ps j).f0.f0.f0 (ay ps j).f0.f0.f1 (ay ps j).f0.f1 (ay ps j).f1.f0.f0 (ay ps j).f1.f0.f1 (ay ps j).f1.f1 (ay ps k).f0.f0.f0 (ay ps k).f0.f0.f1 (ay ps k).f0.f1 (ay ps k).f1.f0.f0 (ay ps k).f1.f0.f1 (ay ps k).f1.f1=some (bJ i j k,0)
theorem Wj (A0 A1 A2:Option Addr) (n0 c0 n1 c1 n2 c2:Nat) (ps:PS) (w:World) (hp:Kd.C dX w A0 n0 ps) (hl:ps.length=n0) (K:Nat) (bJ:Nat->Nat->Nat->Int) (hO:Kn K ps bJ) (i j k:Nat) (hi:i<n0) (hj:j<n0) (hk:k<n0) :
  Calls Tryz.prog 30 #[.agg #[.slice A0 n0 c0,.slice A1 n1 c1,.slice A2 n2 c2],.int .i64 i,.int .i64 j,.int .i64 k] w fun e w'=>e = .returned (.bool (decide (0<bJ i j k)))/\Below w.heap.size w w':=by
 have hb0:Below w.heap.size w (w.alloc (.cells #[.slice A0 n0 c0,.slice A1 n1 c1,.slice A2 n2 c2] 26)):=(Below.refl _ _).alloc (Nat.le_refl _) _;obtain⟨ad,rfl,-⟩:=oB hp (i:Int) qo qo;have pi:=uV hp i hi;have pj:=uV hp j hj;have pk:=uV hp k hk;have HO:=qh (hO i j k qo qo qo);have x1:((i:Int)<(n0:Int))=True:=eq_true qo;have x2:((j:Int)<(n0:Int))=True:=eq_true qo;have x3:((k:Int)<(n0:Int))=True:=eq_true qo;have y1:(i<n0)=True:=eq_true hi;have y2:(j<n0)=True:=eq_true hj;have y3:(k<n0)=True:=eq_true hk;have hc0:(w.alloc (.cells #[.slice (some ad) n0 c0,.slice A1 n1 c1,.slice A2 n2 c2] 26)).cell? ⟨w.heap.size,0,none⟩=some (.slice (some ad) n0 c0):=by simp[go_sem]
 obtain⟨W0,hW0⟩:∃ W0,W0=w.alloc (.cells #[.slice (some ad) n0 c0,.slice A1 n1 c1,.slice A2 n2 c2] 26):=⟨_,rfl⟩
 have HS:=qh (show W0.cell? ⟨w.heap.size,0,none⟩=some (.slice (some ad) n0 c0)/\W0.cell? (ad.add (i*6))=some (.bool (ay ps i).f0.f0.f0)/\W0.cell? ⟨(ad.add (i*6)).block,(ad.add (i*6)).off+1,none⟩=some (.string (ay ps i).f0.f0.f1)/\W0.cell? ⟨(ad.add (i*6)).block,(ad.add (i*6)).off+2,none⟩=some (.string (ay ps i).f0.f1)/\W0.cell? ⟨(ad.add (i*6)).block,(ad.add (i*6)).off+3,none⟩=some (.bool (ay ps i).f1.f0.f0)/\W0.cell? ⟨(ad.add (i*6)).block,(ad.add (i*6)).off+4,none⟩=some (.string (ay ps i).f1.f0.f1)/\W0.cell? ⟨(ad.add (i*6)).block,(ad.add (i*6)).off+5,none⟩=some (.string (ay ps i).f1.f1)/\W0.cell? (ad.add (j*6))=some (.bool (ay ps j).f0.f0.f0)/\W0.cell? ⟨(ad.add (j*6)).block,(ad.add (j*6)).off+1,none⟩=some (.string (ay ps j).f0.f0.f1)/\W0.cell? ⟨(ad.add (j*6)).block,(ad.add (j*6)).off+2,none⟩=some (.string (ay ps j).f0.f1)/\W0.cell? ⟨(ad.add (j*6)).block,(ad.add (j*6)).off+3,none⟩=some (.bool (ay ps j).f1.f0.f0)/\W0.cell? ⟨(ad.add (j*6)).block,(ad.add (j*6)).off+4,none⟩=some (.string (ay ps j).f1.f0.f1)/\W0.cell? ⟨(ad.add (j*6)).block,(ad.add (j*6)).off+5,none⟩=some (.string (ay ps j).f1.f1)/\W0.cell? (ad.add (k*6))=some (.bool (ay ps k).f0.f0.f0)/\W0.cell? ⟨(ad.add (k*6)).block,(ad.add (k*6)).off+1,none⟩=some (.string (ay ps k).f0.f0.f1)/\W0.cell? ⟨(ad.add (k*6)).block,(ad.add (k*6)).off+2,none⟩=some (.string (ay ps k).f0.f1)/\W0.cell? ⟨(ad.add (k*6)).block,(ad.add (k*6)).off+3,none⟩=some (.bool (ay ps k).f1.f0.f0)/\W0.cell? ⟨(ad.add (k*6)).block,(ad.add (k*6)).off+4,none⟩=some (.string (ay ps k).f1.f0.f1)/\W0.cell? ⟨(ad.add (k*6)).block,(ad.add (k*6)).off+5,none⟩=some (.string (ay ps k).f1.f1)/\Below w.heap.size w W0 by
  rw[hW0];exact⟨hc0,(hb0.cell (ql pi.1)).trans pi.1,(hb0.cell (ql pi.2.1)).trans pi.2.1,(hb0.cell (ql pi.2.2.1)).trans pi.2.2.1,(hb0.cell (ql pi.2.2.2.1)).trans pi.2.2.2.1,(hb0.cell (ql pi.2.2.2.2.1)).trans pi.2.2.2.2.1,(hb0.cell (ql pi.2.2.2.2.2)).trans pi.2.2.2.2.2,(hb0.cell (ql pj.1)).trans pj.1,(hb0.cell (ql pj.2.1)).trans pj.2.1,(hb0.cell (ql pj.2.2.1)).trans pj.2.2.1,(hb0.cell (ql pj.2.2.2.1)).trans pj.2.2.2.1,(hb0.cell (ql pj.2.2.2.2.1)).trans pj.2.2.2.2.1,(hb0.cell (ql pj.2.2.2.2.2)).trans pj.2.2.2.2.2,(hb0.cell (ql pk.1)).trans pk.1,(hb0.cell (ql pk.2.1)).trans pk.2.1,(hb0.cell (ql pk.2.2.1)).trans pk.2.2.1,(hb0.cell (ql pk.2.2.2.1)).trans pk.2.2.2.1,(hb0.cell (ql pk.2.2.2.2.1)).trans pk.2.2.2.2.1,(hb0.cell (ql pk.2.2.2.2.2)).trans pk.2.2.2.2.2,hb0⟩)
 have n_:=qh hW0;clear hb0 hc0 hp hl pi pj pk hW0 hO hi hj hk;go_enter Tryz.func30,Tryz.ntmps30;go_wp2
 rw[<- n_.out];have dI:=HS.out;go_region_held3 (fun w'=>w'.cell? ⟨w.heap.size,0,none⟩=some (.slice (some ad) n0 c0)/\w'.cell? (ad.add (i*6))=some (.bool (ay ps i).f0.f0.f0)/\w'.cell? ⟨(ad.add (i*6)).block,(ad.add (i*6)).off+1,none⟩=some (.string (ay ps i).f0.f0.f1)/\w'.cell? ⟨(ad.add (i*6)).block,(ad.add (i*6)).off+2,none⟩=some (.string (ay ps i).f0.f1)/\w'.cell? ⟨(ad.add (i*6)).block,(ad.add (i*6)).off+3,none⟩=some (.bool (ay ps i).f1.f0.f0)/\w'.cell? ⟨(ad.add (i*6)).block,(ad.add (i*6)).off+4,none⟩=some (.string (ay ps i).f1.f0.f1)/\w'.cell? ⟨(ad.add (i*6)).block,(ad.add (i*6)).off+5,none⟩=some (.string (ay ps i).f1.f1)/\w'.cell? (ad.add (j*6))=some (.bool (ay ps j).f0.f0.f0)/\w'.cell? ⟨(ad.add (j*6)).block,(ad.add (j*6)).off+1,none⟩=some (.string (ay ps j).f0.f0.f1)/\w'.cell? ⟨(ad.add (j*6)).block,(ad.add (j*6)).off+2,none⟩=some (.string (ay ps j).f0.f1)/\w'.cell? ⟨(ad.add (j*6)).block,(ad.add (j*6)).off+3,none⟩=some (.bool (ay ps j).f1.f0.f0)/\w'.cell? ⟨(ad.add (j*6)).block,(ad.add (j*6)).off+4,none⟩=some (.string (ay ps j).f1.f0.f1)/\w'.cell? ⟨(ad.add (j*6)).block,(ad.add (j*6)).off+5,none⟩=some (.string (ay ps j).f1.f1)/\w'.cell? (ad.add (k*6))=some (.bool (ay ps k).f0.f0.f0)/\w'.cell? ⟨(ad.add (k*6)).block,(ad.add (k*6)).off+1,none⟩=some (.string (ay ps k).f0.f0.f1)/\w'.cell? ⟨(ad.add (k*6)).block,(ad.add (k*6)).off+2,none⟩=some (.string (ay ps k).f0.f1)/\w'.cell? ⟨(ad.add (k*6)).block,(ad.add (k*6)).off+3,none⟩=some (.bool (ay ps k).f1.f0.f0)/\w'.cell? ⟨(ad.add (k*6)).block,(ad.add (k*6)).off+4,none⟩=some (.string (ay ps k).f1.f0.f1)/\w'.cell? ⟨(ad.add (k*6)).block,(ad.add (k*6)).off+5,none⟩=some (.string (ay ps k).f1.f1)/\Below w.heap.size w w') (first|assumption|exact Vx (by assumption)) (first|(go_at_call 52;refine(yG.calls K _ _ _ _ _ _ _ _ _ _ _ _ _ _ _ _ _ _ _ _ _ HO.out).mono ?_;rintro e NU ⟨rfl,hbr⟩;have hS1:=al9 hbr (by assumption);clear hbr))
 all_goals go_wp2
 all_goals go_ret
 all_goals exact⟨rfl,by first|exact hS1.2.2.2.2.2.2.2.2.2.2.2.2.2.2.2.2.2.2.2|exact(Vx hS1).2.2.2.2.2.2.2.2.2.2.2.2.2.2.2.2.2.2.2|exact dI.2.2.2.2.2.2.2.2.2.2.2.2.2.2.2.2.2.2.2|exact(Vx dI).2.2.2.2.2.2.2.2.2.2.2.2.2.2.2.2.2.2.2⟩
end Go.Proofs.YtfcjnhkkfmgmpaaGreat
