import Derived.Test.YtfcjnhkkfmgmpaaGreatZsG44
set_option linter.all false
set_option maxRecDepth 100000
set_option maxHeartbeats 8000000
namespace Go.Proofs.YtfcjnhkkfmgmpaaGreat
open Go.RowKit aR Go.Proofs.aC.R Go.Proofs.aC.Z Go.Proofs.aD.bf
def Bb (zs:List Int) (n1:Nat) (t k:Int):Int × Int × Int :=
 if o8 n1 t k=true then (fT (b_ zs (zs.getD (3*t.toNat+nx k.toNat) 0) (zs.getD (3*t.toNat+k.toNat) 0) (3*n1)),fK (b_ zs (zs.getD (3*t.toNat+nx k.toNat) 0) (zs.getD (3*t.toNat+k.toNat) 0) (3*n1)),0) else (0,0,1)
theorem agF (A0 A1 A2:Option Addr) (c0 n1 c1 c2:Nat) (ps:PS) (zs:List Int) (ss:SS) (w:World) (hA:mZ w A0 A1 A2 c0 c2 ps zs n1 ss) (K:Nat) (hK:oz.f K ps=some 0) (bC:Nat→Nat→Nat→Int) (hO:Hj K ps bC) (hM:r_ ps.length zs n1 ss bC) (t k:Int) :
  Calls Tryz.prog 24 #[.agg #[.slice A0 ps.length c0,.slice A1 n1 c1,.slice A2 ss.length c2],.int .i64 t,.int .i64 k] w fun e w'=>e = .returned (.tuple #[.int .i64 (Bb zs n1 t k).1,.int .i64 (Bb zs n1 t k).2.1,.int .i64 (Bb zs n1 t k).2.2])∧Below w.heap.size w w':=by
 obtain⟨n0,hn0⟩:∃ n,ps.length=n:=⟨_,rfl⟩
 obtain⟨n2,hn2⟩:∃ n,ss.length=n:=⟨_,rfl⟩
 have HL:=qh (show n0≤400∧n1≤900∧n2≤1300 from ⟨hn0 ▸ hM.l0,hM.l1,hn2 ▸ hM.l2⟩);have bD:=qh (MB.new w A0 A1 A2 n0 c0 n1 c1 n2 c2);have wh:=qh (Rc A0 A1 A2 c0 n1 c1 c2 ps zs ss _ (hA.below bD.out.below rfl) K hK bC hO hM);rw[hn0,hn2]at wh
 have H0:=qh hn0;have HA:=qh hA;have HM:=qh hM;rw[hn0,hn2];clear hA hK hO hM hn0 hn2;obtain⟨g,hg⟩:∃ g,w.heap.size=g:=⟨_,rfl⟩
 have HG:=qh hg;rw[hg]at bD
 have q0:=bD.out.b0;have q1:=bD.out.b1;have q2:=bD.out.b2;go_enter Tryz.func24,Tryz.ntmps24;go_wp2_with (refine wh.out.mono ?_;rintro e w2 ⟨kb,B,rfl,hkb,hB,hmp,e0,e1,e2,e3,hb⟩;refine Stop.out ?_)
 refine⟨?_⟩;have gI:=qh (show MB g w A0 A1 A2 n0 c0 n1 c1 n2 c2 w2∧SMap w2 B zs (3*n1)∧w2.cell? ⟨kb,1,none⟩=some (.slice A1 n1 c1)∧w2.cell? ⟨kb,3,none⟩=some (.map (some B)) from ⟨bD.out.step hb,hmp,e1,e3⟩);clear hb hmp hB wh bD q0 q1 q2 e0 e2 e3 e1 hkb;cases hB:o8 n1 t k with
 | false =>
  have ou:=qh (Q_ kb A1 n1 c1 w2 gI.out.2.2.1 t k hB);have HR:=qh (show Bb zs n1 t k=(0,0,1) from if_neg (by rw[hB];decide));clear hB;go_wp2_with (refine ou.out.mono ?_;rintro e w3 ⟨rfl,hb⟩;refine Stop.out ?_)
  refine⟨?_⟩;have dy:=qh ((gI.out.1.step hb).step ((Below.refl w3.heap.size w3).alloc (Nat.le_refl _) (.cells #[.int .i64 0,.int .i64 0] 66)));clear hb ou gI;go_wp2
  refine bodyPost_ret (by simp[results,Tryz.results24,go_sem];try rfl) rfl ?_;exact⟨by rw[HR.out],by rw[HG.out];exact dy.out.below⟩
 | true =>
  have hR:=hB;unfold o8 at hR;simp only[Bool.and_eq_true,decide_eq_true_eq]at hR;obtain⟨⟨⟨a1,a2⟩,a3⟩,a4⟩:=hR;obtain⟨T,rfl⟩:=Int.eq_ofNat_of_zero_le a1;obtain⟨k,rfl⟩:=Int.eq_ofNat_of_zero_le a3;have hT:T<n1:=by omega
  have hk:k≤2:=by omega
  have fQ:=qh (HA.out.below gI.out.1.below HG.out.symm);have ou:=qh (RS kb A1 n1 c1 zs w2 gI.out.2.2.1 fQ.out.t T k hT hk (by have:=HL.out;omega));have hac:Bb zs n1 (T:Int) (k:Int)=_:=if_pos hB;simp only[Int.toNat_natCast]at hac;have gX:=HM.out.inr (j:=3*T+k) (by omega);have fA:=HM.out.inr (j:=3*T+nx k) (by unfold nx;split <;> omega);obtain⟨xa,iT⟩:∃ x,zs.getD (3*T+k) 0=x:=⟨_,rfl⟩
  obtain⟨xb,iU⟩:∃ x,zs.getD (3*T+nx k) 0=x:=⟨_,rfl⟩
  rw[iT,iU]at ou hac
  have HR:=qh hac;rw[iT]at gX
  rw[iU]at fA
  have ej:=qh (show(0≤xa∧xa<n0)∧0≤xb∧xb<n0 from H0.out ▸ ⟨gX,fA⟩);clear iT iU hac gX fA hT hk a1 a2 a3 a4 hB fQ;go_wp2_with (refine ou.out.mono ?_;rintro e w3 ⟨rfl,hb⟩;refine Stop.out ?_)
  refine⟨?_⟩;have dW:=hb.trans (((Below.refl w3.heap.size w3).alloc (Nat.le_refl _) (.cells #[.int .i64 xa,.int .i64 xb] 66)).mono hb.size)
  have gC:=qh (show MB g w A0 A1 A2 n0 c0 n1 c1 n2 c2 (w3.alloc (.cells #[.int .i64 xa,.int .i64 xb] 66))∧SMap (w3.alloc (.cells #[.int .i64 xa,.int .i64 xb] 66)) B zs (3*n1)∧(w3.alloc (.cells #[.int .i64 xa,.int .i64 xb] 66)).cell? ⟨kb,3,none⟩=some (.map (some B)) from
   ⟨gI.out.1.step dW,gI.out.2.1.below dW gI.out.2.1.lt,(dW.cell (ql gI.out.2.2.2)).trans gI.out.2.2.2⟩)
  have d0:(w3.alloc (.cells #[.int .i64 xa,.int .i64 xb] 66)).cell? ⟨w3.heap.size,0,none⟩=some (.int .i64 xa):=by simp[go_sem]
  have d1:(w3.alloc (.cells #[.int .i64 xa,.int .i64 xb] 66)).cell? ⟨w3.heap.size,1,none⟩=some (.int .i64 xb):=by simp[go_sem]
  clear hb dW ou gI;go_upto_region 7 with fail
  generalize (w3.alloc (.cells #[.int .i64 xa,.int .i64 xb] 66))=w4 at gC d0 d1 ⊢;generalize w3.heap.size=eb at d0 d1 ⊢;have wa:W6 xa:=u_ ej.out.1.1 (by have:=HL.out;have:=ej.out;omega);have wb:W6 xb:=u_ ej.out.2.1 (by have:=HL.out;have:=ej.out;omega);have xm:=qh (fun W=>SF xa xb W);have hlk:∀ W,Below w4.heap.size w4 W→_:=fun W hW=>(gC.out.2.1.below hW gC.out.2.1.lt).look wb wa;have k3:=gC.out.2.2;have dR:w4.cell? ⟨kb,3,none⟩=some (.map (some B))∧w4.cell? ⟨eb,0,none⟩=some (.int .i64 xa)∧w4.cell? ⟨eb,1,none⟩=some (.int .i64 xb)∧Below w4.heap.size w4 w4:=⟨k3,d0,d1,Below.refl _ _⟩
  obtain⟨s1,hs1⟩:∃ x,sT (b_ zs xb xa (3*n1))=x:=⟨_,rfl⟩
  obtain⟨s2,hs2⟩:∃ x,sK (b_ zs xb xa (3*n1))=x:=⟨_,rfl⟩
  obtain⟨s3,hs3⟩:∃ x,(b_ zs xb xa (3*n1)).isSome=x:=⟨_,rfl⟩
  rw[hs1,hs2,hs3]at hlk
  have X1:=qh hs1;have X2:=qh hs2;have X3:=qh hs3;clear hs1 hs2 hs3 wa wb k3 d0 d1;go_cut [12,13] (fun a b wx=>∃ h:Nat,a = .pointer (some ⟨h,0,none⟩)∧b = .bool s3∧Hid ((w4.heap.size≤h∧Below w4.heap.size w4 wx)∧wx.cell? ⟨h,0,none⟩=some (.int .i64 s1)∧wx.cell? ⟨h,1,none⟩=some (.int .i64 s2)))
  case first =>
   go_region_held3 (S3 w4 ⟨kb,3,none⟩ ⟨eb,0,none⟩ ⟨eb,1,none⟩ (.map (some B)) (.int .i64 xa) (.int .i64 xb)) (first|assumption|exact MT (by assumption)|exact Yi _ (by assumption)|exact ZO dR hS1 (Nat.le_refl _) _ _) (first|(go_at_call 27;refine(xm.out _).mono ?_;rintro e wn ⟨rfl,hbr⟩;have hS1:=Sp hbr (by assumption);first|(have p0:=(hbr.cell (p:=⟨w4.heap.size,0,none⟩) (by simp)).trans (show(World.alloc w4 (.cells #[.int .i64 0,.int .i64 0] 70)).cell? ⟨w4.heap.size,0,none⟩=some (.int .i64 0) by simp[go_sem]);have p1:=(hbr.cell (p:=⟨w4.heap.size,1,none⟩) (by simp)).trans (show(World.alloc w4 (.cells #[.int .i64 0,.int .i64 0] 70)).cell? ⟨w4.heap.size,1,none⟩=some (.int .i64 0) by simp[go_sem]);have p2:=(hbr.frozen (p:=⟨w4.heap.size,0,none⟩) (by simp)).trans (show(World.alloc w4 (.cells #[.int .i64 0,.int .i64 0] 70)).frozen? ⟨w4.heap.size,0,none⟩=false by simp[go_sem]);have p3:=(hbr.frozen (p:=⟨w4.heap.size,1,none⟩) (by simp)).trans (show(World.alloc w4 (.cells #[.int .i64 0,.int .i64 0] 70)).frozen? ⟨w4.heap.size,1,none⟩=false by simp[go_sem]))|skip;clear hbr)|fail)
   all_goals go_wp2
   all_goals go_meet
   all_goals refine⟨_,rfl,rfl,qh ⟨⟨?_,(show S3 w4 ⟨kb,3,none⟩ ⟨eb,0,none⟩ ⟨eb,1,none⟩ (.map (some B)) (.int .i64 xa) (.int .i64 xb) _ from by first|assumption|exact MT (by assumption)).2.2.2⟩,?_,?_⟩⟩
   all_goals first|exact Nat.le_refl _|exact hS1.2.2.2.size|(simp[go_sem];done)|(simp[go_sem,p0,p1,p2,p3];done)
  case rest =>
   obtain⟨h,rfl,rfl,HU⟩:=hcut;have f0:=HU.out.2.1;have f1:=HU.out.2.2;have jL:=qh (gC.out.1.step HU.out.1.2);clear hlk dR gC xm;generalize hfo:b_ zs xb xa (3*n1)=fo at X1 X2 X3;cases fo with
   | none =>
    have hs3:s3=false:=X3.out.symm;subst hs3;have eN:=qh (show Bb zs n1 (T:Int) (k:Int)=(fT none,fK none,0) by rw[HR.out,hfo]);clear hfo;go_wp2
    refine bodyPost_ret (by simp[results,Tryz.results24,go_sem];try rfl) rfl ?_;exact⟨by rw[eN.out];rfl,by rw[HG.out];exact jL.out.below⟩
   | some j =>
    have hs3:s3=true:=X3.out.symm;subst hs3;have xw:=qh (show s1=fT (some j) from X1.out.symm);have yK:=qh (show s2=fK (some j) from X2.out.symm);have eN:=qh (show Bb zs n1 (T:Int) (k:Int)=(fT (some j),fK (some j),0) by rw[HR.out,hfo]);clear hfo X1 X2 X3;go_upto_region 9 with fail
    refine Ma wc (by kernel_rfl) (by kernel_rfl) ?_;have f0':=cO f0;have f1':=cO f1;clear f0 f1;repeat(go_big_quiet_step (fail))
    refine wpQuiet_nil ?_;intro _ hw';obtain⟨p,rfl⟩:=hw';go_wp2
    refine bodyPost_ret (by simp[results,Tryz.results24,go_sem];try rfl) rfl ?_;exact⟨by rw[eN.out,xw.out,yK.out],by rw[HG.out];exact jL.out.below.trans (p.h.mono (Nat.le_of_lt (ql jL.out.b0)))⟩
def BR (a b c d:ByteArray):Bool:=decide ((a.size:Int)≤40)&&(decide ((b.size:Int)≤40)&&(decide ((c.size:Int)≤40)&&decide ((d.size:Int)≤40)))
theorem ZS (x:Bool) (a b:ByteArray) (y:Bool) (c d:ByteArray) (w:World) :
  Calls Tryz.prog 13 #[.agg #[.bool x,.string a,.string b,.bool y,.string c,.string d]] w fun e w'=>e = .returned (.bool (BR a b c d))∧Below w.heap.size w w':=by
 have HB:=qh ((Below.refl w.heap.size w).alloc (Nat.le_refl _) (.cells #[.bool x,.string a,.string b,.bool y,.string c,.string d] 42));unfold BR;generalize e1:decide ((a.size:Int)≤40)=p1;generalize e2:decide ((b.size:Int)≤40)=p2;generalize e3:decide ((c.size:Int)≤40)=p3;generalize e4:decide ((d.size:Int)≤40)=p4;cases p1
 ·go_enter Tryz.func13,Tryz.ntmps13
  go_wp2
  go_ret
  exact⟨rfl,HB.out⟩
 ·cases p2
  ·go_enter Tryz.func13,Tryz.ntmps13
   go_wp2
   go_ret
   exact⟨rfl,HB.out⟩
  ·cases p3
   ·go_enter Tryz.func13,Tryz.ntmps13
    go_wp2
    go_ret
    exact⟨rfl,HB.out⟩
   ·go_enter Tryz.func13,Tryz.ntmps13
    go_wp2
    go_ret
    exact⟨by simp,HB.out⟩
structure ab_ (p:Prop):Prop where
 out:p
def BS (ps:PS) (i:Nat):Bool:=BR (aA ps i).f0.f0.f1 (aA ps i).f0.f1 (aA ps i).f1.f0.f1 (aA ps i).f1.f1
def SM (ps:PS) (n1:Nat) (ss:SS):Prop:=ps.length≤30∧n1≤45∧ss.length≤45∧∀ j,j<ps.length→BS ps j=true
theorem akr (A0 A1 A2:Option Addr) (c0 n1 c1 c2:Nat) (ps:PS) (ss:SS) (w:World) (hp:Kd.C dF w A0 ps.length ps) :
  Calls Tryz.prog 6 #[.agg #[.slice A0 ps.length c0,.slice A1 n1 c1,.slice A2 ss.length c2]] w fun e w'=>∃ b,e = .returned (.bool b)∧(b=true→SM ps n1 ss)∧Below w.heap.size w w':=by
 obtain⟨n0,hn0⟩:∃ n,ps.length=n:=⟨_,rfl⟩
 obtain⟨n2,hn2⟩:∃ n,ss.length=n:=⟨_,rfl⟩
 have HM:=qh (MB.new w A0 A1 A2 n0 c0 n1 c1 n2 c2);rw[hn0]at hp
 have H0:=qh hn0;have H2:=qh hn2;have HP:=qh hp;rw[hn0,hn2];clear hp hn0 hn2;obtain⟨g,hg⟩:∃ g,w.heap.size=g:=⟨_,rfl⟩
 have HG:=qh hg;rw[hg]at HM
 have q0:=HM.out.b0;have q1:=HM.out.b1;have q2:=HM.out.b2;by_cases b0:(n0:Int)≤30
 ·have e0:decide ((30:Int)<(n0:Int))=false:=decide_eq_false (by omega)
  have EH:decide (30<n0)=false:=decide_eq_false (by omega);by_cases b1:(n1:Int)≤45
  ·have e1:decide ((45:Int)<(n1:Int))=false:=decide_eq_false (by omega)
   have EI:decide (45<n1)=false:=decide_eq_false (by omega);by_cases b2:(n2:Int)≤45
   ·have e2:decide ((45:Int)<(n2:Int))=false:=decide_eq_false (by omega)
    have LD:decide (45<n2)=false:=decide_eq_false (by omega);have HL:=qh (show n0≤30∧n1≤45∧n2≤45 by omega);clear b0 b1 b2;go_enter Tryz.func6,Tryz.ntmps6;go_wp2
    clear q0 q1 q2;go_loopw [3] (fun v wr=>∃ (i:Nat),i≤n0∧v = .int .i64 (i:Int)∧Hid (MB g w A0 A1 A2 n0 c0 n1 c1 n2 c2 wr)∧Hid (∀ j,j<i→BS ps j=true)) (fun v _=>n0-(intOf v).toNat)
    case atStart=>exact⟨0,Nat.zero_le _,rfl,HM,qh (fun j hj=>absurd hj (Nat.not_lt_zero _))⟩
    case round =>
     obtain⟨i,ht,rfl,hI,hC⟩:=hrel;clear HM;have q0:=hI.out.b0;by_cases htn:i<n0
     ·have h1:decide ((i:Int)<(n0:Int))=true:=decide_eq_true (by omega)
      have h2:((i:Int)<(n0:Int))=True:=eq_true (by omega);have h3:(i<n0)=True:=eq_true htn;have h4:((0:Int)≤(i:Int))=True:=eq_true (by omega);have fQ:=Kd.wG HP.out (by rw[HG.out];exact hI.out.below);obtain⟨ad,rfl,-⟩:=nJ fQ (i:Int) (by omega) (by omega);obtain⟨y0,y1,y2,y3,y4,y5⟩:=sH fQ i htn;have HS:=qh (ZS (aA ps i).f0.f0.f0 (aA ps i).f0.f0.f1 (aA ps i).f0.f1 (aA ps i).f1.f0.f0 (aA ps i).f1.f0.f1 (aA ps i).f1.f1 wr);have hs:BR (aA ps i).f0.f0.f1 (aA ps i).f0.f1 (aA ps i).f1.f0.f1 (aA ps i).f1.f1=BS ps i:=rfl;rw[hs]at HS
      have HT:=qh htn;clear hs fQ htn ht;cases hb:BS ps i with
      | true =>
       rw[hb]at HS
       have HQ:=qh hb;clear hb;go_wp2_with (refine HS.out.mono ?_;rintro e w3 ⟨rfl,hb⟩;refine ab_.out ?_)
       refine⟨?_⟩;have tj:=qh (hI.out.step hb);clear hb;go_wp2
       rw[lS (by have:=HT.out;have:=HL.out;omega)];exact⟨⟨i+1,by have:=HT.out;omega,rfl,tj,qh (fun j hj=>by
        rcases Nat.lt_succ_iff_lt_or_eq.1 hj with h|h
        ·exact hC.out j h
        ·subst h;exact HQ.out)⟩,by have:=HT.out;show n0-(((i+1:Nat):Int)).toNat<n0-((i:Nat):Int).toNat;omega⟩
      | false =>
       rw[hb]at HS
       clear hb;go_wp2_with (refine HS.out.mono ?_;rintro e w3 ⟨rfl,hb⟩;refine ab_.out ?_)
       refine⟨?_⟩;have tj:=qh (hI.out.step hb);clear hb;go_wp2
       go_ret
       exact⟨_,rfl,fun h=>(by cases h),by rw[HG.out];exact tj.out.below⟩
     ·have h1:decide ((i:Int)<(n0:Int))=false:=decide_eq_false (by omega)
      have zg:decide (i<n0)=false:=decide_eq_false htn;have HT:=qh (show i=n0 by omega);go_wp2
      go_ret
      exact⟨_,rfl,fun _=>by unfold SM;rw[H0.out,H2.out];have h9:=HT.out;subst h9;exact⟨HL.out.1,HL.out.2.1,HL.out.2.2,hC.out⟩,by rw[HG.out];exact hI.out.below⟩
   ·have e2:decide ((45:Int)<(n2:Int))=true:=decide_eq_true (by omega)
    have LD:decide (45<n2)=true:=decide_eq_true (by omega);clear b0 b1 b2;go_enter Tryz.func6,Tryz.ntmps6;go_wp2
    go_ret
    exact⟨_,rfl,fun h=>(by cases h),by rw[HG.out];exact HM.out.below⟩
  ·have e1:decide ((45:Int)<(n1:Int))=true:=decide_eq_true (by omega)
   have EI:decide (45<n1)=true:=decide_eq_true (by omega);clear b0 b1;go_enter Tryz.func6,Tryz.ntmps6;go_wp2
   go_ret
   exact⟨_,rfl,fun h=>(by cases h),by rw[HG.out];exact HM.out.below⟩
 ·have e0:decide ((30:Int)<(n0:Int))=true:=decide_eq_true (by omega)
  have EH:decide (30<n0)=true:=decide_eq_true (by omega);clear b0;go_enter Tryz.func6,Tryz.ntmps6;go_wp2
  go_ret
  exact⟨_,rfl,fun h=>(by cases h),by rw[HG.out];exact HM.out.below⟩
def SN (zs:List Int) (t:Nat) (a b c n:Int):List Int:=wO zs t a b n++[b,c,n,c,a,n]
def uP (ps:PS) (zs:List Int) (n1:Nat) (ss:SS) (wi:Nat→Nat→Nat→Int) (br:Int) (p:aX) (t:Int):MO :=
 if o8 n1 t 0=true then
  (if br=0 then
   (if wi (zs.getD (3*t.toNat) 0).toNat (zs.getD (3*t.toNat+1) 0).toNat (zs.getD (3*t.toNat+2) 0).toNat=1 then
    (0,ps++[p],SN zs t.toNat (zs.getD (3*t.toNat) 0) (zs.getD (3*t.toNat+1) 0) (zs.getD (3*t.toNat+2) 0) ps.length,n1+2,ss)
   else mH 7)
  else mH br)
 else mH 1
theorem aeY {zs:List Int} {t:Nat} (h:3*t+2<zs.length) (n:Int):wO zs t (zs.getD (3*t) 0) (zs.getD (3*t+1) 0) n=zs.set (3*t+2) n:=by
 unfold wO;apply List.ext_getElem?;intro i;simp only[List.getElem?_set,List.length_set];by_cases h1:t*3=i
 ·subst h1
  have e0:¬ t*3+1=t*3:=by omega
  have e1:¬ t*3+2=t*3:=by omega
  have e2:¬ 3*t+2=t*3:=by omega
  rw[if_neg e1,if_neg e0,if_pos rfl,if_pos (by omega),if_neg e2,List.getD_eq_getElem?_getD,show 3*t=t*3 by omega,List.getElem?_eq_getElem (by omega)];rfl
 ·by_cases h2:t*3+1=i
  ·subst h2
   have e1:¬ t*3+2=t*3+1:=by omega
   have e2:¬ 3*t+2=t*3+1:=by omega
   rw[if_neg e1,if_pos rfl,if_pos (by omega),if_neg e2,List.getD_eq_getElem?_getD,show 3*t=t*3 by omega,List.getElem?_eq_getElem (by omega)];rfl
  ·rw[if_neg h1,if_neg h2,show t*3+2=3*t+2 by omega]
theorem Nq {P:Program} {w:World} {ops:Array Oper} {rest:List Oper} {o:Oper} {a:Act} {Q:Exit→Act→World→Prop} (hgd:o.guard=none) (s x:Operand) (t e:TypeId)
  (ho:o.op = .call { callee := .builtin .append,args:=#[s,x],argTypes:=#[t,t] }) (z:Value) (size bytes:Nat) (ht:P.underlying t=some (.slice e)) (hinfo:(P.info? e).map (fun i=>(i.zero,i.size,i.bytes))=some (some z,size,bytes)) (hz:z.cells.size=size) (hs0:0<size)
  (v:Value) (n:Nat) (xs:List Value) (hs:a.eval s=v) (ad:Addr) (m c:Nat) (hx:a.eval x = .slice (some ad) m c) (news:List Value) {b:Nat} (hown:w.ownsRow b e size v n xs) (hb:b≤w.heap.size) (hl:news.length=m*size) (hc:∀ j u,news[j]?=some u→w.cell? (ad.add j)=some u) (h1:∀ u∈news,u.oneCell'=true) (hm:(n+m)*bytes≤140737488355328) (hm2:n+m≤maxLen)
  (h:∀ A' c' w',Hid (w'.ownsRow b e size (.slice A' (n+m) c') (n+m) (xs++news))→Hid (w.grownBy w' v.ownBlock)→wpList P ops Q rest (a.put o.dst (.slice A' (n+m) c')) w'):wpList P ops Q (o::rest) a w:=by
 obtain⟨i0,hi,hzz⟩:=Option.map_eq_some_iff.1 hinfo;simp only[Prod.mk.injEq]at hzz;obtain⟨hz0,hz1,hz2⟩:=hzz;obtain⟨v',w',hrun,h2,hg,_,hat⟩:=run_append_own_at (P:=P) w b t o.type e i0 z size bytes ht hi hz0 hz1 hz2 hz hs0 v n xs hown ad m c news hl hc h1 hm2 hm hb;refine wpList_plain hgd fun K hK=>?_;unfold Oper.wp execOp;simp only[ho,resolve,invoke,builtin,Sem.run_bind,Sem.run_pure,Result.andThen_ok,List.map_toArray,List.map_cons,List.map_nil,hs,hx,hrun];obtain⟨A',c',rfl⟩:∃ A' c',v' = .slice A' (n+m) c':=by
  rcases h2.2 with ⟨rfl,h0⟩|⟨g,cap,cur,rfl,_⟩
  ·exact⟨_,_,by rw[h0]⟩
  ·exact⟨_,_,rfl⟩
 exact hK _ _ (h A' c' w' (qh h2) (qh hg))
theorem Ym {w w':World} {b:Nat} {e:TypeId} {size n:Nat} {v:Value} {cs:List Value} (h:w.ownsRow b e size v n cs) (hg:w.grownBy w' v.ownBlock) {k:Nat} {c:Array Value} {t:TypeId} {f:Nat × Nat} (hk:w.heap[k]?=some (.cells c t f)) (hn:k<b∨t≠e):w'.heap[k]?=some (.cells c t f):=by
 refine(hg.block k (fJ hk) fun he=>?_).trans hk;rcases hn with hn|hn
 ·have:=zz h k he.symm
  omega
 ·obtain⟨c',f',hc⟩:=H9 h k he.symm
  rw[hk]at hc
  injection hc with hc
  injection hc with _ hc
  exact hn hc
theorem Mc {w w':World} {b b':Nat} {e e':TypeId} {size size' n n':Nat} {v v':Value} {cs cs':List Value} (h:w.ownsRow b e size v n cs) (hg:w.grownBy w' v.ownBlock) (h':w.ownsRow b' e' size' v' n' cs') (hne:e'≠e):w'.ownsRow b' e' size' v' n' cs':=by
 refine wJ h' hg fun k hk=>?_;obtain⟨c,f,hc⟩:=H9 h k hk;exact⟨_,_,_,hc,fun he=>hne he.symm⟩
structure SI (g o b vb:Nat) (w:World) (pc y:Array Value) (x0 x1 x2:Int) (v0 v1 v2:Value) (ps:PS) (zs:List Int) (n1:Nat) (ss:SS) (W:World):Prop where
 om:OM W b v0 v1 v2 ps zs n1 ss
 bp:aM (W.heap[g+1]?=some (.cells pc 42 (0,0)))
 br:aM (W.heap[g+2]?=some (.cells fM 26 (0,0)))
 bv:aM (W.heap[vb]?=some (.cells #[.int .i64 x0,.int .i64 x1,.int .i64 x2] 61 (0,0)))
 bo:aM (W.heap[o]?=some (.cells y 26 (0,0)))
 below:Below g w W
 hb:g+2<b∧vb<b∧g+2<o∧vb<o
 hz:b≤W.heap.size
theorem SI.step {g o b vb:Nat} {w:World} {pc y:Array Value} {x0 x1 x2:Int} {v0 v1 v2:Value} {ps:PS} {zs:List Int} {n1:Nat} {ss:SS} {W W':World} (h:SI g o b vb w pc y x0 x1 x2 v0 v1 v2 ps zs n1 ss W) (hb:Below W.heap.size W W'):SI g o b vb w pc y x0 x1 x2 v0 v1 v2 ps zs n1 ss W' :=
 ⟨h.om.below hb,⟨eA h.bp.out hb⟩,⟨eA h.br.out hb⟩,⟨eA h.bv.out hb⟩,⟨eA h.bo.out hb⟩,h.below.trans (hb.mono (Nat.le_trans (by have:=h.hb;omega) (Nat.le_of_lt (fJ h.br.out)))),h.hb,Nat.le_trans h.hz hb.size⟩
theorem SI.al {g o b vb:Nat} {w:World} {pc y:Array Value} {x0 x1 x2:Int} {v0 v1 v2:Value} {ps:PS} {zs:List Int} {n1:Nat} {ss:SS} {W:World} (h:SI g o b vb w pc y x0 x1 x2 v0 v1 v2 ps zs n1 ss W) (ob:Obj):SI g o b vb w pc y x0 x1 x2 v0 v1 v2 ps zs n1 ss (W.alloc ob) :=
 h.step ((Below.refl _ _).alloc (Nat.le_refl _) _)
theorem aoz {W:World} {o b:Nat} {y:Array Value} {v0 v1 v2:Value} {ps:PS} {zs:List Int} {n1:Nat} {ss:SS} (h:OM W b v0 v1 v2 ps zs n1 ss) (ho:W.heap[o]?=some (.cells y 26 (0,0))) (i:Nat) (u:Value):OM (W.setCell ⟨o,i,none⟩ u) b v0 v1 v2 ps zs n1 ss:=by
 have hf:∀ {e:TypeId} {size n:Nat} {v:Value} {cs:List Value},W.ownsRow b e size v n cs→26≠e→(W.setCell ⟨o,i,none⟩ u).ownsRow b e size v n cs:=by
  intro e size n v cs ho' hne;refine wJ ho' (row:=some o) ⟨rfl,rfl,rfl,by simp[World.setCell],fun k _ hk=>Below.heap_setCell W _ _ k (fun e=>hk (by rw[e]))⟩ (fun k hk=>?_);cases hk;exact⟨_,_,_,ho,hne⟩
 obtain⟨⟨cs0,dL,lZ⟩,ht,⟨lK,hr2,o9⟩⟩:=h;exact⟨⟨cs0,dL.j4 (fun _ _ hp=>hp),hf lZ (by decide)⟩,hf ht (by decide),⟨lK,hr2.j4 (fun _ _ hp=>hp),hf o9 (by decide)⟩⟩
theorem SI.st {g o b vb:Nat} {w:World} {pc y:Array Value} {x0 x1 x2:Int} {v0 v1 v2:Value} {ps:PS} {zs:List Int} {n1:Nat} {ss:SS} {W:World} (h:SI g o b vb w pc y x0 x1 x2 v0 v1 v2 ps zs n1 ss W) (i:Nat) (u:Value):SI g o b vb w pc (y.setIfInBounds i u) x0 x1 x2 v0 v1 v2 ps zs n1 ss (W.setCell ⟨o,i,none⟩ u) :=
 ⟨aoz h.om h.bo.out i u,⟨Go.Proofs.aD.bf.dz h.bp.out (p:=⟨o,i,none⟩) (by have:=h.hb;simp only;omega) u⟩,⟨Go.Proofs.aD.bf.dz h.br.out (p:=⟨o,i,none⟩) (by have:=h.hb;simp only;omega) u⟩,⟨Go.Proofs.aD.bf.dz h.bv.out (p:=⟨o,i,none⟩) (by have:=h.hb;simp only;omega) u⟩,⟨su h.bo.out i u⟩,h.below.setCell (by have:=h.hb;simp only;omega) u,h.hb,by simpa [World.setCell] using h.hz⟩
theorem SI.aeh {g o b vb:Nat} {w:World} {pc y:Array Value} {x0 x1 x2:Int} {v0 v1 v2 BV:Value} {ps:PS} {zs:List Int} {n1:Nat} {ss:SS} {W W':World} (h:SI g o b vb w pc y x0 x1 x2 v0 v1 v2 ps zs n1 ss W) {cs0:List Value} (ho:W.ownsRow b 42 6 v0 ps.length cs0) (hr:bk (dF.K W) 6 ps cs0) {p:aX} {c:List Value} (hp:dF.K W p c) (cj:c.length=6)
  (hO:W'.ownsRow b 42 6 BV (ps.length+1) (cs0++c)) (hg:W.grownBy W' v0.ownBlock):SI g o b vb w pc y x0 x1 x2 BV v1 v2 (ps++[p]) zs n1 ss W':=by
 have hs:∀ {k:Nat} {c:Array Value} {t:TypeId} {f:Nat × Nat},W.heap[k]?=some (.cells c t f)→(k<b∨t≠42)→W'.heap[k]?=some (.cells c t f):=fun hk hn=>Ym ho hg hk hn;obtain⟨-,ht,⟨lK,hr2,o9⟩⟩:=h.om;refine⟨⟨⟨cs0++c,(hr.snoc hp cj).j4 (fun _ _ hp=>hp),by rw[List.length_append];exact hO⟩,Mc ho hg ht (by decide),⟨lK,hr2.j4 (fun _ _ hp=>hp),Mc ho hg o9 (by decide)⟩⟩,⟨hs h.bp.out (.inl (by have:=h.hb;omega))⟩,⟨hs h.br.out (.inl (by have:=h.hb;omega))⟩,⟨hs h.bv.out (.inl (by have:=h.hb;omega))⟩,⟨hs h.bo.out (.inr (by decide))⟩,h.below.grown hg (Nat.le_trans (by have:=h.hb;omega) (Nat.le_of_lt (fJ h.br.out))) (fun k hk=>by have:=zz ho k hk;have:=h.hb;omega),h.hb,Nat.le_trans h.hz hg.size⟩
theorem SI.aei {g o b vb:Nat} {w:World} {pc y:Array Value} {x0 x1 x2:Int} {v0 v1 v2 v1':Value} {ps:PS} {zs l:List Int} {n1 m:Nat} {ss:SS} {W W':World} (h:SI g o b vb w pc y x0 x1 x2 v0 v1 v2 ps zs n1 ss W)
  (hO:W'.ownsRow b 61 3 v1' (n1+m) (mh zs++mh l)) (hg:W.grownBy W' v1.ownBlock):SI g o b vb w pc y x0 x1 x2 v0 v1' v2 ps (zs++l) (n1+m) ss W':=by
 have ho:=h.om.t;have hs:∀ {k:Nat} {c:Array Value} {t:TypeId} {f:Nat × Nat},W.heap[k]?=some (.cells c t f)→(k<b∨t≠61)→W'.heap[k]?=some (.cells c t f):=fun hk hn=>Ym ho hg hk hn;obtain⟨⟨cs0,dL,lZ⟩,ht,⟨lK,hr2,o9⟩⟩:=h.om;refine⟨⟨⟨cs0,dL.j4 (fun _ _ hp=>hp),Mc ho hg lZ (by decide)⟩,by unfold mh at *;rw[List.map_append];exact hO,⟨lK,hr2.j4 (fun _ _ hp=>hp),Mc ho hg o9 (by decide)⟩⟩,⟨hs h.bp.out (.inl (by have:=h.hb;omega))⟩,⟨hs h.br.out (.inl (by have:=h.hb;omega))⟩,⟨hs h.bv.out (.inl (by have:=h.hb;omega))⟩,⟨hs h.bo.out (.inr (by decide))⟩,h.below.grown hg (Nat.le_trans (by have:=h.hb;omega) (Nat.le_of_lt (fJ h.br.out))) (fun k hk=>by have:=zz ho k hk;have:=h.hb;omega),h.hb,Nat.le_trans h.hz hg.size⟩
theorem SI.g1 {g o b vb:Nat} {w:World} {pc y:Array Value} {x0 x1 x2:Int} {v0 v2:Value} {g1 k1:Nat} {ps:PS} {zs:List Int} {n1:Nat} {ss:SS} {W:World} (h:SI g o b vb w pc y x0 x1 x2 v0 (.slice (some ⟨g1,0,none⟩) n1 k1) v2 ps zs n1 ss W):b≤g1∧∃ c,W.heap[g1]?=some (.cells c 61 (0,0))∧n1*3≤c.size:=by
 rcases h.om.t.2 with ⟨h1,-⟩|⟨g,cap',cur,he,hb,hh,h1,h2,h3,h4⟩
 ·cases h1
 ·injection he with e1 e2 e3
  injection e1 with e1
  injection e1 with e1 _ _
  subst e1 e3;exact⟨hb,cur,hh,by rw[h3];exact Nat.mul_le_mul_right _ h1⟩
theorem SI.A_ {g o b vb:Nat} {w:World} {pc y:Array Value} {x0 x1 x2:Int} {v0 v2:Value} {g1 k1:Nat} {ps:PS} {zs:List Int} {n1:Nat} {ss:SS} {W:World} (h:SI g o b vb w pc y x0 x1 x2 v0 (.slice (some ⟨g1,0,none⟩) n1 k1) v2 ps zs n1 ss W) {i:Nat} (hi:i<n1*3) (x:Int):SI g o b vb w pc y x0 x1 x2 v0 (.slice (some ⟨g1,0,none⟩) n1 k1) v2 ps (zs.set i x) n1 ss (W.setCell ⟨g1,i,none⟩ (.int .i64 x)):=by
 obtain⟨hb,c,hc,-⟩:=h.g1;have hf:∀ {e:TypeId} {size n:Nat} {v:Value} {cs:List Value},W.ownsRow b e size v n cs→61≠e→(W.setCell ⟨g1,i,none⟩ (.int .i64 x)).ownsRow b e size v n cs:=by
  intro e size n v cs ho hne;refine wJ ho (row:=some g1) ⟨rfl,rfl,rfl,by simp[World.setCell],fun k _ hk=>Below.heap_setCell W _ _ k (fun e=>hk (by rw[e]))⟩ (fun k hk=>?_);cases hk;exact⟨_,_,_,hc,hne⟩
 have hs:∀ {k:Nat} {c':Array Value} {t:TypeId},W.heap[k]?=some (.cells c' t (0,0))→k≠g1→(W.setCell ⟨g1,i,none⟩ (.int .i64 x)).heap[k]?=some (.cells c' t (0,0)):=fun hk hn=>Go.Proofs.aD.bf.dz hk (p:=⟨g1,i,none⟩) hn _;obtain⟨⟨cs0,dL,lZ⟩,ht,⟨lK,hr2,o9⟩⟩:=h.om;refine⟨⟨⟨cs0,dL.j4 (fun _ _ hp=>hp),hf lZ (by decide)⟩,?_,⟨lK,hr2.j4 (fun _ _ hp=>hp),hf o9 (by decide)⟩⟩,⟨hs h.bp.out (by have:=h.hb;omega)⟩,⟨hs h.br.out (by have:=h.hb;omega)⟩,⟨hs h.bv.out (by have:=h.hb;omega)⟩,⟨hs h.bo.out (FR h.bo.out hc (by decide))⟩,h.below.setCell (p:=⟨g1,i,none⟩) (by have:=h.hb;simp only;omega) _,h.hb,by simpa [World.setCell] using h.hz⟩;have:=Yh ht hi (.int .i64 x);unfold mh at this ⊢;rw[List.map_set];exact this
theorem SI.OO {g o b vb:Nat} {w:World} {pc y:Array Value} {x0 x1 x2:Int} {v0 v2:Value} {g1 k1:Nat} {ps:PS} {zs:List Int} {n1:Nat} {ss:SS} {W:World} (h:SI g o b vb w pc y x0 x1 x2 v0 (.slice (some ⟨g1,0,none⟩) n1 k1) v2 ps zs n1 ss W) {t:Nat} (ht:t<n1) (a b' c:Int):SI g o b vb w pc y x0 x1 x2 v0 (.slice (some ⟨g1,0,none⟩) n1 k1) v2 ps (wO zs t a b' c) n1 ss (((W.setCell ⟨g1,t*3,none⟩ (.int .i64 a)).setCell ⟨g1,t*3+1,none⟩ (.int .i64 b')).setCell ⟨g1,t*3+2,none⟩ (.int .i64 c)) :=
 ((h.A_ (by omega) a).A_ (by omega) b').A_ (by omega) c
theorem SI.cells {g o b vb:Nat} {w:World} {pc y:Array Value} {x0 x1 x2:Int} {v0 v2:Value} {g1 k1:Nat} {ps:PS} {zs:List Int} {n1:Nat} {ss:SS} {W:World} (h:SI g o b vb w pc y x0 x1 x2 v0 (.slice (some ⟨g1,0,none⟩) n1 k1) v2 ps zs n1 ss W) {t:Nat} (ht:t<n1) :
  ∃ u0 u1 u2,W.cell? ⟨g1,t*3,none⟩=some u0∧W.cell? ⟨g1,t*3+1,none⟩=some u1∧W.cell? ⟨g1,t*3+2,none⟩=some u2∧W.frozen? ⟨g1,t*3,none⟩=false∧W.frozen? ⟨g1,t*3+1,none⟩=false∧W.frozen? ⟨g1,t*3+2,none⟩=false:=by
 obtain⟨hb,c,hc,hs⟩:=h.g1;refine⟨c[t*3]'(by omega),c[t*3+1]'(by omega),c[t*3+2]'(by omega),?_,?_,?_,cF hc _,cF hc _,cF hc _⟩;all_goals rw[gP hc];exact Array.getElem?_eq_getElem _
theorem SI.ret {g o b vb:Nat} {w:World} {pc y:Array Value} {x0 x1 x2:Int} {v0 v1 v2:Value} {ps:PS} {zs:List Int} {n1:Nat} {ss:SS} {W:World} (h:SI g o b vb w pc y x0 x1 x2 v0 v1 v2 ps zs n1 ss W) (hg:w.heap.size=g) (r:Int):(((W.setCell ⟨g+2,0,none⟩ v0).setCell ⟨g+2,1,none⟩ v1).setCell ⟨g+2,2,none⟩ v2).heap[g+2]?=some (.cells #[v0,v1,v2] 26 (0,0))∧tP w (r,ps,zs,n1,ss) (.returned (.tuple #[.agg #[v0,v1,v2],.int .i64 r])) (((W.setCell ⟨g+2,0,none⟩ v0).setCell ⟨g+2,1,none⟩ v1).setCell ⟨g+2,2,none⟩ v2):=by
 have h3:=ret3 h.below h.br (show g<g+2 by omega) v0 v1 v2;exact⟨h3.1,_,_,_,rfl,h.om.st3 (by have:=h.hb;omega) (by have:=h.hb;omega) _ _ _,by rw[hg];exact h3.2⟩
end Go.Proofs.YtfcjnhkkfmgmpaaGreat
