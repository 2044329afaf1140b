import Derived.Test.YtcmepkhjggpmeaaGreatZuG4
import Derived.Lib.BitFns
import Derived.Lib.ItoaNum
import Derived.Laws.BitsLemmas
import Derived.Test.YtcmepkhjggpmeaaGreatZuG3
import Derived.StillTailTactics
import Derived.IntWalk
set_option linter.all false
set_option maxRecDepth 100000
set_option maxHeartbeats 8000000
namespace Go.Proofs.YtcmepkhjggpmeaaGreat
open Go.RowKit aP
def lz (x:Int):Int:=64-(Lib.bitLen x.toNat:Int)
theorem UD (x:Int) (hx:0<=x/\x<B) (w:World) :
  Calls Tryz.prog 155 #[.int .u64 x] w fun e w'=>e = .returned (.int .i64 (lz x))/\w'=w:=Tryz.bits_LeadingZeros64 x w hx.1 (by have:=hx.2;rw[B_eq]at this;omega)
theorem RX (x:Int) (h0:0<x) (hx:x<B):∃ s:Nat,lz x=s/\s<=63/\9223372036854775808<=x*2^s/\x*2^s<B:=by
 obtain⟨n,rfl⟩:=Int.eq_ofNat_of_zero_le (Int.le_of_lt h0);rw[B_eq]at *
 have hb:=Lib.bitLenAux_bounds 64 n aC aC;obtain⟨h1,h2,h3⟩:=hb;have e:Lib.bitLen n=Lib.bitLenAux 64 n:=rfl;have h4:Lib.bitLenAux 64 n<=64:=by
  apply Nat.le_of_not_lt;intro hgt;have:2^64<=2^(Lib.bitLenAux 64 n-1):=Nat.pow_le_pow_right aC aC;omega
 refine⟨64-Lib.bitLenAux 64 n,?_,by omega,?_,?_⟩
 ·unfold lz
  rw[Int.toNat_natCast,e];omega
 ·have:2^(Lib.bitLenAux 64 n-1)*2^(64-Lib.bitLenAux 64 n)<=n*2^(64-Lib.bitLenAux 64 n):=Nat.mul_le_mul_right _ h2
  rw[<- Nat.pow_add,show Lib.bitLenAux 64 n-1+(64-Lib.bitLenAux 64 n)=63 by omega]at this
  have h5:((2^63:Nat):Int)<=((n*2^(64-Lib.bitLenAux 64 n):Nat):Int):=by exact_mod_cast this
  rw[Int.natCast_mul,Int.natCast_pow]at h5
  exact h5
 ·have:n*2^(64-Lib.bitLenAux 64 n)<2^Lib.bitLenAux 64 n*2^(64-Lib.bitLenAux 64 n):=Nat.mul_lt_mul_of_pos_right h3 (Nat.pow_pos aC)
  rw[<- Nat.pow_add,show Lib.bitLenAux 64 n+(64-Lib.bitLenAux 64 n)=64 by omega]at this
  have h5:((n*2^(64-Lib.bitLenAux 64 n):Nat):Int)<((2^64:Nat):Int):=by exact_mod_cast this
  rw[Int.natCast_mul,Int.natCast_pow]at h5
  exact h5
theorem afB (lo y:Int) (h0:0<=lo/\lo<B) (hy:0<y/\y<B) (w:World) :
  Calls Tryz.prog 185 #[.int .u64 0,.int .u64 lo,.int .u64 y] w fun e w'=>e = .returned (.tuple #[.int .u64 (lo / y),.int .u64 (lo%y)])/\Dr w w':=by
 have ace:=h0.1;have hy0:=hy.1;have hz:(y==0)=false:=beq_eq_false_iff_ne.mpr aC;have hz2:decide (y<=0)=false:=by simp;omega
 have hq:0<=lo / y:=Int.ediv_nonneg aC aC;have HB:=Lib.hid h0;have HY:=Lib.hid hy;clear h0 hy;go_enter Tryz.func185,Tryz.ntmps185;go_wp2
 repeat(go_quiet (fail);try go_wp2)
 go_ret2
 have e1:IntKind.u64.wrap (lo.tdiv y)=lo / y:=by
  rw[Int.tdiv_eq_ediv_of_nonneg ace];apply bR;refine⟨hq,?_⟩;have:=Int.ediv_le_self y ace;have:=HB.out.2;omega
 rw[<- e1];exact⟨rfl,by repeat(first|exact Dr.refl _|apply Dr.step)⟩
theorem Xy (x:Int) (hx:0<=x/\x<B):bits .and .u64 x 4294967295=x%4294967296 :=
 bits_mask .u64 64 (by decide) (fun n h0 h1=>bR n ⟨h0,h1⟩) 32 (by decide) x hx.1 hx.2
theorem Mm (x y:Int) (s:Nat) (hx:0<=x/\x<B) (hy:0<=y) (hys:y<2^s) (hyB:y<B) (hm:x%2^s=0):bits .or .u64 x y=x+y :=
 bits_join .u64 64 (by decide) (fun n h0 h1=>bR n ⟨h0,h1⟩) s x y hx.1 hm hx.2 hy hys hyB
theorem afS (hi lo y:Int) (hh:0<hi/\hi<y) (h0:0<=lo/\lo<B) (hy:y<B) (w:World) :
  Calls Tryz.prog 185 #[.int .u64 hi,.int .u64 lo,.int .u64 y] w fun e w'=>e = .returned (.tuple #[.int .u64 ((hi*B+lo) / y),.int .u64 ((hi*B+lo)%y)])/\Dr w w':=by
 obtain⟨s,hs,Ei,hs1,hs2⟩:=RX y aC hy;have hz:(y==0)=false:=beq_eq_false_iff_ne.mpr aC;have hz2:decide (y<=hi)=false:=by simp;omega
 have hz3:(hi==0)=false:=beq_eq_false_iff_ne.mpr aC;have HS:=Lib.hid hs;clear hs;have KQ:=Lib.hid (UD y ⟨by omega,hy⟩);obtain⟨S,hS⟩:∃ S:Int,S=2^s:=⟨_,rfl⟩
 have cQ:0<S:=by rw[hS];exact Int.pow_pos (by decide)
 obtain⟨Y,hY⟩:∃ Y,Y=y*S:=⟨_,rfl⟩
 rw[<- hS,<- hY]at hs1 hs2
 have O8:=Int.mul_pos (show 0<y by omega) cQ;have e1:IntKind.u64.wrap (y*2^s)=Y:=by rw[<- hS,<- hY];exact bR _ ⟨by omega,hs2⟩
 have e1b:bits .and .u64 Y 4294967295=Y%4294967296:=Xy _ ⟨by omega,hs2⟩;obtain⟨T,hT⟩:∃ T:Int,T=2^(64-s):=⟨_,rfl⟩
 have pz:0<T:=by rw[hT];exact Int.pow_pos (by decide)
 have gL:S*T=B:=by
  rw[hS,hT,<- Int.pow_add,show s+(64-s)=64 by omega];rfl
 obtain⟨p1,p2,p3⟩:=Qk cQ pz gL h0;have q1:(hi+1)*S<=y*S:=Int.mul_le_mul_of_nonneg_right aC aC;have q2:(hi+1)*S=hi*S+S:=by grind
 have q3:0<=hi*S:=Int.mul_nonneg aC aC;have e2:bits .or .u64 (IntKind.u64.wrap (hi*2^s)) (lo / 2^(64-s))=hi*S+lo / T:=by
  rw[<- hS,<- hT,bR _ ⟨q3,by omega⟩];exact Mm _ _ s ⟨q3,by omega⟩ p2 (by rw[<- hS];exact p3) aC (by rw[hS];exact Int.mul_emod_left _ _)
 have hBp:0<B:=by decide
 have e3:IntKind.u64.wrap (lo*2^s)=lo*S%B:=by rw[<- hS,IntKind.wrap_u64];rfl
 have r0:0<=lo*S%B:=Int.emod_nonneg _ aC;have r1:lo*S%B<B:=Int.emod_lt_of_pos _ hBp;have e3b:bits .and .u64 (lo*S%B) 4294967295=lo*S%B%4294967296:=Xy _ ⟨r0,r1⟩;generalize lo*S%B=VM at *;obtain⟨cG,UE⟩:∃ cG,hi*S+lo / T=cG:=⟨_,rfl⟩
 rw[UE]at e2
 have hU:(hi*B+lo)*S=cG*B+VM:=by
  rw[<- UE];have:(hi*B+lo)*S=hi*S*B+lo*S:=by grind
  rw[this,p1];grind
 obtain⟨Y1,hY1⟩:∃ Y1,Y / 4294967296=Y1:=⟨_,rfl⟩
 obtain⟨Y0,hY0⟩:∃ Y0,Y%4294967296=Y0:=⟨_,rfl⟩
 obtain⟨U1,VN⟩:∃ U1,VM / 4294967296=U1:=⟨_,rfl⟩
 obtain⟨U0,O9⟩:∃ U0,VM%4294967296=U0:=⟨_,rfl⟩
 rw[hY0]at e1b
 rw[O9]at e3b
 have hH:tP cG U1 Y Y1 Y0:=by
  rw[B_eq]at hs2 r1
  exact⟨by omega,by omega,by omega,by omega,by omega⟩
 have hz4:(Y1==0)=false:=beq_eq_false_iff_ne.mpr (by have:=hH.y1;omega);have O_:0<Y1:=by have:=hH.y1;omega
 have i0:IntKind.u64.wrap (cG.tdiv Y1)=cG / Y1:=by
  have:=hH.start.1.q0;have:=hH.start.1.q1;rw[Int.tdiv_eq_ediv_of_nonneg hH.u.1];exact bR _ ⟨by omega,by rw[B_eq];omega⟩
 have i1:IntKind.u64.wrap (cG / Y1*Y1)=cG / Y1*Y1:=bR _ (Ma hH hH.start.1 hH.start.2).2.1;have i2:IntKind.u64.wrap (cG-cG / Y1*Y1)=cG%Y1:=by
  have:=hH.start.1.e;have:=hH.start.1.r0;have:=hH.start.2;rw[show cG-cG / Y1*Y1=cG%Y1 by omega];exact bR _ ⟨by omega,by rw[B_eq];omega⟩
 have hst:=Lib.hid hH.start;have HH:=Lib.hid hH;have HU:=Lib.hid hU;have HYY:=Lib.hid hY;have HP:=Lib.hid (And.intro hS (And.intro cQ (And.intro O8 (And.intro O9 (And.intro VN (And.intro r0 (And.intro r1 (And.intro hs2 hh))))))));clear hY O8 hS cQ hT pz gL p1 p2 p3 q1 q2 q3 r0 r1 UE hU hH hs1 hh h0 hy;go_enter Tryz.func185,Tryz.ntmps185;go_upto_block 0 with (go_at_call 155;refine(KQ.out _).mono ?_;rintro e w' ⟨rfl,rfl⟩;rw[HS.out])
 go_cut [15,16] (fun a b w1=>a = .int .u64 ((cG*4294967296+U1) / Y)/\w'=w1)
 case first =>
  go_wp2
  go_loop [15,16] (fun a b=>∃ q r:Int,a = .int .u64 q/\b = .int .u64 r/\Hid (q_ cG U1 Y Y1 q r/\r<4294967296)) (fun a _=>(intOf a).toNat)
  case atStart=>exact⟨_,_,rfl,rfl,hst.out⟩
  case round =>
   obtain⟨q,r,rfl,rfl,hi⟩:=hrel;obtain⟨b1,b2,b3,b4,b5⟩:=Ma HH.out hi.out.1 hi.out.2;have g2:=bR _ b3;have g3:=bR _ b4;have g5:=bR _ b5;have hq1:1<=q->IntKind.u64.wrap (q-1)=q-1:=fun h=>bR _ ⟨by omega,by have:=hi.out.1.q1;rw[B_eq];omega⟩;have KP:=hi.out.1.q0;have B1:=Lib.hid b1;have HQ:=Lib.hid hq1;clear b1 b2 b3 b4 b5 hq1;by_cases hA:4294967296<=q
   ·have c1:decide (4294967296<=q)=true:=decide_eq_true hA
    have g4:=HQ.out aC;have nx:=hi.out.1.step HH.out hi.out.2 (.inl hA);by_cases hbr:4294967296<=r+Y1
    ·have c2:decide (4294967296<=r+Y1)=true:=decide_eq_true hbr
     have fin:=Lib.hid (nx.NT HH.out hbr);clear nx;go_wp2
     go_meet
     rw[<- fin.out];exact⟨rfl,rfl⟩
    ·have c2:decide (4294967296<=r+Y1)=false:=decide_eq_false hbr
     have fin:=Lib.hid nx;clear nx;go_wp2
     exact⟨⟨_,_,rfl,rfl,⟨fin.out,by omega⟩⟩,by simp[intOf];omega⟩
   ·have c1:decide (4294967296<=q)=false:=decide_eq_false hA
    have g1:=bR _ (B1.out aC);by_cases hC:4294967296*r+U1<q*Y0
    ·have c3:decide (4294967296*r+U1<q*Y0)=true:=decide_eq_true hC
     have Ae:1<=q:=by
      apply Int.le_of_not_gt;intro hlt;have e0:q=0:=by omega
      rw[e0]at hC
      have:=HH.out.u1;have:=hi.out.1.r0;omega
     have g4:=HQ.out Ae;have nx:=hi.out.1.step HH.out hi.out.2 (.inr hC);by_cases hbr:4294967296<=r+Y1
     ·have c2:decide (4294967296<=r+Y1)=true:=decide_eq_true hbr
      have fin:=Lib.hid (nx.NT HH.out hbr);clear nx;go_wp2
      go_meet
      rw[<- fin.out];exact⟨rfl,rfl⟩
     ·have c2:decide (4294967296<=r+Y1)=false:=decide_eq_false hbr
      have fin:=Lib.hid nx;clear nx;go_wp2
      exact⟨⟨_,_,rfl,rfl,⟨fin.out,by omega⟩⟩,by simp[intOf];omega⟩
    ·have c3:decide (4294967296*r+U1<q*Y0)=false:=decide_eq_false hC
     have fin:=Lib.hid (hi.out.1.exit HH.out aC);go_wp2
     go_meet
     rw[<- fin.out];exact⟨rfl,rfl⟩
 case rest =>
  obtain⟨rfl,rfl⟩:=hcut;obtain⟨w0,rfl⟩:∃ w0:World,w0=w':=⟨_,rfl⟩
  obtain⟨Q1,Pa⟩:∃ Q1,(cG*4294967296+U1) / Y=Q1:=⟨_,rfl⟩
  have KR:=XM HH.out;simp only[Pa]at KR;obtain⟨Cp,Cq,Pb⟩:=KR;have Hz:=HH.out.quo;rw[Pa]at Hz ⊢
  obtain⟨oF,Hi⟩:∃ oF,cG*4294967296+U1-Q1*Y=oF:=⟨_,rfl⟩
  rw[Hi]at Cp Cq
  have j1:IntKind.u64.wrap (IntKind.u64.wrap (IntKind.u64.wrap (cG*4294967296)+U1)-IntKind.u64.wrap (Q1*Y))=oF:=by
   have hb:=HP.out.2.2.2.2.2.2.2.1;simp only[IntKind.wrap_u64];rw[B_eq]at hb
   generalize Q1*Y=z at *;omega
  have uY:tP oF U0 Y Y1 Y0:=⟨HH.out.y,HH.out.y0,HH.out.y1,⟨Cp,Cq⟩,by have:=HP.out.2.2.2.1;omega⟩
  have k0:IntKind.u64.wrap (oF.tdiv Y1)=oF / Y1:=by
   have:=uY.start.1.q0;have:=uY.start.1.q1;rw[Int.tdiv_eq_ediv_of_nonneg uY.u.1];exact bR _ ⟨by omega,by rw[B_eq];omega⟩
  have k1:IntKind.u64.wrap (oF / Y1*Y1)=oF / Y1*Y1:=bR _ (Ma uY uY.start.1 uY.start.2).2.1;have k2:IntKind.u64.wrap (oF-oF / Y1*Y1)=oF%Y1:=by
   have:=uY.start.1.e;have:=uY.start.1.r0;have:=uY.start.2;rw[show oF-oF / Y1*Y1=oF%Y1 by omega];exact bR _ ⟨by omega,by rw[B_eq];omega⟩
  have ap_:=Lib.hid uY.start;have Ah:=Lib.hid uY;have HQ1:=Lib.hid Pa;have ap':=Lib.hid Hi;have HRE:=Lib.hid (And.intro Cp (And.intro Cq (And.intro Pb Hz)));clear Pa Hi uY Cp Cq Pb Hz i0 i1 i2 e1 e2 e3;go_upto_block 2 with fail
  go_cut [18,16] (fun a b w1=>a = .int .u64 ((oF*4294967296+U0) / Y)/\w0=w1)
  case first =>
   go_wp2
   go_loop [18,16] (fun a b=>∃ q r:Int,a = .int .u64 q/\b = .int .u64 r/\Hid (q_ oF U0 Y Y1 q r/\r<4294967296)) (fun a _=>(intOf a).toNat)
   case atStart=>exact⟨_,_,rfl,rfl,ap_.out⟩
   case round =>
    obtain⟨q,r,rfl,rfl,hi⟩:=hrel;obtain⟨b1,b2,b3,b4,b5⟩:=Ma Ah.out hi.out.1 hi.out.2;have g2:=bR _ b3;have g3:=bR _ b4;have g5:=bR _ b5;have hq1:1<=q->IntKind.u64.wrap (q-1)=q-1:=fun h=>bR _ ⟨by omega,by have:=hi.out.1.q1;rw[B_eq];omega⟩;have KP:=hi.out.1.q0;have B1:=Lib.hid b1;have HQ:=Lib.hid hq1;clear b1 b2 b3 b4 b5 hq1;by_cases hA:4294967296<=q
    ·have c1:decide (4294967296<=q)=true:=decide_eq_true hA
     have g4:=HQ.out aC;have nx:=hi.out.1.step Ah.out hi.out.2 (.inl hA);by_cases hbr:4294967296<=r+Y1
     ·have c2:decide (4294967296<=r+Y1)=true:=decide_eq_true hbr
      have fin:=Lib.hid (nx.NT Ah.out hbr);clear nx;go_wp2
      go_meet
      rw[<- fin.out];exact⟨rfl,rfl⟩
     ·have c2:decide (4294967296<=r+Y1)=false:=decide_eq_false hbr
      have fin:=Lib.hid nx;clear nx;go_wp2
      exact⟨⟨_,_,rfl,rfl,⟨fin.out,by omega⟩⟩,by simp[intOf];omega⟩
    ·have c1:decide (4294967296<=q)=false:=decide_eq_false hA
     have g1:=bR _ (B1.out aC);by_cases hC:4294967296*r+U0<q*Y0
     ·have c3:decide (4294967296*r+U0<q*Y0)=true:=decide_eq_true hC
      have Ae:1<=q:=by
       apply Int.le_of_not_gt;intro hlt;have e0:q=0:=by omega
       rw[e0]at hC
       have:=Ah.out.u1;have:=hi.out.1.r0;omega
      have g4:=HQ.out Ae;have nx:=hi.out.1.step Ah.out hi.out.2 (.inr hC);by_cases hbr:4294967296<=r+Y1
      ·have c2:decide (4294967296<=r+Y1)=true:=decide_eq_true hbr
       have fin:=Lib.hid (nx.NT Ah.out hbr);clear nx;go_wp2
       go_meet
       rw[<- fin.out];exact⟨rfl,rfl⟩
      ·have c2:decide (4294967296<=r+Y1)=false:=decide_eq_false hbr
       have fin:=Lib.hid nx;clear nx;go_wp2
       exact⟨⟨_,_,rfl,rfl,⟨fin.out,by omega⟩⟩,by simp[intOf];omega⟩
     ·have c3:decide (4294967296*r+U0<q*Y0)=false:=decide_eq_false hC
      have fin:=Lib.hid (hi.out.1.exit Ah.out aC);go_wp2
      go_meet
      rw[<- fin.out];exact⟨rfl,rfl⟩
  case rest =>
   obtain⟨rfl,rfl⟩:=hcut;obtain⟨Q0,VO⟩:∃ Q0,(oF*4294967296+U0) / Y=Q0:=⟨_,rfl⟩
   have KR:=XM Ah.out;simp only[VO]at KR;obtain⟨Cp,Cq,Pb⟩:=KR;have Hz:=Ah.out.quo;rw[VO]at Hz ⊢
   obtain⟨R,hR⟩:∃ R,oF*4294967296+U0-Q0*Y=R:=⟨_,rfl⟩
   rw[hR]at Cp Cq
   obtain⟨hS,cQ,O8,O9,VN,r0,r1,hs2,hh⟩:=HP.out;have j1:IntKind.u64.wrap (IntKind.u64.wrap (IntKind.u64.wrap (oF*4294967296)+U0)-IntKind.u64.wrap (Q0*Y))=R:=by
    simp only[IntKind.wrap_u64];rw[B_eq]at hs2
    generalize Q0*Y=z at *;omega
   have j2:IntKind.u64.wrap (IntKind.u64.wrap (Q1*4294967296)+Q0)=Q1*4294967296+Q0:=by
    have:=HRE.out;simp only[IntKind.wrap_u64];omega
   have Hi:=ap'.out;have hU:=HU.out;have VP:=HYY.out;have hUU:(hi*B+lo)*S=(cG*4294967296+U1)*4294967296+U0:=by
    rw[hU,B_eq];omega
   have fin:=Lib.hid (aft (y:=y) (R:=R) cQ aC hUU (by rw[<- VP,Hi];exact hR.symm) Cp (by rw[<- VP];exact Cq));rw[hS]at fin
   clear hUU hU Hi VP hR VO hS cQ O8 O9 VN r0 r1 hs2 hh Cp Cq Pb Hz;go_wp2
   go_ret2
   rw[fin.out.1,fin.out.2];exact⟨rfl,by repeat(first|exact Dr.refl _|apply Dr.step)⟩
theorem YD (hi lo y:Int) (hh:0<=hi/\hi<y) (h0:0<=lo/\lo<B) (hy:y<B) (w:World) :
  Calls Tryz.prog 185 #[.int .u64 hi,.int .u64 lo,.int .u64 y] w fun e w'=>e = .returned (.tuple #[.int .u64 ((hi*B+lo) / y),.int .u64 ((hi*B+lo)%y)])/\Dr w w':=by
 by_cases h:hi=0
 ·subst h
  have:=afB lo y h0 ⟨by omega,hy⟩ w;rw[show(0:Int)*B+lo=lo by omega];exact this
 ·exact afS hi lo y ⟨by omega,hh.2⟩ h0 hy w
def DO (h n t:Int):Int:=if t<=h then B-1 else (h*B+n) / t
theorem ah' (h n t:Int) (hh:0<=h) (hn:0<=n/\n<B) (ht:t<B) (w:World) :
  Calls Tryz.prog 179 #[.int .u64 h,.int .u64 n,.int .u64 t] w fun e w'=>e = .returned (.int .u64 (DO h n t))/\Dr w w':=by
 unfold DO;by_cases hlt:t<=h
 ·rw[if_pos hlt]
  have h1:decide (t<=h)=true:=decide_eq_true hlt;go_enter Tryz.func179,Tryz.ntmps179;go_wp2
  go_ret
  exact⟨rfl,by repeat(first|exact Dr.refl _|apply Dr.step)⟩
 ·rw[if_neg hlt]
  have h1:decide (t<=h)=false:=decide_eq_false hlt;have HD:=Lib.hid (YD h n t ⟨hh,by omega⟩ hn ht);go_enter Tryz.func179,Tryz.ntmps179;go_wp2_with fail
  refine(HD.out _).mono ?_;rintro e w' ⟨rfl,⟨nd,rfl⟩⟩;go_wp2
  go_ret
  exact⟨rfl,by repeat(first|exact Dr.refl _|apply Dr.step)⟩
theorem or_comm (x y:Int):bits .or .u64 x y=bits .or .u64 y x:=by simp only[bits,BitVec.or_comm]
structure acf (g n:Nat) (a:List Int) (S:Int) (w:World) (k:Nat) (L:List Int) (w1:World):Prop where
 blk:cO w1 g L
 len:L.length=n+1
 lim:aG L
 low:lg L k<S
 zero:∀ j,k<j->lg L j=0
 val:win L 0 (k+1)=S*aK (lg a) k
 only:bN g w w1
def aqa (n:Nat) (v:Int) (w:World) (e:Ending) (w':World):Prop:=∃ g L,e = .returned (.slice (some ⟨g,0,none⟩) (n+1) (n+1))/\w.heap.size<=g/\cO w' g L/\L.length=n+1/\aG L/\lv L=v/\Below w.heap.size w w'
theorem XN (A0:Option Addr) (n c0 s:Nat) (a:List Int) (hn:a.length=n) (fW:n<=5000) (hs:s<=63) (w:World) (ha:RL w A0 a) (hla:aG a) :
  Calls Tryz.prog 178 #[.slice A0 n c0,.int .i64 s] w (aqa n (2^s*lv a) w):=by
 obtain⟨S,hS⟩:∃ S:Int,S=2^s:=⟨_,rfl⟩
 have cQ:0<S:=by rw[hS];exact Int.pow_pos (by decide)
 obtain⟨T,hT⟩:∃ T:Int,T=2^(64-s):=⟨_,rfl⟩
 have pz:0<T:=by rw[hT];exact Int.pow_pos (by decide)
 have gL:S*T=B:=by
  rw[hS,hT,<- Int.pow_add,show s+(64-s)=64 by omega];rfl
 rw[<- hS];have hb1:Below w.heap.size w (w.alloc (.cells (madeCells #[.int .u64 0] (n+1)) 140)):=(Below.refl _ _).alloc (Nat.le_refl _) _;have dn:=qY w (n+1);have hx1:=ha.below hb1 (Nat.le_refl _);have iM:0<a.length->∀ ad,A0=some ad->ad.block≠w.heap.size:=fun h ad e=>Nat.ne_of_lt (ha.lt h ad e);have hmk:=qX (n+1) aC;rw[show((n+1:Nat):Int)=(n:Int)+1 by omega]at hmk
 have HN:=Lib.hid hn;have rW:=Lib.hid hla;have HP:=Lib.hid (And.intro hS (And.intro hT (And.intro cQ (And.intro pz gL))));clear hn hla hS hT cQ pz gL ha;go_enter Tryz.func178,Tryz.ntmps178;go_wp2
 generalize hw3:w.alloc (.cells (madeCells #[.int .u64 0] (n+1)) 140)=w3 at *;have HG:w.heap.size<=w.heap.size:=Nat.le_refl _;generalize hg:w.heap.size=g at HG hb1 dn iM ⊢;have jw:=Lib.hid (show acf g n a S w3 0 (List.replicate (n+1) 0) w3 from ⟨dn,by simp,iI _,by rw[l7];exact HP.out.2.2.1,fun j _=>l7 _ _,by
  have:win (List.replicate (n+1) 0) 0 (0+1)=0:=jc (m:=0) aC fun j _ _=>l7 _ _;rw[this];simp[aK],bN.refl _ _⟩)
 have HX:=Lib.hid hx1;have pg:=Lib.hid iM;have ni:=Lib.hid hb1;have wH:=Lib.hid hg;clear dn hx1 iM hb1 hw3 hmk hg;go_loopw [6,7,14] (fun _ _ t w4=>∃ (k:Nat) (L':List Int),k<=n/\t = .int .i64 k/\acf g n a S w3 k L' w4) (fun _ _ t _=>n-(intOf t).toNat)
 case atStart=>exact⟨0,_,Nat.zero_le _,rfl,jw.out⟩
 case round =>
  obtain⟨k,L',hk,rfl,hI⟩:=hrel;by_cases hlt:k<n
  ·have h1:decide ((k:Int)<(n:Int))=true:=by simp;omega
   obtain⟨ad,rfl,bW⟩:=(HX.out.only hI.only pg.out).2 (by have:=HN.out;omega);have hc2:=bW k (by have:=HN.out;omega);have hce:=hI.blk.cell k (by rw[hI.len];omega);have hfr:=hI.blk.free k;obtain⟨hS,hT,cQ,pz,gL⟩:=HP.out;obtain⟨s1,s2,s3,s4,s5⟩:=ahf cQ pz gL (by rw[hI.len];omega) hI.lim rW.out hI.low hI.zero hI.val;have e1:IntKind.u64.wrap (lg a k*2^s)=lg a k*S%B:=by rw[<- hS,IntKind.wrap_u64];rfl
   have r0:0<=lg a k*S%B:=Int.emod_nonneg _ (by decide);have r1:lg a k*S%B<B:=Int.emod_lt_of_pos _ (by decide);have e2:bits .or .u64 (lg L' k) (lg a k*S%B)=lg L' k+lg a k*S%B:=by
    have hm:lg a k*S%B%2^s=0:=by
     rw[<- hS,<- gL,Int.emod_emod_of_dvd _ (Int.dvd_mul_right S T)];exact Int.mul_emod_left _ _
    rw[or_comm,Mm _ _ s ⟨r0,r1⟩ (hI.lim k).1 (by rw[<- hS];exact hI.low) (hI.lim k).2 hm,Int.add_comm]
   have e3:lg a k / 2^(64-s)=lg a k / T:=by rw[hT]
   have HI:=Lib.hid hI;have HST:=Lib.hid (And.intro s2 (And.intro s3 (And.intro s4 s5)));clear hI bW s1 s2 s3 s4 s5 hS hT cQ pz gL r0 r1;go_wp2
   have hib:=eq_true (show(k:Int)<(n:Int)+1 by omega);have UF:=eq_true (show(0:Int)<=(k:Int) by omega);go_still_tail 9,(by kernel_rfl)
   change wpList _ _ _ _ _ wr.drew;have aAI:=((HI.out.blk.set k (lg L' k+lg a k*S%B))).cell (k+1) (by rw[List.length_set,HI.out.len];omega);have aAJ:=((HI.out.blk.set k (lg L' k+lg a k*S%B))).free (k+1);clear hib UF;go_wp2
   obtain⟨s2,s3,s4,s5⟩:=HST.out;exact⟨⟨k+1,_,by omega,by go_num,⟨(HI.out.blk.set _ _).set _ _,by rw[List.length_set,List.length_set];exact HI.out.len,s2,s3,s4,s5,((HI.out.only.set _ _).set _ _).dr⟩⟩,by simp[intOf];omega⟩
  ·have he:k=n:=by omega
   subst he;have h1:decide ((k:Int)<(k:Int))=false:=by simp
   have hlv:lv L'=S*lv a:=by
    have h2:=hI.val;rw[<- hI.len,eH]at h2
    rw[h2];unfold lv;rw[HN.out]
   have HF:=Lib.hid hlv;have HI:=Lib.hid hI;clear hI hlv;go_wp2
   go_ret
   exact⟨g,L',rfl,by rw[wH.out];exact HG,HI.out.blk,HI.out.len,HI.out.lim,HF.out,by rw[wH.out];exact bN.below ni.out HI.out.only (Nat.le_refl _)⟩
structure acg (g n:Nat) (a:List Int) (S:Int) (w:World) (k:Nat) (L:List Int) (w1:World):Prop where
 blk:cO w1 g L
 len:L.length=n
 lim:aG L
 val:win L 0 k*S=aK (lg a) k-lg a 0%S+lg a k%S*B^k
 only:bN g w w1
def ach (v:Int) (w:World) (e:Ending) (w':World):Prop:=∃ x r,e = .returned x/\pO w' x r/\aG r/\Tr r/\lv r=v/\Below w.heap.size w w'
theorem ahh {w wr:World} {A:Option Addr} {L:List Int} {n nd:Nat} {v:Int} (hn:L.length=n) (hr:RL wr A L) (hl:aG L) (hv:lv L=v) (hb:Below w.heap.size w wr) :
  ach v w (.returned (.slice A (bl L n) (bl L n))) (wr.drewN nd):=by
 subst hn;exact⟨_,L.take (bl L L.length),rfl,⟨A,_,by rw[fO],by rw[fO];exact Nat.le_refl _,(hr.take _).dI _⟩,hl.take _,kA _,by rw[eo];exact hv,gI hb _⟩
theorem afT (A0:Option Addr) (n c0 s:Nat) (a:List Int) (v:Int) (hn:a.length=n) (fW:n<=5000) (hs:s<=63) (w:World) (ha:RL w A0 a) (hla:aG a) (hv:lv a=v*2^s) :
  Calls Tryz.prog 180 #[.slice A0 n c0,.int .i64 s] w (ach v w):=by
 obtain⟨S,hS⟩:∃ S:Int,S=2^s:=⟨_,rfl⟩
 have cQ:0<S:=by rw[hS];exact Int.pow_pos (by decide)
 obtain⟨T,hT⟩:∃ T:Int,T=2^(64-s):=⟨_,rfl⟩
 have pz:0<T:=by rw[hT];exact Int.pow_pos (by decide)
 have gL:S*T=B:=by
  rw[hS,hT,<- Int.pow_add,show s+(64-s)=64 by omega];rfl
 rw[<- hS]at hv
 have hb1:Below w.heap.size w (w.alloc (.cells (madeCells #[.int .u64 0] n) 140)):=(Below.refl _ _).alloc (Nat.le_refl _) _;have dn:=qY w n;have hx1:=ha.below hb1 (Nat.le_refl _);have iM:0<a.length->∀ ad,A0=some ad->ad.block≠w.heap.size:=fun h ad e=>Nat.ne_of_lt (ha.lt h ad e);have hmk:=qX n aC;have HN:=Lib.hid hn;have rW:=Lib.hid hla;have HV:=Lib.hid hv;have HP:=Lib.hid (And.intro hS (And.intro hT (And.intro cQ (And.intro pz gL))));clear hn hla hS hT cQ pz gL ha hv;go_enter Tryz.func180,Tryz.ntmps180;go_wp2
 generalize hw3:w.alloc (.cells (madeCells #[.int .u64 0] n) 140)=w3 at *;have HG:w.heap.size<=w.heap.size:=Nat.le_refl _;generalize hg:w.heap.size=g at HG hb1 dn iM ⊢;have jw:=Lib.hid (show acg g n a S w3 0 (List.replicate n 0) w3 from ⟨dn,by simp,iI _,by simp[win,aK];omega,bN.refl _ _⟩);have HX:=Lib.hid hx1;have pg:=Lib.hid iM;have ni:=Lib.hid hb1;have wH:=Lib.hid hg;clear dn hx1 iM hb1 hw3 hmk hg;go_loopw [6,7,13] (fun _ _ t w4=>∃ (k:Nat) (L':List Int),k<=n/\t = .int .i64 k/\acg g n a S w3 k L' w4) (fun _ _ t _=>n-(intOf t).toNat)
 case atStart=>exact⟨0,_,Nat.zero_le _,rfl,jw.out⟩
 case round =>
  obtain⟨k,L',hk,rfl,hI⟩:=hrel;by_cases hlt:k<n
  ·have h1:decide ((k:Int)<(n:Int))=true:=by simp;omega
   obtain⟨ad,rfl,bW⟩:=(HX.out.only hI.only pg.out).2 (by have:=HN.out;omega);have hc2:=bW k (by have:=HN.out;omega);obtain⟨hS,hT,cQ,pz,gL⟩:=HP.out;have aAK:=hI.blk.cell k (by rw[hI.len];omega);have aAL:=hI.blk.free k;obtain⟨s1,s2,s3,s4,s5⟩:=ahg cQ pz gL (by rw[hI.len];omega) hI.lim rW.out hI.val;have e0:lg a k / 2^s=lg a k / S:=by rw[hS]
   have hce:=(hI.blk.set k (lg a k / S)).cell k (by rw[List.length_set,hI.len];omega);rw[cK,if_pos ⟨rfl,by rw[hI.len];omega⟩]at hce
   have hfr:=(hI.blk.set k (lg a k / S)).free k;by_cases hk1:k+1<n
   ·have h2:decide ((k:Int)+1<(n:Int))=true:=by simp;omega
    have hc3:=bW (k+1) (by have:=HN.out;omega);have e1:IntKind.u64.wrap (lg a (k+1)*2^(64-s))=lg a (k+1)*T%B:=by rw[<- hT,IntKind.wrap_u64];rfl
    have e2:bits .or .u64 (lg a k / S) (lg a (k+1)*T%B)=lg a k / S+lg a (k+1)*T%B:=by
     rw[or_comm,Mm _ _ (64-s) s3 s1.1 (by rw[<- hT];exact s1.2.1) s1.2.2 (by rw[<- hT];exact s2),Int.add_comm]
    have aqb:=((HX.out.only (hI.only.set k (.int .u64 (lg a k / S))) pg.out).2 (by have:=HN.out;omega))
    obtain⟨Ac,had,aci⟩:=aqb;cases had;have rY:=aci (k+1) (by have:=HN.out;omega);have HI:=Lib.hid (And.intro (hI.blk.set k (lg a k / S)) (And.intro (hI.only.set k (.int .u64 (lg a k / S))) hI.len));have HCE:=Lib.hid (And.intro hce (And.intro hfr rY));have HST:=Lib.hid (And.intro s4 s5);clear hI bW s1 s2 s3 s4 s5 hS hT cQ pz gL hce hfr hc3 aci rY;have hib:=eq_true (show(k:Int)<(n:Int) by omega);have UF:=eq_true (show(0:Int)<=(k:Int) by omega);have aqc:=eq_true (show(0:Int)<=(k:Int)+1 by omega);have aqd:=eq_true (show(k:Int)+1<(n:Int) by omega);go_wp2
    obtain⟨hce,hfr,rY⟩:=HCE.out;rw[show ad.add (k+1)=⟨ad.block,ad.off+(k+1),none⟩ by simp[Addr.add]]at rY
    generalize wr.setCell ⟨g,k,none⟩ (.int .u64 (lg a k / S))=wr2 at *;have w1:=IntWalk.i64_in ((k:Int)+1) aC;have w2:=IntWalk.i64_in (64-(s:Int)) aC;have w3:((k:Int)+1).toNat=k+1:=by omega
    have w4:(64-(s:Int)).toNat=64-s:=by omega
    have w5:=eq_true (show(0:Int)<=64-(s:Int) by omega);go_still_tail 14,(by kernel_rfl)
    change wpList _ _ _ _ _ wr2.drew;clear hib UF aqc aqd w1 w2 w3 w4 w5;go_wp2
    obtain⟨i1,i2,i3⟩:=HI.out;obtain⟨s4,s5⟩:=HST.out;have hss:=i1.set k (lg a k / S+lg a (k+1)*T%B);rw[List.set_set]at hss
    exact⟨⟨k+1,_,by omega,by go_num,⟨hss,by rw[List.length_set];exact i3,s4,s5,(i2.set _ _).dr⟩⟩,by simp[intOf];omega⟩
   ·have h2:decide ((k:Int)+1<(n:Int))=false:=by simp;omega
    have hz:lg a (k+1)=0:=nK (by have:=HN.out;omega);rw[hz]at s5 s4
    simp only[Int.zero_mul,Int.zero_emod,Int.add_zero]at s4 s5;have HI:=Lib.hid hI;have HST:=Lib.hid (And.intro s4 s5);clear hI bW s1 s2 s3 s4 s5 hS hT cQ pz gL hce hfr;go_wp2
    obtain⟨s4,s5⟩:=HST.out;exact⟨⟨k+1,_,by omega,by go_num,⟨HI.out.blk.set _ _,by rw[List.length_set];exact HI.out.len,s4,by rw[s5,hz];simp,HI.out.only.set _ _⟩⟩,by simp[intOf];omega⟩
  ·have he:k=n:=by omega
   subst he;have h1:decide ((k:Int)<(k:Int))=false:=by simp
   obtain⟨hS,hT,cQ,pz,gL⟩:=HP.out;have hlv:=ah_ cQ gL hI.len HN.out HV.out hI.val;have HF:=Lib.hid hlv;have HR:=Lib.hid (hI.blk.RL (by rw[hI.len];omega));have HI:=Lib.hid hI;clear hI hlv hS hT cQ pz gL;go_wp2_with fail
   refine(ku _ _ _ L' HI.out.len aC _ HR.out).mono ?_;rintro e w7 ⟨rfl,⟨VK,rfl⟩⟩;go_wp2
   go_ret
   exact ahh HI.out.len HR.out HI.out.lim HF.out (by rw[wH.out];exact bN.below ni.out HI.out.only (Nat.le_refl _))
structure Z5 (g n:Nat) (a:List Int) (x:Int) (w:World) (k:Nat) (r:Int) (L:List Int) (w1:World):Prop where
 blk:cO w1 g L
 len:L.length=n
 lim:aG L
 rest:0<=r/\r<x
 val:win L k (n-k)*x+r=win a k (n-k)
 only:∃ nd w2,bN g w w2/\w1=w2.drewN nd
def Z6 (v x:Int) (w:World) (e:Ending) (w':World):Prop:=∃ y q,e = .returned (.tuple #[y,.int .u64 (v%x)])/\pO w' y q/\aG q/\Tr q/\lv q=v / x/\Below w.heap.size w w'
theorem afC {w wr:World} {A:Option Addr} {L:List Int} {n nd:Nat} {v x:Int} (hn:L.length=n) (hr:RL wr A L) (hl:aG L) (hv:lv L=v / x) (hb:Below w.heap.size w wr) :
  Z6 v x w (.returned (.tuple #[.slice A (bl L n) (bl L n),.int .u64 (v%x)])) (wr.drewN nd):=by
 subst hn;exact⟨_,L.take (bl L L.length),rfl,⟨A,_,by rw[fO],by rw[fO];exact Nat.le_refl _,(hr.take _).dI _⟩,hl.take _,kA _,by rw[eo];exact hv,gI hb _⟩
theorem aia (A0:Option Addr) (n c0:Nat) (a:List Int) (x:Int) (hn:a.length=n) (fW:n<=5000) (hx:0<x/\x<B) (w:World) (ha:RL w A0 a) (hla:aG a) :
  Calls Tryz.prog 177 #[.slice A0 n c0,.int .u64 x] w (Z6 (lv a) x w):=by
 have hb1:Below w.heap.size w (w.alloc (.cells (madeCells #[.int .u64 0] n) 140)):=(Below.refl _ _).alloc (Nat.le_refl _) _;have dn:=qY w n;have hx1:=ha.below hb1 (Nat.le_refl _);have iM:0<a.length->∀ ad,A0=some ad->ad.block≠w.heap.size:=fun h ad e=>Nat.ne_of_lt (ha.lt h ad e);have hmk:=qX n aC;have HN:=Lib.hid hn;have rW:=Lib.hid hla;have Pc:=Lib.hid hx;clear hn hla ha hx;go_enter Tryz.func177,Tryz.ntmps177;go_wp2
 generalize hw3:w.alloc (.cells (madeCells #[.int .u64 0] n) 140)=w3 at *;have HG:w.heap.size<=w.heap.size:=Nat.le_refl _;generalize hg:w.heap.size=g at HG hb1 dn iM ⊢;have jw:=Lib.hid (show Z5 g n a x w3 n 0 (List.replicate n 0) w3 from ⟨dn,by simp,iI _,⟨Int.le_refl _,Pc.out.1⟩,by simp[win,aK],0,w3,bN.refl _ _,rfl⟩);have HX:=Lib.hid hx1;have pg:=Lib.hid iM;have ni:=Lib.hid hb1;have wH:=Lib.hid hg;clear dn hx1 iM hb1 hw3 hmk hg;go_loopw [5,6] (fun rv t w4=>∃ (k:Nat) (r:Int) (L':List Int),k<=n/\t = .int .i64 ((k:Int)-1)/\rv = .int .u64 r/\Z5 g n a x w3 k r L' w4) (fun _ t _=>(intOf t+1).toNat)
 case atStart=>exact⟨n,0,_,Nat.le_refl _,rfl,rfl,jw.out⟩
 case round =>
  obtain⟨k,r,L',hk,rfl,rfl,hI⟩:=hrel;cases k with
  | succ k =>
   have h1:decide (0<=((k+1:Nat):Int)-1)=true:=by simp
   have e1:((k+1:Nat):Int)-1=(k:Int):=by omega
   rw[e1]at h1 ⊢
   clear e1;obtain⟨nd,w5,ho,rfl⟩:=hI.only;obtain⟨ad,rfl,bW⟩:=(HX.out.only ho pg.out).2 (by have:=HN.out;omega);have hc2:=bW k (by have:=HN.out;omega);have hblk:cO w5 g L':=hI.blk;have hce:=hblk.cell k (by rw[hI.len];omega);have hfr:=hblk.free k;have hm:n-k=n-(k+1)+1:=by omega
   have hst:=afA (m:=n-(k+1)) Pc.out hI.rest (by rw[hI.len];omega) hI.lim rW.out hI.val;have HD:=Lib.hid (YD r (lg a k) x hI.rest (rW.out k) Pc.out.2);have HST:=Lib.hid hst;have HI:=Lib.hid (And.intro hblk (And.intro hI.len ho));have HM:=Lib.hid hm;have hkn:(k:Int)<(n:Int):=by omega
   clear hI bW hst ho hm hblk;go_wp2_with fail
   refine(HD.out _).mono ?_;rintro e w' ⟨rfl,⟨rX,rfl⟩⟩;go_wp2
   obtain⟨i1,i2,i3⟩:=HI.out;obtain⟨s1,s2,s3,s4⟩:=HST.out;refine⟨⟨k,_,_,by omega,by go_num,rfl,⟨i1.set _ _,by rw[List.length_set];exact i2,s3,s2,by rw[HM.out];exact s4,?_⟩⟩,by simp[intOf]⟩;exact⟨_,_,i3.set _ _,rfl⟩
  | zero =>
   have h1:decide (0<=((0:Nat):Int)-1)=false:=by simp
   obtain⟨nd,w5,ho,rfl⟩:=hI.only;have hval:lv L'=lv a / x/\r=lv a%x:=by
    have h2:=hI.val;have h3:=hI.len;rw[Nat.sub_zero]at h2
    have e1:win L' 0 n=lv L':=by rw[<- h3];exact eH L'
    have e2:win a 0 n=lv a:=by rw[<- HN.out];exact eH a
    rw[e1,e2]at h2
    have:=hI.rest;obtain⟨g1,g2⟩:=RV (U:=lv a) (q:=lv L') Pc.out.1 aC aC;exact⟨g1.symm,by omega⟩
   have HF:=Lib.hid hval;have HR:=Lib.hid (hI.blk.RL (by rw[hI.len];omega));have HI:=Lib.hid (And.intro hI.len (And.intro hI.lim ho));clear hI hval ho;go_wp2_with fail
   refine(ku _ _ _ L' HI.out.1 aC _ HR.out).mono ?_;rintro e w7 ⟨rfl,⟨VK,rfl⟩⟩;go_wp2
   go_ret2
   obtain⟨i1,i2,i3⟩:=HI.out;rw[HF.out.2];exact afC i1 HR.out i2 HF.out.1 (by rw[wH.out];first|exact gI (bN.below ni.out i3 (Nat.le_refl _)) _|exact bN.below ni.out i3 (Nat.le_refl _))
def OB (v d:Int) (w:World) (e:Ending) (w':World):Prop:=∃ x y q r,e = .returned (.tuple #[x,y,.int .i64 0])/\pO w' x q/\pO w' y r/\aG q/\Tr q/\aG r/\Tr r/\lv q=v / d/\lv r=v%d/\Below w.heap.size w w'
theorem div_zero (A0 A1:Option Addr) (n m c0 c1:Nat) (a b:List Int) (hn:a.length=n) (hm:b.length=m) (fW:n<=4000) (jL:m<=4000) (hc0:n<=c0) (hc1:m<=c1) (w:World) (ha:RL w A0 a) (hb:RL w A1 b) (hlb:aG b) (hd:lv b=0) :
  Calls Tryz.prog 166 #[.slice A0 n c0,.slice A1 m c1] w fun e w'=>e = .returned (.tuple #[.slice none 0 0,.slice none 0 0,.int .i64 3])/\Below w.heap.size w w':=by
 have hb0:Below w.heap.size w (w.alloc (.cells #[.slice A0 n c0,.slice A1 m c1] 141)):=(Below.refl _ _).alloc (Nat.le_refl _) _;have jy:=Lib.hid (ha.below hb0 (Nat.le_refl _));have bu:=Lib.hid (hb.below hb0 (Nat.le_refl _));have HN:=Lib.hid hn;have HM:=Lib.hid hm;have h0:bl b m=0:=by
  rw[<- hm,<- fO];have:=gH (kA b) (hlb.take _) (k:=0) (by rw[eo,hd];exact Bp 0);omega
 have H0:=Lib.hid h0;have HS:=Lib.hid hb0;clear ha hb hn hm hlb hd hb0 h0;go_enter Tryz.func166,Tryz.ntmps166;go_wp2_with fail
 refine(BM _ _ _ _ _ _ _ fW jL).mono ?_;rintro e w' ⟨rfl,rfl⟩;go_wp2_with fail
 refine(ku _ _ _ a HN.out hc0 _ jy.out).mono ?_;rintro e w5 ⟨rfl,⟨nd,rfl⟩⟩;go_wp2_with fail
 refine(ku _ _ _ b HM.out hc1 _ (bu.out.dI _)).mono ?_;rintro e w5 ⟨rfl,⟨rX,rfl⟩⟩;rw[H0.out];go_wp2
 go_ret3
 exact⟨rfl,gI HS.out _⟩
theorem alU (w:World) (r:Int):RL (w.alloc (.cells #[.int .u64 r] 140)) (some ⟨w.heap.size,0,none⟩) [r] :=
 ⟨by simp,fun _=>⟨_,rfl,fun j hj=>by
  have:j=0:=by simp at hj;exact hj
  subst this
  simp[Addr.add,go_sem,lg]⟩⟩
theorem pO.below {B:Nat} {w w1:World} {v:Value} {r:List Int} (h:pO w v r) (ho:Below B w w1) (hB:w.heap.size<=B):pO w1 v r:=by
 obtain⟨A,c,rfl,h1,h2⟩:=h;exact⟨A,c,rfl,h1,h2.below ho hB⟩
theorem aib {r:Int} (h:0<=r/\r<B):aG [r]:=fun j=>by
 cases j with
 | zero=>exact h
 | succ j=>rw[nK (by simp)];exact⟨Int.le_refl _,by decide⟩
theorem YE:aG []:=fun j=>by rw[nK (by simp)];exact⟨Int.le_refl _,by decide⟩
theorem afD {w:World} {g m cap:Nat} {l:List Int} (h:cO w g l) (hl:l.length=m) (hm:m<=100000) (hc:m<=cap):pO w (.slice (some ⟨g,0,none⟩) m cap) l :=
 ⟨_,cap,by rw[hl],by rw[hl];exact hc,h.RL aC⟩
theorem afU (w:World):pO w (.slice none 0 0) []:=⟨none,0,rfl,Nat.le_refl _,by simp,fun h=>by simp at h⟩
theorem Ry (A0 A1:Option Addr) (n m c0 c1:Nat) (a b:List Int) (hn:a.length=n) (hm:b.length=m) (fW:n<=4000) (jL:m<=4000) (hc0:n<=c0) (hc1:m<=c1) (w:World) (ha:RL w A0 a) (hb:RL w A1 b) (hla:aG a) (hlb:aG b) (hlt:lv a<lv b) :
  Calls Tryz.prog 166 #[.slice A0 n c0,.slice A1 m c1] w (OB (lv a) (lv b) w):=by
 have hb0:Below w.heap.size w (w.alloc (.cells #[.slice A0 n c0,.slice A1 m c1] 141)):=(Below.refl _ _).alloc (Nat.le_refl _) _;have jy:=Lib.hid (ha.below hb0 (Nat.le_refl _));have bu:=Lib.hid (hb.below hb0 (Nat.le_refl _));have HN:=Lib.hid hn;have HM:=Lib.hid hm;have j7:=kI (hla.take (bl a a.length)) (hlb.take (bl b b.length)) (kA a) (kA b);rw[eo,eo,fO,fO,hn,hm,xm hlt]at j7
 have hpl:=fO a;have iz:=fO b;have h0:bl b m≠0:=by
  intro h;rw[hm,h]at iz
  have h1:=eo b;rw[hm,h]at h1
  have:=(dw hla).1;simp[mX]at h1
  omega
 have h0b:((bl b m:Int)==0)=false:=beq_eq_false_iff_ne.mpr aC;have kM:lv (a.take (bl a n))=lv a:=by rw[<- hn];exact eo a
 have EI:Tr (a.take (bl a n)):=by rw[<- hn];exact kA a
 rw[hn]at hpl
 rw[hm]at iz
 have Hy:=qb a n;have HP:=Lib.hid hpl;have HQ:=Lib.hid iz;have HO:=Lib.hid j7;have HS:=Lib.hid hb0;have HF:=Lib.hid (And.intro kM (And.intro EI (And.intro (hla.take (bl a n)) (And.intro (dw hla).1 hlt))));clear ha hb hn hm hla hlb hpl iz hb0 j7 hlt h0 kM EI;go_enter Tryz.func166,Tryz.ntmps166;go_wp2_with fail
 refine(BM _ _ _ _ _ _ _ fW jL).mono ?_;rintro e w' ⟨rfl,rfl⟩;go_wp2_with fail
 refine(ku _ _ _ a HN.out hc0 _ jy.out).mono ?_;rintro e w5 ⟨rfl,⟨nd,rfl⟩⟩;go_wp2_with fail
 refine(ku _ _ _ b HM.out hc1 _ (bu.out.dI _)).mono ?_;rintro e w5 ⟨rfl,⟨rX,rfl⟩⟩;go_wp2_with fail
 refine(Da _ _ _ _ _ _ _ _ HP.out HQ.out _ ((jy.out.take _).dI _) ((bu.out.take _).dI _)).mono ?_;rintro e w5 ⟨rfl,⟨Cm,rfl⟩⟩;rw[HO.out];go_wp2_with (at_builtin;refine YC rfl (.tmp 34) (.tmp 35) rfl _ (w.heap.size+1) (bl a n) (bl a n) A0 (a.take (bl a n)) rfl rfl ?_ HP.out aC ?_ ?_;exact Xx _ _ _ (by simp);exact((jy.out.take _).dI _).below ((Below.refl _ _).alloc (Nat.le_refl _) _) (Nat.le_refl _);intro g cap w2 hk hg hb2 hcap)
 go_ret3
 obtain⟨f1,f2,f3,f4,f5⟩:=HF.out;have hb3:Below w.heap.size w w2:=(gI HS.out (nd+rX+Cm)).trans ((((Below.refl _ _).alloc (by simp) _).trans hb2).mono aC);exact⟨_,_,[],_,rfl,afU _,afD hk HP.out aC hcap,YE,.inl rfl,f3,f2,by rw[mX,Int.ediv_eq_zero_of_lt f4 f5],by rw[f1,Int.emod_eq_of_lt f4 f5],hb3⟩
theorem div_one (A0 A1:Option Addr) (n m c0 c1:Nat) (a b:List Int) (hn:a.length=n) (hm:b.length=m) (fW:n<=4000) (jL:m<=4000) (hc0:n<=c0) (hc1:m<=c1) (w:World) (ha:RL w A0 a) (hb:RL w A1 b) (hla:aG a) (hlb:aG b)
  (hle:lv b<=lv a) (h1:bl b m=1) :
  Calls Tryz.prog 166 #[.slice A0 n c0,.slice A1 m c1] w (OB (lv a) (lv b) w):=by
 have hb0:Below w.heap.size w (w.alloc (.cells #[.slice A0 n c0,.slice A1 m c1] 141)):=(Below.refl _ _).alloc (Nat.le_refl _) _;have jy:=Lib.hid (ha.below hb0 (Nat.le_refl _));have hb1:=hb.below hb0 (Nat.le_refl _);have bu:=Lib.hid hb1;have HN:=Lib.hid hn;have HM:=Lib.hid hm;have j7:=kI (hla.take (bl a a.length)) (hlb.take (bl b b.length)) (kA a) (kA b);rw[eo,eo,fO,fO,hn,hm]at j7
 have h2:decide (dN (lv a) (lv b)<0)=false:=by
  rcases sA (lv a) (lv b) with ⟨h,hc⟩|⟨h,hc⟩|⟨h,hc⟩ <;> rw[hc] <;> first|rfl|omega
 rw[<- j7]at h2
 have hpl:=fO a;have iz:=fO b;rw[hn]at hpl
 rw[hm]at iz
 have kM:lv (a.take (bl a n))=lv a:=by rw[<- hn];exact eo a
 have tV:lv (b.take (bl b m))=lv b:=by rw[<- hm];exact eo b
 have htb:Tr (b.take (bl b m)):=by rw[<- hm];exact kA b
 have Hy:=qb a n;have Ag:=qb b m;have UG:=hlb.take (bl b m);rw[h1]at iz tV htb UG h2
 have hb2:=hb1.take 1;generalize hy:b.take 1=y at *;have hy0:lv y=lg y 0:=by unfold lv;rw[iz];simp[aK]
 have hyp:0<lg y 0/\lg y 0<B:=by
  have:=UG 0;rcases htb with h|h
  ·omega
  ·rw[iz]at h
   exact⟨by have:lg y 0≠0:=h;omega,this.2⟩
 obtain⟨bd,rfl,hcb⟩:=hb2.2 aC;have hcb0:=hcb 0 aC;have aAM:(w.alloc (.cells #[.slice A0 n c0,.slice (some bd) m c1] 141)).cell? bd=some (.int .u64 (lg y 0)):=hcb0;have HP:=Lib.hid hpl;have HQ:=Lib.hid iz;have HO:=Lib.hid h2;have H1:=Lib.hid h1;have HS:=Lib.hid hb0;have HY:=Lib.hid hb2;have HF:=Lib.hid (And.intro kM (And.intro (hla.take (bl a n)) (And.intro (tV.symm.trans hy0) hyp)));clear ha hb hn hm hla hlb hpl iz hb0 j7 h2 kM tV htb UG hy hy0 hyp h1 hb2 hcb hcb0 hb1;go_enter Tryz.func166,Tryz.ntmps166;go_wp2_with fail
 refine(BM _ _ _ _ _ _ _ fW jL).mono ?_;rintro e w' ⟨rfl,rfl⟩;go_wp2_with fail
 refine(ku _ _ _ a HN.out hc0 _ jy.out).mono ?_;rintro e w5 ⟨rfl,⟨nd,rfl⟩⟩;go_wp2_with fail
 refine(ku _ _ _ b HM.out hc1 _ (bu.out.dI _)).mono ?_;rintro e w5 ⟨rfl,⟨rX,rfl⟩⟩;rw[H1.out];go_wp2_with fail
 refine(Da _ _ _ _ _ _ _ y HP.out HQ.out _ ((jy.out.take _).dI _) (HY.out.dI _)).mono ?_;rintro e w5 ⟨rfl,⟨Cm,rfl⟩⟩;have Cr:=HO.out;go_wp2_with fail
 refine(aia A0 _ _ _ (lg y 0) HP.out aC HF.out.2.2.2 _ ((jy.out.take _).dI _) HF.out.2.1).mono ?_;rintro e w5 ⟨u,qq,rfl,hq1,H7,xS,Ag,Pd⟩;obtain⟨f1,f2,f3,f4⟩:=HF.out;have fZ:0<=lv (a.take (bl a n))%lg y 0:=Int.emod_nonneg _ aC;have hr1:lv (a.take (bl a n))%lg y 0<lg y 0:=Int.emod_lt_of_pos _ f4.1;rw[f1]at fZ hr1 Ag ⊢
 rw[<- f3]at fZ hr1 Ag f4 ⊢
 generalize Pe:lv a%lv b=rr at *;have HQ1:=Lib.hid (And.intro hq1 (And.intro H7 (And.intro xS (And.intro Ag (And.intro Pd Pe)))));have HR:=Lib.hid (alU w5 rr);have HL:=Lib.hid (aib (r:=rr) ⟨fZ,by omega⟩);clear hq1 H7 xS Ag Pd f1 f2 f3 f4 fZ hr1 Pe;go_wp2_with fail
 refine(ku _ 1 _ [rr] rfl (Nat.le_refl _) _ HR.out).mono ?_;rintro e w6 ⟨rfl,⟨nd6,rfl⟩⟩;go_wp2
 go_ret3
 obtain⟨hq1,H7,xS,Ag,Pd,Pe⟩:=HQ1.out;have cL:Below w5.heap.size w5 ((w5.alloc (.cells #[.int .u64 rr] 140)).drewN nd6):=gI ((Below.refl _ _).alloc (Nat.le_refl _) _) _;have htr:=kA [rr];have hlv:=eo [rr];have hlen:=fO [rr];refine⟨_,_,qq,[rr].take (bl [rr] 1),rfl,hq1.below cL (Nat.le_refl _),⟨_,_,by rw[show(1:Nat)=[rr].length from rfl,hlen];rfl,by rw[show(1:Nat)=[rr].length from rfl,hlen];exact Nat.le_refl _,(HR.out.take _).dI _⟩,H7,xS,HL.out.take _,htr,Ag,?_,?_⟩
 ·rw[Pe]
  refine hlv.trans ?_;simp[lv,aK,lg]
 ·have hx:Below w.heap.size w w5:=(gI HS.out _).trans (Pd.mono (by simp))
  exact hx.trans (cL.mono hx.size)
end Go.Proofs.YtcmepkhjggpmeaaGreat
