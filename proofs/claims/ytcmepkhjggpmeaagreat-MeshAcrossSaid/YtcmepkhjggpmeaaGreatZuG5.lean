import Derived.Test.YtcmepkhjggpmeaaGreatZuG0
import Derived.Lib.Mul64
import Derived.Laws.Bits64b
set_option linter.all false
set_option maxRecDepth 100000
set_option maxHeartbeats 8000000
namespace Go.Proofs.YtcmepkhjggpmeaaGreat
open Go.RowKit aP Go.Lib
namespace qH
theorem maskN (a:Nat) (ha:a<18446744073709551616):bits .and .u64 (a:Int) 4294967295=((a%4294967296:Nat):Int):=by
 have h:=bits_and_u64_nat a 4294967295 ha aC;have e:a &&& 4294967295=a%4294967296:=Nat.and_two_pow_sub_one_eq_mod a 32;rw[e]at h
 exact h
theorem divN (a:Nat):(a:Int) / 4294967296=((a / 4294967296:Nat):Int):=by omega
theorem mulN (a b:Nat):(a:Int)*(b:Int)=((a*b:Nat):Int):=(Int.natCast_mul a b).symm
theorem addN (a b:Nat):(a:Int)+(b:Int)=((a+b:Nat):Int):=(Int.natCast_add a b).symm
theorem wrapN (a:Nat) (ha:a<18446744073709551616):IntKind.u64.wrap (a:Int)=(a:Int):=by rw[IntKind.wrap_u64];omega
theorem wrapM (a:Nat):IntKind.u64.wrap (a:Int)=((a%18446744073709551616:Nat):Int):=by rw[IntKind.wrap_u64];omega
end qH
theorem ah7 (x y:Nat) (hx:x<18446744073709551616) (hy:y<18446744073709551616) (w:World) :
  Calls Tryz.prog 173 #[.int .u64 x,.int .u64 y] w fun e w'=>e = .returned (.tuple #[.int .u64 ((x*y / 18446744073709551616:Nat):Int),.int .u64 ((x*y%18446744073709551616:Nat):Int)])/\w'=w:=by
 obtain⟨bd,bt,bw,hhi⟩:=Lib.mul64_hi x y hx hy;have ba:=Lib.half_mul_le (a:=x / 4294967296) (b:=y / 4294967296) aC aC;have bb:=Lib.half_mul_le (a:=x / 4294967296) (b:=y%4294967296) aC aC;have bc:=Lib.half_mul_le (a:=x%4294967296) (b:=y / 4294967296) aC aC;have ba':x / 4294967296*(y / 4294967296)<18446744073709551616:=by omega
 have bb':x / 4294967296*(y%4294967296)<18446744073709551616:=by omega
 have bc':x%4294967296*(y / 4294967296)<18446744073709551616:=by omega
 have bh1:x / 4294967296*(y / 4294967296)+(x / 4294967296*(y%4294967296)+x%4294967296*(y%4294967296) / 4294967296) / 4294967296<18446744073709551616:=by omega
 have bh:x / 4294967296*(y / 4294967296)+(x / 4294967296*(y%4294967296)+x%4294967296*(y%4294967296) / 4294967296) / 4294967296+((x / 4294967296*(y%4294967296)+x%4294967296*(y%4294967296) / 4294967296)%4294967296+x%4294967296*(y / 4294967296)) / 4294967296<18446744073709551616:=by omega
 go_enter Tryz.func173,Tryz.ntmps173;go_wp2
 simp only[qH.maskN x hx,qH.maskN y hy,qH.divN,qH.mulN,qH.addN,qH.wrapN _ bd,qH.wrapN _ bb',qH.wrapN _ bt,qH.maskN _ bt,qH.wrapN _ bc',qH.wrapN _ bw,qH.wrapN _ ba',qH.wrapN _ bh1,qH.wrapN _ bh,qH.wrapM (x*y)];rw[hhi];go_ret2
 exact⟨rfl,rfl⟩
theorem ah8 (x y:Int) (hx:0<=x/\x<B) (hy:0<=y/\y<B) (w:World) :
  Calls Tryz.prog 173 #[.int .u64 x,.int .u64 y] w fun e w'=>e = .returned (.tuple #[.int .u64 (x*y / B),.int .u64 (x*y%B)])/\w'=w:=by
 obtain⟨x,rfl⟩:=Int.eq_ofNat_of_zero_le hx.1;obtain⟨y,rfl⟩:=Int.eq_ofNat_of_zero_le hy.1;rw[B_eq]at *
 have h:=ah7 x y aC aC w;rw[Int.natCast_ediv,Int.natCast_emod,Int.natCast_mul]at h
 exact h
theorem bR (a:Int) (h:0<=a/\a<B):IntKind.u64.wrap a=a:=by rw[IntKind.wrap_u64];rw[B_eq]at h;omega
def amI (g o n:Nat) (L l:List Int) (x:Int) (w:World) (e:Ending) (w':World):Prop:=∃ L' c,e = .returned (.int .u64 c)/\cO w' g L'/\L'.length=L.length/\aG L'/\(∀ j,(j<o\/o+n<=j)->lg L' j=lg L j)/\(0<=c/\c<B)/\win L' o n+c*B^n=win L o n+x*aK (lg l) n/\bN g w w'
structure aaD (g o:Nat) (L l:List Int) (x:Int) (w:World) (k:Nat) (c:Int) (L':List Int) (w1:World):Prop where
 blk:cO w1 g L'
 len:L'.length=L.length
 lim:aG L'
 Ad:∀ j,(j<o\/o+k<=j)->lg L' j=lg L j
 xR:0<=c/\c<B
 val:win L' o k+c*B^k=win L o k+x*aK (lg l) k
 only:bN g w w1
theorem Xo (g o n c0:Nat) (L:List Int) (A1:Option Addr) (c1:Nat) (l:List Int) (x:Int) (hm:l.length=n) (w:World) (hB:cO w g L) (hL:aG L) (ho:o+n<=L.length)
  (hl:RL w A1 l) (hlim:aG l) (hne:0<l.length->∀ ad,A1=some ad->ad.block≠g) (hx:0<=x/\x<B) :
  Calls Tryz.prog 165 #[.slice (some ⟨g,o,none⟩) n c0,.slice A1 n c1,.int .u64 x] w (amI g o n L l x w):=by
 have hm2:n<=9223372036854775807:=by have:=hl.1;omega
 have H0:aaD g o L l x w 0 0 L w:=⟨hB,rfl,hL,fun _ _=>rfl,⟨Int.le_refl _,by decide⟩,by simp[win,aK],bN.refl _ _⟩
 have HM:=Lib.hid hm;have HO:=Lib.hid ho;have HL:=Lib.hid hl;have BV:=Lib.hid hlim;have wD:=Lib.hid hne;have HX:=Lib.hid hx;clear hm hB hL ho hl hlim hne hx;go_enter Tryz.func165,Tryz.ntmps165;go_wp2
 go_loopw [7,8,9,10,11,12,15] (fun cv _ _ _ _ _ t w1=>∃ (k:Nat) (c:Int) (L':List Int),k<=n/\t = .int .i64 k/\cv = .int .u64 c/\aaD g o L l x w k c L' w1) (fun _ _ _ _ _ _ t _=>n-(intOf t).toNat)
 case atStart=>exact⟨0,0,L,Nat.zero_le _,rfl,rfl,H0⟩
 case round =>
  clear H0;obtain⟨k,c,L',hk,rfl,rfl,hI⟩:=hrel;have HI:=Lib.hid hI;by_cases hlt:k<n
  ·have hc:=hI.blk.cell (o+k) (by rw[hI.len];have:=HO.out;omega)
   have hf:=hI.blk.free (o+k);obtain⟨m1,m2,m3,m4,m5,m6⟩:=mul_one HX.out (BV.out k) (hI.lim (o+k)) hI.xR;have hS:=mL (o:=o) (L:=L) (by rw[hI.len];have:=HO.out;omega) hI.lim BV.out hI.Ad HX.out hI.xR hI.val m4 m6;have h1:decide ((k:Int)<(n:Int))=true:=by simp;omega
   obtain⟨ad,rfl,bW⟩:=(HL.out.only hI.only wD.out).2 (by have:=HM.out;omega);have hc2:=bW k (by have:=HM.out;omega);have To:=Qm (x*lg l k%B) (lg L' (o+k)) 0 m1 (hI.lim _) (Or.inl rfl);have aw2:=Qm (fE (x*lg l k%B) (lg L' (o+k)) 0) c 0 m2 hI.xR (Or.inl rfl);have HS:=Lib.hid hS;have M3:=Lib.hid m3;have M5:=Lib.hid m5;clear hS hI bW m1 m2 m3 m4 m5 m6;go_wp2_with (go_at_call 173;refine(ah8 x (lg l k) HX.out (BV.out k) _).mono ?_;rintro e w' ⟨rfl,rfl⟩)
   have jK:=HI.out;obtain⟨s1,s2,s4⟩:=HS.out;have W1:=bR _ M3.out;have W2:=bR _ M5.out;refine⟨⟨k+1,_,_,by omega,by go_num,?_,⟨jK.blk.set _ _,by rw[List.length_set];exact jK.len,s1,s2,M5.out,s4,jK.only.set _ _⟩⟩,by simp[intOf];omega⟩;rw[W1,W2]
  ·have he:k=n:=by omega
   subst he;have h1:decide ((k:Int)<(k:Int))=false:=by simp
   go_wp2
   go_ret
   exact⟨L',c,rfl,hI.blk,hI.len,hI.lim,hI.Ad,hI.xR,hI.val,hI.only⟩
end Go.Proofs.YtcmepkhjggpmeaaGreat
namespace Go.Proofs.YtcmepkhjggpmeaaGreat.aP
structure tP (cG U1 Y Y1 Y0:Int):Prop where
 y:Y=Y1*4294967296+Y0
 y0:0<=Y0/\Y0<4294967296
 y1:2147483648<=Y1/\Y1<4294967296
 u:0<=cG/\cG<Y
 u1:0<=U1/\U1<4294967296
structure q_ (cG U1 Y Y1 q r:Int):Prop where
 e:q*Y1+r=cG
 r0:0<=r
 le:(cG*4294967296+U1) / Y<=q
 q0:0<=q
 q1:q<=8589934592
variable {cG U1 Y Y1 Y0 q r:Int}
theorem tP.pos (h:tP cG U1 Y Y1 Y0):0<Y:=by
 have h1:=h.y;have h2:=h.y0;have h3:=h.y1;omega
theorem tP.quo (h:tP cG U1 Y Y1 Y0):0<=(cG*4294967296+U1) / Y :=
 Int.ediv_nonneg (by have:=h.u;have:=h.u1;omega) (by have:=h.pos;omega)
theorem tP.start (h:tP cG U1 Y Y1 Y0):q_ cG U1 Y Y1 (cG / Y1) (cG%Y1)/\cG%Y1<4294967296:=by
 have h1:=h.y1;have h2:=h.u;have h3:=h.y0;have hy:=h.y;have hd:Y1*(cG / Y1)+cG%Y1=cG:=Int.mul_ediv_add_emod _ _;have hm0:0<=cG%Y1:=Int.emod_nonneg _ (by omega);have hm1:cG%Y1<Y1:=Int.emod_lt_of_pos _ (by omega);have KP:0<=cG / Y1:=Int.ediv_nonneg h2.1 (by omega);refine⟨⟨by rw[Int.mul_comm];exact hd,hm0,?_,KP,?_⟩,by omega⟩
 ·apply Int.le_ediv_of_mul_le (by omega)
  have hp:=h.pos;have hn:(cG*4294967296+U1) / Y*Y<=cG*4294967296+U1:=Int.ediv_mul_le _ (by omega);have hq:=h.quo;generalize (cG*4294967296+U1) / Y=Q at *;have h5:Q*Y=Q*Y1*4294967296+Q*Y0:=by rw[hy];grind
  have h6:0<=Q*Y0:=Int.mul_nonneg hq h3.1;have h7:=h.u1;rw[h5]at hn
  generalize Q*Y1=z at *;omega
 ·apply Int.le_of_lt_add_one
  apply Int.ediv_lt_of_lt_mul (by omega);have:(4294967296*2+1)*2147483648<=(8589934592+1)*Y1:=Int.mul_le_mul (by omega) h1.1 (by omega) (by omega);omega
theorem q_.step (h:tP cG U1 Y Y1 Y0) (i:q_ cG U1 Y Y1 q r) (hr:r<4294967296) (ht:4294967296<=q\/4294967296*r+U1<q*Y0):q_ cG U1 Y Y1 (q-1) (r+Y1):=by
 have h1:=h.y1;have h2:=h.u;have h3:=h.y0;have h4:=h.u1;have hlt:cG*4294967296+U1<q*Y:=by
  rcases ht with ht|ht
  ·have:4294967296*Y<=q*Y:=Int.mul_le_mul_of_nonneg_right ht (by omega)
   omega
  ·have e1:q*Y=q*Y1*4294967296+q*Y0:=by rw[h.y];grind
   have e2:=i.e;rw[e1];generalize q*Y1=z at *;omega
 have hle:(cG*4294967296+U1) / Y<q:=Int.ediv_lt_of_lt_mul h.pos hlt;have hq:=h.quo;refine⟨?_,by have:=i.r0;omega,by omega,by omega,by have:=i.q1;omega⟩;have e2:=i.e;have:(q-1)*Y1=q*Y1-Y1:=by grind
 omega
theorem q_.exit (h:tP cG U1 Y Y1 Y0) (i:q_ cG U1 Y Y1 q r) (ht:q*Y0<=4294967296*r+U1):q=(cG*4294967296+U1) / Y:=by
 have hle:q<=(cG*4294967296+U1) / Y:=by
  apply Int.le_ediv_of_mul_le h.pos;have e1:q*Y=q*Y1*4294967296+q*Y0:=by rw[h.y];grind
  have e2:=i.e;rw[e1];generalize q*Y1=z at *;omega
 have:=i.le;omega
theorem q_.NT (h:tP cG U1 Y Y1 Y0) (i:q_ cG U1 Y Y1 q r) (hr:4294967296<=r):q=(cG*4294967296+U1) / Y:=by
 have h1:=h.y1;have h2:=h.u;have h3:=h.y0;have h4:=h.u1;have hy:=h.y;have hq:q<4294967296:=by
  apply Int.lt_of_not_ge;intro hge;have:4294967296*Y1<=q*Y1:=Int.mul_le_mul_of_nonneg_right hge (by omega);have:=i.e;omega
 apply i.exit h;have:=i.q0;have:q*Y0<=4294967295*4294967295:=Int.mul_le_mul (by omega) (by omega) h3.1 (by omega);omega
theorem Ma (h:tP cG U1 Y Y1 Y0) (i:q_ cG U1 Y Y1 q r) (hr:r<4294967296):(q<4294967296->0<=q*Y0/\q*Y0<B)/\(0<=q*Y1/\q*Y1<B)/\(0<=4294967296*r/\4294967296*r<B)/\(0<=4294967296*r+U1/\4294967296*r+U1<B)/\(0<=r+Y1/\r+Y1<B):=by
 have h1:=h.y1;have h2:=h.u;have h3:=h.y0;have h4:=h.u1;have hy:=h.y;have:=i.q0;have:=i.r0;have e:=i.e;rw[B_eq];refine⟨fun hq=>⟨Int.mul_nonneg (by omega) (by omega),?_⟩,⟨Int.mul_nonneg (by omega) (by omega),by omega⟩,by omega,by omega,by omega⟩;have:q*Y0<=4294967295*4294967295:=Int.mul_le_mul (by omega) (by omega) h3.1 (by omega);omega
theorem XM (h:tP cG U1 Y Y1 Y0):let Q:=(cG*4294967296+U1) / Y;0<=cG*4294967296+U1-Q*Y/\cG*4294967296+U1-Q*Y<Y/\Q<4294967296:=by
 intro Q;have hp:=h.pos;have h2:=h.u;have h4:=h.u1;have e:Y*Q+(cG*4294967296+U1)%Y=cG*4294967296+U1:=Int.mul_ediv_add_emod _ _;have m0:0<=(cG*4294967296+U1)%Y:=Int.emod_nonneg _ (by omega);have m1:(cG*4294967296+U1)%Y<Y:=Int.emod_lt_of_pos _ hp;have e2:Q*Y=Y*Q:=Int.mul_comm _ _;refine⟨by omega,by omega,?_⟩;apply Int.ediv_lt_of_lt_mul hp;omega
theorem Qk {lo S T:Int} (hS:0<S) (hT:0<T) (gL:S*T=B) (h0:0<=lo/\lo<B):lo*S=lo / T*B+lo*S%B/\0<=lo / T/\lo / T<S:=by
 have hB:0<B:=by decide
 have e:lo*S / B=lo / T:=by
  rw[<- gL,Int.mul_comm lo S,Int.mul_ediv_mul_of_pos _ _ hS]
 have h1:B*(lo*S / B)+lo*S%B=lo*S:=Int.mul_ediv_add_emod _ _;rw[e]at h1
 refine⟨by rw[Int.mul_comm (lo / T)];omega,Int.ediv_nonneg h0.1 (by omega),?_⟩;apply Int.ediv_lt_of_lt_mul hT;rw[gL];exact h0.2
theorem RV {U y q:Int} (hy:0<y) (h1:q*y<=U) (h2:U<q*y+y):U / y=q/\U%y=U-q*y:=by
 have a1:q<=U / y:=Int.le_ediv_of_mul_le hy h1;have a2:U / y<q+1:=Int.ediv_lt_of_lt_mul hy (by have:(q+1)*y=q*y+y:=(by grind);omega);have e:U / y=q:=by omega
 refine⟨e,?_⟩;have:y*(U / y)+U%y=U:=Int.mul_ediv_add_emod _ _;rw[e,Int.mul_comm]at this
 omega
theorem aft {hi lo y S cG U1 U0 Q1 Q0 R:Int} (hS:0<S) (hy:0<y) (hU:(hi*B+lo)*S=(cG*4294967296+U1)*4294967296+U0)
  (hR:R=(cG*4294967296+U1-Q1*(y*S))*4294967296+U0-Q0*(y*S)) (hR0:0<=R) (hR1:R<y*S) :
  (hi*B+lo) / y=Q1*4294967296+Q0/\(hi*B+lo)%y=R / S:=by
 generalize hi*B+lo=U at *;generalize cG*4294967296+U1=N at *;have e1:R=(U-(Q1*4294967296+Q0)*y)*S:=by rw[hR];grind
 generalize Q1*4294967296+Q0=q at *;have g1:0<=U-q*y:=by
  apply Int.le_of_not_gt;intro hlt;have:(U-q*y)*S<=(-1)*S:=Int.mul_le_mul_of_nonneg_right (by omega) (by omega);omega
 have g2:U-q*y<y:=by
  apply Int.lt_of_not_ge;intro hge;have:y*S<=(U-q*y)*S:=Int.mul_le_mul_of_nonneg_right hge (by omega);omega
 obtain⟨h1,h2⟩:=RV (U:=U) (q:=q) hy (by omega) (by omega);refine⟨h1,?_⟩;rw[h2,e1,Int.mul_ediv_cancel _ (by omega)]
theorem ahf {L a:List Int} {k:Nat} {S T:Int} (hS:0<S) (hT:0<T) (gL:S*T=B) (hk:k+1<L.length) (hL:aG L) (ha:aG a)
  (Hg:lg L k<S) (hz:∀ j,k<j->lg L j=0) (hv:win L 0 (k+1)=S*aK (lg a) k) :
  let x:=lg a k;let L2:=(L.set k (lg L k+x*S%B)).set (k+1) (x / T)
  (0<=lg L k+x*S%B/\lg L k+x*S%B<B)/\aG L2/\lg L2 (k+1)<S/\(∀ j,k+1<j->lg L2 j=0)/\win L2 0 (k+1+1)=S*aK (lg a) (k+1):=by
 intro x L2;obtain⟨p1,p2,p3⟩:=Qk hS hT gL (ha k);have hB:0<B:=by decide
 have r0:0<=x*S%B:=Int.emod_nonneg _ (by omega);have r1:x*S%B<B:=Int.emod_lt_of_pos _ hB;have rm:x*S%B%S=0:=by
  rw[<- gL,Int.emod_emod_of_dvd _ (Int.dvd_mul_right S T)];exact Int.mul_emod_left _ _
 have l0:=(hL k).1;have hsum:lg L k+x*S%B<B:=by
  have e1:S*(x*S%B / S)+x*S%B%S=x*S%B:=Int.mul_ediv_add_emod _ _;rw[rm]at e1
  generalize x*S%B / S=z at *;have:z<T:=by
   apply Int.lt_of_not_ge;intro hge;have:S*T<=S*z:=Int.mul_le_mul_of_nonneg_left hge (by omega);omega
  have:S*(z+1)<=S*T:=Int.mul_le_mul_of_nonneg_left (by omega) (by omega);have:S*(z+1)=S*z+S:=by grind
  omega
 have hxT:0<=x / T/\x / T<B:=by
  refine⟨p2,?_⟩;have:S*1<=S*T:=Int.mul_le_mul_of_nonneg_left (by omega) (by omega);show lg a k / T<B;omega
 refine⟨⟨by omega,hsum⟩,(hL.set _ ⟨by omega,hsum⟩).set _ hxT,?_,?_,?_⟩
 ·show lg ((L.set k _).set (k+1) _) (k+1)<S
  rw[cK,if_pos ⟨rfl,by rw[List.length_set];exact hk⟩];exact p3
 ·intro j hj
  show lg ((L.set k _).set (k+1) _) j=0;rw[cK,if_neg (by omega),cK,if_neg (by omega)];exact hz j (by omega)
 ·have e1:win L2 0 k=win L 0 k:=fH fun j hj=>by
   show lg ((L.set k _).set (k+1) _) _=_;rw[cK,if_neg (by omega),cK,if_neg (by omega)]
  have e2:lg L2 (0+k)=lg L k+x*S%B:=by
   show lg ((L.set k _).set (k+1) _) _=_;rw[cK,if_neg (by omega),cK,if_pos ⟨by omega,by omega⟩]
  have e3:lg L2 (0+(k+1))=x / T:=by
   show lg ((L.set k _).set (k+1) _) _=_;rw[cK,if_pos ⟨by omega,by rw[List.length_set];exact hk⟩]
  rw[ez,ez,e1,e2,e3,Bs];rw[ez,Nat.zero_add]at hv
  show win L 0 k+(lg L k+x*S%B)*B^k+x / T*(B^k*B)=S*(aK (lg a) k+x*B^k);have p1':x*S=x / T*B+x*S%B:=p1;generalize x*S%B=u at *;generalize x / T=v at *;generalize B^k=P at *;generalize aK (lg a) k=q at *;generalize win L 0 k=p at *;generalize lg L k=l at *;have e4:S*(q+x*P)=S*q+x*S*P:=by grind
  rw[e4,<- hv,p1'];grind
theorem ahg {L a:List Int} {k:Nat} {S T c:Int} (hS:0<S) (hT:0<T) (gL:S*T=B) (hk:k<L.length) (hL:aG L) (ha:aG a)
  (hv:win L 0 k*S=aK (lg a) k-c+lg a k%S*B^k) :
  let d:=lg a k / S+lg a (k+1)*T%B;let L2:=L.set k d
  (0<=lg a k / S/\lg a k / S<T/\lg a k / S<B)/\lg a (k+1)*T%B%T=0/\(0<=lg a (k+1)*T%B/\lg a (k+1)*T%B<B)/\aG L2/\win L2 0 (k+1)*S=aK (lg a) (k+1)-c+lg a (k+1)%S*B^(k+1):=by
 intro d L2;have VL:T*S=B:=by rw[Int.mul_comm];exact gL
 obtain⟨p1,p2,p3⟩:=Qk hT hS VL (ha (k+1));have hB:0<B:=by decide
 have r0:0<=lg a (k+1)*T%B:=Int.emod_nonneg _ (by omega);have r1:lg a (k+1)*T%B<B:=Int.emod_lt_of_pos _ hB;have rm:lg a (k+1)*T%B%T=0:=by
  rw[<- VL,Int.emod_emod_of_dvd _ (Int.dvd_mul_right T S)];exact Int.mul_emod_left _ _
 have q0:0<=lg a k / S:=Int.ediv_nonneg (ha k).1 (by omega);have q1:lg a k / S<T:=by
  apply Int.ediv_lt_of_lt_mul hS;rw[VL];exact(ha k).2
 have hTB:T<=B:=by
  have:T*1<=T*S:=Int.mul_le_mul_of_nonneg_left (by omega) (by omega);omega
 have hsum:d<B:=by
  have e1:T*(lg a (k+1)*T%B / T)+lg a (k+1)*T%B%T=lg a (k+1)*T%B:=Int.mul_ediv_add_emod _ _;rw[rm]at e1
  show lg a k / S+lg a (k+1)*T%B<B;generalize lg a (k+1)*T%B / T=z at *;have:z<S:=by
   apply Int.lt_of_not_ge;intro hge;have:T*S<=T*z:=Int.mul_le_mul_of_nonneg_left hge (by omega);omega
  have:T*(z+1)<=T*S:=Int.mul_le_mul_of_nonneg_left (by omega) (by omega);have:T*(z+1)=T*z+T:=by grind
  omega
 refine⟨⟨q0,q1,by omega⟩,rm,⟨r0,r1⟩,hL.set _ ⟨by omega,hsum⟩,?_⟩;have e1:S*(lg a k / S)+lg a k%S=lg a k:=Int.mul_ediv_add_emod _ _;have e2:S*(lg a (k+1) / S)+lg a (k+1)%S=lg a (k+1):=Int.mul_ediv_add_emod _ _;have f1:win L2 0 k=win L 0 k:=fH fun j hj=>by
  show lg (L.set k _) _=_;rw[cK,if_neg (by omega)]
 have f2:lg L2 (0+k)=d:=by
  show lg (L.set k _) _=_;rw[cK,if_pos ⟨by omega,hk⟩]
 rw[ez,f1,f2,Bs];show(win L 0 k+(lg a k / S+lg a (k+1)*T%B)*B^k)*S=aK (lg a) k+lg a k*B^k-c+_;have e3:lg a (k+1)*T%B=lg a (k+1)*T-lg a (k+1) / S*B:=by omega
 rw[e3];generalize lg a k%S=m0 at *;generalize lg a (k+1)%S=m1 at *;generalize lg a k / S=d0 at *;generalize lg a (k+1) / S=d1 at *;generalize lg a k=x at *;generalize lg a (k+1)=y at *;generalize B^k=P at *;generalize win L 0 k=W at *;generalize aK (lg a) k=Q at *;have hx:x=S*d0+m0:=by omega
 have hy:y=S*d1+m1:=by omega
 have e4:(W+(d0+(y*T-d1*B))*P)*S=W*S+(d0*S)*P+(y*(S*T)-d1*B*S)*P:=by grind
 rw[e4,hv,gL,hx,hy];grind
theorem ah_ {L a:List Int} {n:Nat} {S T v:Int} (hS:0<S) (gL:S*T=B) (hL:L.length=n) (ha:a.length=n) (hv:lv a=v*S)
  (h:win L 0 n*S=aK (lg a) n-lg a 0%S+lg a n%S*B^n):lv L=v:=by
 have e1:win L 0 n=lv L:=by rw[<- hL];exact eH L
 have e2:aK (lg a) n=lv a:=by rw[<- ha];rfl
 have e3:lg a n=0:=nK (by omega);rw[e1,e2,e3]at h
 have e4:lg a 0%S=0:=by
  have hm:∀ m,∃ z,aK (lg a) (m+1)=lg a 0+z*S:=by
   intro m;induction m with
   | zero=>exact⟨0,by simp[aK]⟩
   | succ m ih =>
    obtain⟨z,hz⟩:=ih;refine⟨z+lg a (m+1)*B^m*T,?_⟩;have:aK (lg a) (m+1+1)=aK (lg a) (m+1)+lg a (m+1)*B^(m+1):=rfl;rw[this,hz,Bs,<- gL];grind
  have hd:∃ z,lv a=lg a 0+z*S:=by
   cases hl:a.length with
   | zero=>exact⟨0,by
     unfold lv;rw[hl,nK (by omega)];simp[aK]⟩
   | succ m=>unfold lv;rw[hl];exact hm m
  obtain⟨z,hz⟩:=hd;have:lg a 0=(v-z)*S:=by
   have:(v-z)*S=v*S-z*S:=by grind
   omega
  rw[this];exact Int.mul_emod_left _ _
 rw[e4]at h
 have:lv L*S=v*S:=by rw[h,hv];simp
 exact Int.eq_of_mul_eq_mul_right (by omega) this
theorem jF (l:List Int) (o m:Nat):win l o (m+1)=lg l o+B*win l (o+1) m:=by
 rw[Nat.add_comm m 1,gO,show B^1=B from by rw[Int.pow_succ,Int.pow_zero,Int.one_mul]];simp[win,aK]
theorem afA {q a:List Int} {k m:Nat} {r x:Int} (hx:0<x/\x<B) (hr:0<=r/\r<x) (hk:k<q.length) (hq:aG q) (ha:aG a)
  (hv:win q (k+1) m*x+r=win a (k+1) m) :
  let d:=(r*B+lg a k) / x;let r2:=(r*B+lg a k)%x;let q2:=q.set k d
  (0<=d/\d<B)/\(0<=r2/\r2<x)/\aG q2/\win q2 k (m+1)*x+r2=win a k (m+1):=by
 intro d r2 q2;have h0:=ha k;have n0:0<=r*B:=Int.mul_nonneg hr.1 (by decide);have m1:(r+1)*B<=x*B:=Int.mul_le_mul_of_nonneg_right (by omega) (by decide);have m2:(r+1)*B=r*B+B:=by grind
 have d0:0<=d:=Int.ediv_nonneg (by omega) (by omega);have d1:d<B:=by
  apply Int.ediv_lt_of_lt_mul hx.1;rw[Int.mul_comm B x];omega
 have e1:x*d+r2=r*B+lg a k:=Int.mul_ediv_add_emod _ _;refine⟨⟨d0,d1⟩,⟨Int.emod_nonneg _ (by omega),Int.emod_lt_of_pos _ hx.1⟩,hq.set _ ⟨d0,d1⟩,?_⟩;have f1:win q2 (k+1) m=win q (k+1) m:=fH fun j hj=>by
  show lg (q.set k _) _=_;rw[cK,if_neg (by omega)]
 have f2:lg q2 k=d:=by
  show lg (q.set k _) _=_;rw[cK,if_pos ⟨rfl,hk⟩]
 rw[jF,jF,f1,f2,<- hv];have:(d+B*win q (k+1) m)*x=x*d+B*(win q (k+1) m*x):=by grind
 rw[this];have:B*(win q (k+1) m*x+r)=B*(win q (k+1) m*x)+r*B:=by grind
 omega
def part (l:List Int) (o m:Nat):List Int:=(l.drop o).take m
theorem Mn {l:List Int} {o m:Nat} (h:o+m<=l.length):(part l o m).length=m:=by
 unfold part;rw[List.length_take,List.length_drop];omega
theorem RY (l:List Int) (o m j:Nat):lg (part l o m) j=if j<m then lg l (o+j) else 0:=by
 unfold part;rw[yz];split
 ·unfold lg
  rw[List.getD_eq_getElem?_getD,List.getD_eq_getElem?_getD,List.getElem?_drop]
 ·rfl
theorem aG.part {l:List Int} (h:aG l) (o m:Nat):aG (part l o m):=fun j=>by
 rw[RY];split
 ·exact h _
 ·exact⟨Int.le_refl _,by decide⟩
theorem aic {l:List Int} {o m:Nat} (h:o+m<=l.length):lv (part l o m)=win l o m:=by
 unfold lv;rw[Mn h];exact jD fun j hj=>by rw[RY,if_pos hj]
theorem jQ {l:List Int} (h:aG l) (o n:Nat):0<=win l o n/\win l o n<B^n:=ig n fun j=>h _
theorem ahi {l:List Int} {k:Nat} (h:aG l) (hl:l.length=k+1) (hv:9223372036854775808*B^k<=lv l):9223372036854775808<=lg l k:=by
 have e:lv l=aK (lg l) k+lg l k*B^k:=by unfold lv;rw[hl];rfl
 have b:=ig k h;apply Int.le_of_not_gt;intro hlt;have:(lg l k+1)*B^k<=9223372036854775808*B^k:=Int.mul_le_mul_of_nonneg_right (by omega) (Int.le_of_lt (Bp k));have e2:(lg l k+1)*B^k=lg l k*B^k+B^k:=by grind
 omega
theorem len_eq {l:List Int} {k:Nat} (h:aG l) (ht:Tr l) (h1:lv l<B^(k+1)) (h2:B^k<=lv l):l.length=k+1:=by
 have a:=gH ht h h1;have b:=(dw h).2;by_cases e:l.length<=k
 ·have:=j3 e
  omega
 ·omega
theorem ahj {P D p1 p0 top low M:Int} (hM:0<M) (hP:P=(p1*B+p0)*M+low) (Hg:0<=low/\low<M) (hD:top*M<=D) (lI:0<top) (hp1:0<=p1) (VI:0<=p0) (hlt:P<D*B) :
  P / D<=(if top<=p1 then B-1 else (p1*B+p0) / top):=by
 have EJ:0<D:=by have:=Int.mul_pos lI hM;omega
 have hn:0<=p1*B+p0:=by have:=Int.mul_nonneg hp1 (show 0<=B by decide);omega
 have hP0:0<=P:=by rw[hP];have:=Int.mul_nonneg hn (Int.le_of_lt hM);omega
 split
 ·have:P / D<B:=Int.ediv_lt_of_lt_mul EJ (by rw[Int.mul_comm];exact hlt)
  omega
 ·apply Int.le_ediv_of_mul_le lI
  have hQ:0<=P / D:=Int.ediv_nonneg hP0 (by omega);have h1:P / D*D<=P:=Int.ediv_mul_le _ (by omega);have h2:P / D*(top*M)<=P / D*D:=Int.mul_le_mul_of_nonneg_left hD hQ;have e1:P / D*(top*M)=P / D*top*M:=by grind
  generalize P / D*top=z at *;apply Int.le_of_lt_add_one;apply Int.lt_of_not_ge;intro hge;have h3:(p1*B+p0+1)*M<=z*M:=Int.mul_le_mul_of_nonneg_right hge (Int.le_of_lt hM);have e2:(p1*B+p0+1)*M=(p1*B+p0)*M+M:=by grind
  omega
theorem l8 {L L':List Int} {i m N:Nat} (hN:i+m<=N) (iY:∀ j,(j<i\/i+m<=j)->lg L' j=lg L j):win L' 0 N-win L 0 N=B^i*(win L' i m-win L i m):=by
 obtain⟨d,rfl⟩:=Nat.exists_eq_add_of_le hN;rw[gO L',gO L,gO L',gO L,Nat.zero_add,Nat.zero_add];have e1:win L' 0 i=win L 0 i:=fH fun j hj=>iY _ (by omega);have e2:win L' (i+m) d=win L (i+m) d:=fH fun j hj=>iY _ (by omega);rw[e1,e2];grind
structure uN (R0 D:Int) (k lq j:Nat) (L q:List Int):Prop where
 len:L.length=lq+k
 lim:aG L
 ze:q.length=lq
 acj:aG q
 zero:∀ t,j+k<=t->lg L t=0
 up:win L j k<D
 val:lv L+win q j (lq-j)*(B^j*D)=R0
theorem uN.part {R0 D:Int} {k lq i:Nat} {L q:List Int} (h:uN R0 D k lq (i+1) L q):0<=win L i (k+1)/\win L i (k+1)<D*B:=by
 rw[jF];have h0:=h.lim i;have h1:=(jQ h.lim (i+1) k).1;have h2:=h.up;have h3:B*(win L (i+1) k+1)<=B*D:=Int.mul_le_mul_of_nonneg_left (by omega) (by decide);have e1:B*(win L (i+1) k+1)=B*win L (i+1) k+B:=by grind
 have e2:D*B=B*D:=Int.mul_comm _ _;have:=Int.mul_nonneg (show 0<=B by decide) h1;omega
theorem uN.step {R0 D Q:Int} {k lq i:Nat} {L q L':List Int} (h:uN R0 D k lq (i+1) L q) (hD:D<B^k) (hi:i<lq) (hQ:0<=Q/\Q<B) (hlen:L'.length=L.length) (hlim:aG L')
  (iY:∀ j,(j<i\/i+(k+1)<=j)->lg L' j=lg L j) (hv:win L' i (k+1)=win L i (k+1)-Q*D) (hlt:win L' i (k+1)<D):uN R0 D k lq i L' (q.set i Q):=by
 have hk:lg L' (i+k)=0:=by
  have e:=ez L' i k;have b:=(jQ hlim i k).1;have h0:=(hlim (i+k)).1;apply Int.le_antisymm _ h0;apply Int.le_of_not_gt;intro hgt;have:1*B^k<=lg L' (i+k)*B^k:=Int.mul_le_mul_of_nonneg_right (by omega) (Int.le_of_lt (Bp k));omega
 refine⟨by rw[hlen];exact h.len,hlim,by rw[List.length_set];exact h.ze,h.acj.set _ hQ,?_,?_,?_⟩
 ·intro t ht
  by_cases e:t=i+k
  ·rw[e];exact hk
  ·rw[iY t (by omega)]
   exact h.zero t (by omega)
 ·have e:=ez L' i k
  rw[hk]at e
  omega
 ·have hN:i+(k+1)<=lq+k:=by omega
  have e1:=l8 hN iY;have e2:win L' 0 (lq+k)=lv L':=by rw[<- h.len,<- hlen];exact eH L'
  have e3:win L 0 (lq+k)=lv L:=by rw[<- h.len];exact eH L
  rw[e2,e3,hv]at e1
  have e4:win (q.set i Q) i (lq-i)=Q+B*win q (i+1) (lq-(i+1)):=by
   rw[show lq-i=lq-(i+1)+1 by omega,jF,cK,if_pos ⟨rfl,by rw[h.ze];exact hi⟩];rw[fH (l:=q.set i Q) (l':=q) fun j hj=>by rw[cK,if_neg (by omega)]]
  have e5:=h.val;rw[Bs]at e5
  rw[e4];generalize win q (i+1) (lq-(i+1))=W at *;generalize B^i=P at *;generalize win L i (k+1)=p at *;have:(Q+B*W)*(P*D)=Q*(P*D)+W*(P*B*D):=by grind
  rw[this];have:P*(p-Q*D-p) = -(Q*(P*D)):=by grind
  omega
theorem uN.done {R0 D:Int} {k lq:Nat} {L q:List Int} (h:uN R0 D k lq 0 L q) (hD:0<D):lv q=R0 / D/\lv L=R0%D:=by
 have e1:win q 0 (lq-0)=lv q:=by rw[Nat.sub_zero,<- h.ze];exact eH q
 have e2:lv L=win L 0 k:=by
  rw[<- eH,h.len];exact jc (by omega) fun j h1 _=>h.zero _ (by omega)
 have e3:=h.val;have h4:=h.up;have h5:=(dw h.lim).1;rw[e1]at e3
 have e6:lv q*(B^0*D)=lv q*D:=by rw[Int.pow_zero,Int.one_mul]
 rw[e6]at e3
 obtain⟨g1,g2⟩:=RV (U:=R0) (q:=lv q) hD (by omega) (by omega);exact⟨g1.symm,by omega⟩
theorem uN.start {R0 D S v:Int} {k lq n:Nat} {L q:List Int} (hl:L.length=lq+k) (hn:lq+k=n+1) (hL:aG L) (hq:q.length=lq) (hqz:aG q) (hv:lv L=R0) (hR:R0=S*v) (kM:v<B^n) (hS:0<S/\S<=9223372036854775808)
  (hk:1<=k) (hD:9223372036854775808*B^(k-1)<=D):uN R0 D k lq lq L q:=by
 refine⟨hl,hL,hq,hqz,fun t ht=>nK (by omega),?_,?_⟩
 ·have e1:lv L=win L 0 lq+B^lq*win L lq k:=by
   rw[<- eH,hl,gO,Nat.zero_add]
  have h0:=(jQ hL 0 lq).1;have h1:S*v<S*B^n:=Int.mul_lt_mul_of_pos_left kM hS.1;have h2:n=lq+(k-1):=by omega
  rw[h2,Int.pow_add]at h1
  have h3:B^lq*win L lq k<B^lq*(S*B^(k-1)):=by
   have:S*(B^lq*B^(k-1))=B^lq*(S*B^(k-1)):=by grind
   omega
  have h4:win L lq k<S*B^(k-1):=Int.lt_of_mul_lt_mul_left h3 (Int.le_of_lt (Bp lq));have h5:S*B^(k-1)<=9223372036854775808*B^(k-1):=Int.mul_le_mul_of_nonneg_right hS.2 (Int.le_of_lt (Bp _));omega
 ·rw[Nat.sub_self];simp[win,aK];exact hv
theorem ahk {L L' l:List Int} {o n:Nat} {b:Int} (hlim:aG L') (hl:l.length=n) (hb:b=0\/b=1) (hle:lv l<=win L o n) (hv:win L' o n-b*B^n=win L o n-aK (lg l) (min n n)):win L' o n=win L o n-lv l:=by
 have e:aK (lg l) (min n n)=lv l:=by rw[Nat.min_self];unfold lv;rw[hl]
 rw[e]at hv
 have h1:=jQ hlim o n;rcases hb with rfl|rfl
 ·omega
 ·omega
theorem ahl {y:List Int} {k1:Nat} {S T:Int} (hl:y.length=k1+1) (hy:aG y) (hS:0<S) (gL:S*T=B) (h1:9223372036854775808<=lg y k1*S) (h2:lg y k1*S<B) :
  S*lv y<B^(k1+1)/\9223372036854775808*B^k1<=S*lv y:=by
 have e:lv y=aK (lg y) k1+lg y k1*B^k1:=by unfold lv;rw[hl];rfl
 have b:=ig k1 hy;have hp:=Bp k1;have ht:lg y k1+1<=T:=by
  apply Int.le_of_not_gt;intro hgt;have:S*T<=S*lg y k1:=Int.mul_le_mul_of_nonneg_left (by omega) (by omega);have:S*lg y k1=lg y k1*S:=Int.mul_comm _ _;omega
 constructor
 ·have h3:S*lv y<S*((lg y k1+1)*B^k1):=by
   apply Int.mul_lt_mul_of_pos_left _ hS;have:(lg y k1+1)*B^k1=lg y k1*B^k1+B^k1:=by grind
   omega
  have h4:S*((lg y k1+1)*B^k1)<=S*(T*B^k1):=Int.mul_le_mul_of_nonneg_left (Int.mul_le_mul_of_nonneg_right ht (by omega)) (by omega);have h5:S*(T*B^k1)=B^(k1+1):=by rw[Bs,<- Int.mul_assoc,gL,Int.mul_comm]
  omega
 ·have h3:S*(lg y k1*B^k1)<=S*lv y:=Int.mul_le_mul_of_nonneg_left (by omega) (by omega)
  have h4:S*(lg y k1*B^k1)=lg y k1*S*B^k1:=by grind
  have h5:9223372036854775808*B^k1<=lg y k1*S*B^k1:=Int.mul_le_mul_of_nonneg_right h1 (by omega);omega
theorem ahm {Pr y:List Int} {k1:Nat} {c q:Int} (hl:Pr.length=k1+1+1) (hy:y.length=k1+1) (hv:win Pr 0 (k1+1)+c*B^(k1+1)=win (List.replicate (k1+1+1) 0) 0 (k1+1)+q*aK (lg y) (k1+1)) :
  lv (Pr.set (k1+1) c)=q*lv y:=by
 have e0:win (List.replicate (k1+1+1) 0) 0 (k1+1)=0:=jc (m:=0) (by omega) fun j _ _=>l7 _ _;have e1:aK (lg y) (k1+1)=lv y:=by unfold lv;rw[hy]
 have e2:lv (Pr.set (k1+1) c)=win (Pr.set (k1+1) c) 0 (k1+1+1):=by
  rw[<- eH,List.length_set,hl]
 rw[e0,e1]at hv
 rw[e2,ez,Nat.zero_add,cK,if_pos ⟨rfl,by omega⟩,fH (l:=Pr.set (k1+1) c) (l':=Pr) fun j hj=>by rw[cK,if_neg (by omega)],hv];simp
end Go.Proofs.YtcmepkhjggpmeaaGreat.aP
