import Derived.Test.YtcmepkhjggpmeaaGreatZuG16
set_option linter.all false
set_option maxRecDepth 100000
set_option maxHeartbeats 8000000
namespace Go.Proofs.YtcmepkhjggpmeaaGreat
open Go.RowKit
open aP hiding B B_eq aG aK win jD Bp Bs ig fA eU sub_one fE iK add_one ez fH nC mul_one mL lv jc jR dw mX eo iI eH mR j3 mW gH mS kH kI mU gO mV jF jQ l8 YB l_ gM mY
open lG
theorem ahD {L' x y:List Int} {k:Nat} {c:Int} (hk:k<L'.length) (hL:aG L') (hx:aG x) (hy:aG y) (hc:c=0\/c=1)
  (hv:win L' 0 k-c*B^k=aK (lg x) k-aK (lg y) k) :
  let L2:=L'.set k (fA (lg x k) (lg y k) c);let c2:=eU (lg x k) (lg y k) c
  aG L2/\(c2=0\/c2=1)/\win L2 0 (k+1)-c2*B^(k+1)=aK (lg x) (k+1)-aK (lg y) (k+1):=by
 intro L2 c2;obtain⟨a0,a1,a2,a3⟩:=sub_one (hx k) (hy k) hc;refine⟨hL.set _ ⟨a0,a1⟩,a2,?_⟩;have e1:win L2 0 k=win L' 0 k:=fH fun j hj=>by
  show lg (L'.set k _) _=_;rw[cK,if_neg (by omega)]
 have e2:lg L2 (0+k)=fA (lg x k) (lg y k) c:=by
  show lg (L'.set k _) _=_;rw[cK,if_pos ⟨by omega,hk⟩]
 rw[ez,e1,e2,a3,show aK (lg x) (k+1)=aK (lg x) k+lg x k*B^k from rfl,show aK (lg y) (k+1)=aK (lg y) k+lg y k*B^k from rfl,Bs];have hv2:win L' 0 k=aK (lg x) k-aK (lg y) k+c*B^k:=by omega
 rw[hv2];show _-eU (lg x k) (lg y k) c*(B^k*B)=_;generalize eU (lg x k) (lg y k) c=q;generalize B^k=p;grind
theorem ain {L x y:List Int} {n:Nat} {c:Int} (hL:L.length=n) (hlim:aG L) (hx:aG x) (hy:aG y) (Hw:x.length=n) (ty:Tr y) (hc:c=0\/c=1) (hle:lv y<=lv x)
  (hv:win L 0 n-c*B^n=aK (lg x) n-aK (lg y) n):lv L=lv x-lv y:=by
 have KN:y.length<=n:=by
  apply gH ty hy;have:=(dw hx).2;rw[Hw]at this
  omega
 rw[jR KN,jR (Nat.le_of_eq Hw)]at hv
 have e:win L 0 n=lv L:=by rw[<- hL];exact eH L
 rw[e]at hv
 have h1:=dw hlim;rw[hL]at h1
 rcases hc with rfl|rfl
 ·omega
 ·omega
structure JC (g N:Nat) (x y:List Int) (w:World) (k:Nat) (c:Int) (L':List Int) (w1:World):Prop where
 blk:cO w1 g L'
 len:L'.length=N
 lim:aG L'
 bit:c=0\/c=1
 val:win L' 0 k-c*B^k=aK (lg x) k-aK (lg y) k
 only:bN g w w1
theorem JC.step {g N k:Nat} {x y L':List Int} {w w1:World} {c:Int} (h:JC g N x y w k c L' w1) (hk:k<N) (hx:aG x) (hy:aG y) {D C:Int} (hD:D=fA (lg x k) (lg y k) c) (hC:C=eU (lg x k) (lg y k) c) :
  JC g N x y w (k+1) C (L'.set k D) (w1.setCell ⟨g,k,none⟩ (.int .u64 D)):=by
 obtain⟨s1,s2,s3⟩:=ahD (by rw[h.len];exact hk) h.lim hx hy h.bit h.val;subst hD;subst hC;exact⟨h.blk.set _ _,by rw[List.length_set];exact h.len,s1,s2,s3,h.only.set _ _⟩
theorem JS (A0 A1:Option Addr) (n m c0 c1:Nat) (a b:List Int) (hn:a.length=n) (hm:b.length=m) (fW:n<=30000) (jL:m<=30000) (w:World) (ha:RL w A0 a) (hb:RL w A1 b) (hla:aG a) (hlb:aG b) (htb:Tr b) (hle:lv b<=lv a) :
  Calls Tryz.prog 110 #[.slice A0 n c0,.slice A1 m c1] w (Em (lv a-lv b) w):=by
 have hmk:=qX n (by omega);have HA:=Lib.hid (And.intro ha (And.intro hn hla));have HB:=Lib.hid (And.intro hb (And.intro hm hlb));have HT:=Lib.hid (And.intro htb hle);clear ha hb hn hm hla hlb htb hle;go_enter Tryz.func110,Tryz.ntmps110;go_wp2
 have hb1:Below w.heap.size w (w.alloc (.cells (madeCells #[.int .u64 0] n) 140)):=(Below.refl _ _).alloc (Nat.le_refl _) _;have dn:=qY w n;have hx1:=HA.out.1.below hb1 (Nat.le_refl _);have hy1:=HB.out.1.below hb1 (Nat.le_refl _);have iM:0<a.length->∀ ad,A0=some ad->ad.block≠w.heap.size:=fun h ad e=>Nat.ne_of_lt (HA.out.1.lt h ad e);have s6:0<b.length->∀ ad,A1=some ad->ad.block≠w.heap.size:=fun h ad e=>Nat.ne_of_lt (HB.out.1.lt h ad e);generalize hw3:w.alloc (.cells (madeCells #[.int .u64 0] n) 140)=w3 at *;obtain⟨g,hg⟩:∃ g,w.heap.size=g:=⟨_,rfl⟩
 have bu:=Lib.hid (And.intro hb1 hg);rw[hg]at dn iM s6 ⊢
 have jw:=Lib.hid (show JC g n a b w3 0 0 (List.replicate n 0) w3 from ⟨dn,by simp,iI _,.inl rfl,by simp[win,aK],bN.refl _ _⟩);have HX:=Lib.hid hx1;have HY:=Lib.hid hy1;have pg:=Lib.hid iM;have Co:=Lib.hid s6;clear dn hx1 hy1 iM s6 hb1 hw3 hmk hg;go_loopw [6,7] (fun cv t w4=>∃ (k:Nat) (c:Int) (L':List Int),k<=n/\t = .int .i64 k/\cv = .int .u64 c/\JC g n a b w3 k c L' w4) (fun _ t _=>n-(intOf t).toNat)
 case atStart=>exact⟨0,0,_,Nat.zero_le _,rfl,rfl,jw.out⟩
 case round =>
  obtain⟨k,c,L',hk,rfl,rfl,hI⟩:=hrel;by_cases hlt:k<n
  ·have h1:decide ((k:Int)<(n:Int))=true:=by simp;omega
   have rF:0<=c/\c<=1:=by rcases hI.bit with h|h <;> omega
   have hce:=hI.blk.cell k (by rw[hI.len];exact hlt);have hfr:=hI.blk.free k;have sZ:=Lib.hid (HX.out.only hI.only pg.out);have Af:=Lib.hid (HY.out.only hI.only Co.out);have lx:=HA.out.2.2 k;have ly:=HB.out.2.2 k;rw[show(B:Int)=4294967296 from rfl]at lx ly
   obtain⟨x,hx⟩:∃ x,lg a k=x:=⟨_,rfl⟩
   obtain⟨y,hy⟩:∃ y,lg b k=y:=⟨_,rfl⟩
   rw[hx]at lx
   rw[hy]at ly
   have gN:=Lib.hid (And.intro hx hy);have HI:=Lib.hid hI;have dM:=Lib.hid hlt;have z2:k<n:=hlt;obtain⟨ad,rfl,bW⟩:=sZ.out.2 (by rw[HA.out.2.1];omega);have ca:=bW k (by rw[HA.out.2.1];omega);rw[gN.out.1]at ca
   clear bW hI hlt hk;by_cases hkb:k<m
   ·by_cases hxy:x<c+y
    ·skip
     have t2:decide ((k:Int)<(m:Int))=true:=by simp;omega
     obtain⟨K7,rfl,bW⟩:=Af.out.2 (by rw[HB.out.2.1];omega);have cb:=bW k (by rw[HB.out.2.1];omega);rw[gN.out.2]at cb
     clear bW;have a1:IntKind.u64.wrap (c+y)=c+y:=bR _ ⟨by omega,by rw[aP.B_eq];omega⟩;have t3:decide (x<c+y)=true:=decide_eq_true hxy;have a2:IntKind.u64.wrap (x+4294967296)=x+4294967296:=bR _ ⟨by omega,by rw[aP.B_eq];omega⟩;have a3:IntKind.u64.wrap (x+4294967296-(c+y))=x+4294967296-(c+y):=bR _ ⟨by omega,by rw[aP.B_eq];omega⟩;have HS:=Lib.hid (HI.out.step dM.out HA.out.2.2 HB.out.2.2 (D:=x+4294967296-(c+y)) (C:=1) (by rw[gN.out.1,gN.out.2];unfold fA;rw[show(B:Int)=4294967296 from rfl];omega) (by rw[gN.out.1,gN.out.2];unfold eU;rw[if_pos (by omega)]));clear hxy;go_wp2
     exact⟨⟨k+1,_,_,dM.out,by simp,rfl,HS.out⟩,by have:=dM.out;simp[intOf];omega⟩
    ·skip
     have t2:decide ((k:Int)<(m:Int))=true:=by simp;omega
     obtain⟨K7,rfl,bW⟩:=Af.out.2 (by rw[HB.out.2.1];omega);have cb:=bW k (by rw[HB.out.2.1];omega);rw[gN.out.2]at cb
     clear bW;have a1:IntKind.u64.wrap (c+y)=c+y:=bR _ ⟨by omega,by rw[aP.B_eq];omega⟩;have t3:decide (x<c+y)=false:=decide_eq_false hxy;have a3:IntKind.u64.wrap (x-(c+y))=x-(c+y):=bR _ ⟨by omega,by rw[aP.B_eq];omega⟩;have HS:=Lib.hid (HI.out.step dM.out HA.out.2.2 HB.out.2.2 (D:=x-(c+y)) (C:=0) (by rw[gN.out.1,gN.out.2];unfold fA;rw[show(B:Int)=4294967296 from rfl];omega) (by rw[gN.out.1,gN.out.2];unfold eU;rw[if_neg (by omega)]));clear hxy;go_wp2
     exact⟨⟨k+1,_,_,dM.out,by simp,rfl,HS.out⟩,by have:=dM.out;simp[intOf];omega⟩
   ·by_cases hxy:x<c
    ·skip
     have t2:decide ((k:Int)<(m:Int))=false:=by simp;omega
     have hy0:y=0:=by rw[<- gN.out.2];exact nK (by rw[HB.out.2.1];omega)
     have t3:decide (x<c)=true:=decide_eq_true hxy;have a2:IntKind.u64.wrap (x+4294967296)=x+4294967296:=bR _ ⟨by omega,by rw[aP.B_eq];omega⟩;have a3:IntKind.u64.wrap (x+4294967296-(c))=x+4294967296-(c):=bR _ ⟨by omega,by rw[aP.B_eq];omega⟩;have HS:=Lib.hid (HI.out.step dM.out HA.out.2.2 HB.out.2.2 (D:=x+4294967296-(c)) (C:=1) (by rw[gN.out.1,gN.out.2];unfold fA;rw[show(B:Int)=4294967296 from rfl];omega) (by rw[gN.out.1,gN.out.2];unfold eU;rw[if_pos (by omega)]));clear hy0;clear hxy;go_wp2
     exact⟨⟨k+1,_,_,dM.out,by simp,rfl,HS.out⟩,by have:=dM.out;simp[intOf];omega⟩
    ·skip
     have t2:decide ((k:Int)<(m:Int))=false:=by simp;omega
     have hy0:y=0:=by rw[<- gN.out.2];exact nK (by rw[HB.out.2.1];omega)
     have t3:decide (x<c)=false:=decide_eq_false hxy;have a3:IntKind.u64.wrap (x-(c))=x-(c):=bR _ ⟨by omega,by rw[aP.B_eq];omega⟩;have HS:=Lib.hid (HI.out.step dM.out HA.out.2.2 HB.out.2.2 (D:=x-(c)) (C:=0) (by rw[gN.out.1,gN.out.2];unfold fA;rw[show(B:Int)=4294967296 from rfl];omega) (by rw[gN.out.1,gN.out.2];unfold eU;rw[if_neg (by omega)]));clear hy0;clear hxy;go_wp2
     exact⟨⟨k+1,_,_,dM.out,by simp,rfl,HS.out⟩,by have:=dM.out;simp[intOf];omega⟩
  ·have he:k=n:=by omega
   subst he;have h1:decide ((k:Int)<(k:Int))=false:=by simp
   have wM:=Lib.hid (FP (w:=w) (Nat.le_of_eq bu.out.2) hI.blk hI.len (by omega) hI.lim (ain hI.len hI.lim HA.out.2.2 HB.out.2.2 HA.out.2.1 HT.out.1 hI.bit HT.out.2 hI.val) (bN.below bu.out.1 hI.only (by rw[bu.out.2];exact Nat.le_refl _)));clear hI hlt hk;go_wp2_with fail
   refine(wM.out).mono ?_;rintro e w4 ⟨x,r,rfl,hr⟩;have HR:=Lib.hid hr;clear hr;go_wp2
   go_ret
   exact⟨x,r,rfl,HR.out⟩
structure JD (g N m:Nat) (a b:List Int) (w:World) (k:Nat) (L':List Int) (w1:World):Prop where
 blk:cO w1 g L'
 len:L'.length=N
 lim:aG L'
 zero:∀ j,k+m<=j->lg L' j=0
 val:win L' 0 (k+m)=aK (lg a) k*lv b
 only:bN g w w1
structure xx (g N m:Nat) (b:List Int) (w:World) (k:Nat) (x:Int) (L:List Int) (j:Nat) (c:Int) (L':List Int) (w1:World):Prop where
 blk:cO w1 g L'
 len:L'.length=N
 lim:aG L'
 Ad:∀ i,(i<k\/k+j<=i)->lg L' i=lg L i
 xR:0<=c/\c<B
 val:win L' k j+c*B^j=win L k j+x*aK (lg b) j
 only:bN g w w1
theorem xx.step {g N m k j:Nat} {b L L':List Int} {w w1:World} {x c T:Int} (h:xx g N m b w k x L j c L' w1) (hk:k+j<N) (hx:0<=x/\x<B) (hb:aG b) (hT:T=x*lg b j+lg L' (k+j)+c) :
  xx g N m b w k x L (j+1) (T / 4294967296) (L'.set (k+j) (T%4294967296)) (w1.setCell ⟨g,k+j,none⟩ (.int .u64 (T%4294967296))):=by
 have hB:(B:Int)=4294967296:=rfl;have h1:=hb j;have h2:=h.lim (k+j);have h3:=h.xR;rw[hB]at hx h1 h2 h3
 have hmul:0<=x*lg b j:=Int.mul_nonneg hx.1 h1.1;have axj:x*lg b j<=4294967295*4294967295:=Int.mul_le_mul (by omega) (by omega) h1.1 (by omega);have hd:T%4294967296+T / 4294967296*4294967296=T:=by omega
 obtain⟨s1,s2,s3⟩:=mL (by rw[h.len];exact hk) h.lim hb h.Ad (by rw[hB];exact hx) h.xR h.val (d:=T%4294967296) (c2:=T / 4294967296) (by rw[hB];omega) (by rw[hB,hd,hT]);exact⟨h.blk.set _ _,by rw[List.length_set];exact h.len,s1,s2,by rw[hB];omega,s3,h.only.set _ _⟩
theorem xx.dr {g N m k j:Nat} {b L L':List Int} {w w1:World} {x c:Int} (h:xx g N m b w k x L j c L' w1):xx g N m b w k x L j c L' w1.drew:=⟨h.blk.dI 1,h.len,h.lim,h.Ad,h.xR,h.val,h.only.dr⟩
theorem JD.start {g N m:Nat} {a b L:List Int} {w w1:World} {k:Nat} (h:JD g N m a b w k L w1) (x:Int):xx g N m b w k x L 0 0 L w1 :=
 ⟨h.blk,h.len,h.lim,fun _ _=>rfl,⟨Int.le_refl _,by decide⟩,by simp[win,aK],h.only⟩
theorem xx.done {g N m k:Nat} {a b L L':List Int} {w w1:World} {c:Int} (h:xx g N m b w k (lg a k) L m c L' w1) (h0:∀ j,k+m<=j->lg L j=0) (hv:win L 0 (k+m)=aK (lg a) k*lv b) (hk:k+m<N) (hlen:L.length=N) (hb:b.length=m) :
  JD g N m a b w (k+1) (L'.set (k+m) c) (w1.setCell ⟨g,k+m,none⟩ (.int .u64 c)):=by
 have hv2:win L' k m+c*B^m=win L k m+lg a k*lv b:=by
  rw[h.val,<- hb];rfl
 obtain⟨s1,s2,s3⟩:=mV (L':=L) (L2:=L') (by rw[h.len,hlen]) (by rw[hlen];exact hk) h.lim h.Ad h0 h.xR hv2 hv;exact⟨h.blk.set _ _,by rw[List.length_set];exact h.len,s1,s2,s3,h.only.set _ _⟩
theorem am0 (A0 A1:Option Addr) (n m c0 c1:Nat) (a b:List Int) (hn:a.length=n) (hm:b.length=m) (fW:n<=30000) (jL:m<=30000) (w:World) (ha:RL w A0 a) (hb:RL w A1 b) (hla:aG a) (hlb:aG b) :
  Calls Tryz.prog 111 #[.slice A0 n c0,.slice A1 m c1] w (Em (lv a*lv b) w):=by
 have hmk:=qX (n+m) (by omega);rw[show((n+m:Nat):Int)=(n:Int)+(m:Int) by omega]at hmk
 have HA:=Lib.hid (And.intro ha (And.intro hn hla));have HB:=Lib.hid (And.intro hb (And.intro hm hlb));clear ha hb hn hm hla hlb;go_enter Tryz.func111,Tryz.ntmps111;go_wp2
 have hb1:Below w.heap.size w (w.alloc (.cells (madeCells #[.int .u64 0] (n+m)) 140)):=(Below.refl _ _).alloc (Nat.le_refl _) _;have dn:=qY w (n+m);have hx1:=HA.out.1.below hb1 (Nat.le_refl _);have hy1:=HB.out.1.below hb1 (Nat.le_refl _);have iM:0<a.length->∀ ad,A0=some ad->ad.block≠w.heap.size:=fun h ad e=>Nat.ne_of_lt (HA.out.1.lt h ad e);have s6:0<b.length->∀ ad,A1=some ad->ad.block≠w.heap.size:=fun h ad e=>Nat.ne_of_lt (HB.out.1.lt h ad e);generalize hw3:w.alloc (.cells (madeCells #[.int .u64 0] (n+m)) 140)=w3 at *;obtain⟨g,hg⟩:∃ g,w.heap.size=g:=⟨_,rfl⟩
 have bu:=Lib.hid (And.intro hb1 hg);rw[hg]at dn iM s6 ⊢
 have jw:=Lib.hid (show JD g (n+m) m a b w3 0 (List.replicate (n+m) 0) w3 from ⟨dn,by simp,iI _,fun j _=>l7 _ _,by
  have:win (List.replicate (n+m) 0) 0 (0+m)=0:=jc (m:=0) (by omega) fun j _ _=>l7 _ _;rw[this];simp[aK],bN.refl _ _⟩)
 have HX:=Lib.hid hx1;have HY:=Lib.hid hy1;have pg:=Lib.hid iM;have Co:=Lib.hid s6;clear dn hx1 hy1 iM s6 hb1 hw3 hmk hg;go_loopg [6] n (fun gk t w4=>∃ (k:Nat) (L:List Int),Hid (gk=n-k/\k<=n)/\t = .int .i64 k/\Hid (JD g (n+m) m a b w3 k L w4))
 case atStart=>exact⟨0,_,Lib.hid ⟨rfl,Nat.zero_le _⟩,rfl,jw⟩
 case round =>
  obtain⟨k,L,nW,rfl,HI⟩:=hrel;by_cases hlt:k<n
  ·have h1:decide ((k:Int)<(n:Int))=true:=by simp;omega
   obtain⟨x,hx⟩:∃ x,lg a k=x:=⟨_,rfl⟩
   have lx:=HA.out.2.2 k;rw[show(B:Int)=4294967296 from rfl,hx]at lx
   have tX:=Lib.hid (And.intro hx lx);have dM:=Lib.hid hlt;have Px:=Lib.hid (HI.out.start x);have z1:k<n:=hlt;clear hlt hx;go_wp2
   go_loopg [7,8] m (fun gj cv t w5=>∃ (j:Nat) (c:Int) (L':List Int),Hid (gj=m-j/\j<=m)/\t = .int .i64 j/\cv = .int .u64 c/\Hid (xx g (n+m) m b w3 k x L j c L' w5))
   case atStart=>exact⟨0,0,_,Lib.hid ⟨rfl,Nat.zero_le _⟩,rfl,rfl,Px⟩
   case round =>
    obtain⟨j,c,L',hgj,rfl,rfl,HJ⟩:=hrel;by_cases hlt:j<m
    ·have h2:decide ((j:Int)<(m:Int))=true:=by simp;omega
     obtain⟨ad,rfl,bW⟩:=(HX.out.only HJ.out.only pg.out).2 (by rw[HA.out.2.1];omega);have ca:=bW k (by rw[HA.out.2.1];omega);rw[tX.out.1]at ca
     obtain⟨K7,rfl,acR⟩:=(HY.out.only HJ.out.only Co.out).2 (by rw[HB.out.2.1];omega);have cb:=acR j (by rw[HB.out.2.1];omega);obtain⟨y,hy⟩:∃ y,lg b j=y:=⟨_,rfl⟩
     have ly:=HB.out.2.2 j;rw[show(B:Int)=4294967296 from rfl,hy]at ly
     rw[hy]at cb
     have hce:=HJ.out.blk.cell (k+j) (by rw[HJ.out.len];omega);have hfr:=HJ.out.blk.free (k+j);obtain⟨t,ht⟩:∃ t,lg L' (k+j)=t:=⟨_,rfl⟩
     have lt:=HJ.out.lim (k+j);rw[show(B:Int)=4294967296 from rfl,ht]at lt
     rw[ht]at hce
     have lc:=HJ.out.xR;rw[show(B:Int)=4294967296 from rfl]at lc
     obtain⟨P,hP⟩:∃ P,x*y=P:=⟨_,rfl⟩
     have p0:0<=P:=by rw[<- hP];exact Int.mul_nonneg lx.1 ly.1
     have p1:P<=18446744065119617025:=by
      rw[<- hP];have:x*y<=4294967295*4294967295:=Int.mul_le_mul (by omega) (by omega) ly.1 (by omega);omega
     have HS:=Lib.hid (HJ.out.step (by omega) (by rw[show(B:Int)=4294967296 from rfl];exact lx) HB.out.2.2 (T:=P+t+c) (by rw[hy,ht,hP]));have a0:IntKind.u64.wrap P=P:=bR _ ⟨by omega,by rw[aP.B_eq];omega⟩;have a1:IntKind.u64.wrap (P+t)=P+t:=bR _ ⟨by omega,by rw[aP.B_eq];omega⟩;have a2:IntKind.u64.wrap (P+t+c)=P+t+c:=bR _ ⟨by omega,by rw[aP.B_eq];omega⟩;have a3:(P+t+c).tmod 4294967296=(P+t+c)%4294967296:=Int.tmod_eq_emod_of_nonneg (by omega);have a4:(P+t+c).tdiv 4294967296=(P+t+c) / 4294967296:=Int.tdiv_eq_ediv_of_nonneg (by omega);have a5:IntKind.u64.wrap ((P+t+c)%4294967296)=(P+t+c)%4294967296:=bR _ ⟨by omega,by rw[aP.B_eq];omega⟩;have a6:IntKind.u64.wrap ((P+t+c) / 4294967296)=(P+t+c) / 4294967296:=bR _ ⟨by omega,by rw[aP.B_eq];omega⟩;have z3:j<m:=hlt;have z4:k+j<n+m:=by omega
     have z5:(k:Int)+(j:Int)<(n:Int)+(m:Int):=by omega
     have acS:=Lib.hid hlt;clear bW acR ht hy hlt;go_wp2
     go_region
     go_wp2
     go_roundg (m-(j+1))
     case measure=>have:=hgj.out;have:=acS.out;omega
     case rel=>exact⟨j+1,_,_,Lib.hid ⟨rfl,acS.out⟩,by simp,rfl,Lib.hid HS.out.dr⟩
    ·have hjm:j=m:=by have:=hgj.out.2;omega
     subst hjm;have h2:decide ((j:Int)<(j:Int))=false:=by simp
     have hkn:=dM.out;have hce:=HJ.out.blk.cell (k+j) (by rw[HJ.out.len];omega);have hfr:=HJ.out.blk.free (k+j);have qJ:=HJ.out;rw[<- tX.out.1]at qJ
     have HD:=Lib.hid (qJ.done HI.out.zero HI.out.val (by omega) HI.out.len HB.out.2.1);have z4:k+j<n+j:=by omega
     have z5:(k:Int)+(j:Int)<(n:Int)+(j:Int):=by omega
     clear hlt qJ hkn;go_wp2
     go_roundg (n-(k+1))
     case measure=>have:=nW.out;have:=dM.out;omega
     case rel=>exact⟨k+1,_,Lib.hid ⟨rfl,dM.out⟩,by simp,HD⟩
  ·have he:k=n:=by have:=nW.out.2;omega
   subst he;have h1:decide ((k:Int)<(k:Int))=false:=by simp
   have hlv:lv L=lv a*lv b:=by
    have h2:=HI.out.val;have h3:=HI.out.len;rw[<- h3,eH]at h2
    rw[h2];unfold lv;rw[HA.out.2.1]
   have wM:=Lib.hid (FP (w:=w) (Nat.le_of_eq bu.out.2) HI.out.blk HI.out.len (by omega) HI.out.lim hlv (bN.below bu.out.1 HI.out.only (by rw[bu.out.2];exact Nat.le_refl _)));clear hlv hlt;go_wp2_with fail
   refine(wM.out).mono ?_;rintro e w4 ⟨x,r,rfl,hr⟩;have HR:=Lib.hid hr;clear hr;go_wp2
   go_ret
   exact⟨x,r,rfl,HR.out⟩
end Go.Proofs.YtcmepkhjggpmeaaGreat
