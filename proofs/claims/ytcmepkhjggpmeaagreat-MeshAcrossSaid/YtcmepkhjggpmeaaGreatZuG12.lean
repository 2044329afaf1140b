import Derived.Test.YtcmepkhjggpmeaaGreatZuG4
set_option linter.all false
set_option maxRecDepth 100000
set_option maxHeartbeats 8000000
namespace Go.Proofs.YtcmepkhjggpmeaaGreat.lG
open aP (lg cK nK Tr yz bl qb IQ IU Ql XE fO kA l7 dN Qp xm FT Mt sA o9 sQ IX Bb fF q7 nv jg Yp Ys qz Y2 jv Db Xz nb NV Dc vN KY jM Nk X8 dW xh)
def B:Int:=4294967296
theorem B_eq:B=4294967296:=rfl
def aG (l:List Int):Prop:=∀ j,0<=lg l j/\lg l j<B
def aK (f:Nat->Int):Nat->Int
 | 0=>0
 | n+1=>aK f n+f n*B^n
def win (l:List Int) (o n:Nat):Int:=aK (fun j=>lg l (o+j)) n
theorem jD {f g:Nat->Int} {n:Nat} (h:∀ j,j<n->f j=g j):aK f n=aK g n:=by
 induction n with
 | zero=>rfl
 | succ n ih=>unfold aK;rw[ih (fun j hj=>h j (by omega)),h n (by omega)]
theorem Bp (n:Nat):0<B^n:=Int.pow_pos (by decide)
theorem Bs (n:Nat):B^(n+1)=B^n*B:=Int.pow_succ _ _
theorem ig {f:Nat->Int} (n:Nat) (h:∀ j,0<=f j/\f j<B):0<=aK f n/\aK f n<B^n:=by
 induction n with
 | zero=>exact⟨Int.le_refl _,by simp[aK]⟩
 | succ n ih =>
  unfold aK;rw[Bs];have h1:=h n;have h2:=Bp n;have h3:0<=f n*B^n:=Int.mul_nonneg h1.1 (Int.le_of_lt h2);have h4:f n*B^n<=(B-1)*B^n:=Int.mul_le_mul_of_nonneg_right (by omega) (Int.le_of_lt h2);have h5:(B-1)*B^n=B^n*B-B^n:=by grind
  omega
def fA (x y b:Int):Int:=(x+B-y-b)%B
def eU (x y b:Int):Int:=if x<y+b then 1 else 0
theorem sub_one {x y b:Int} (hx:0<=x/\x<B) (hy:0<=y/\y<B) (hb:b=0\/b=1):0<=fA x y b/\fA x y b<B/\(eU x y b=0\/eU x y b=1)/\fA x y b=x-y-b+eU x y b*B:=by
 unfold fA eU;rw[B_eq]at *
 split <;> omega
def fE (x y c:Int):Int:=(x+y+c)%B
def iK (x y c:Int):Int:=(x+y+c) / B
theorem add_one {x y c:Int} (hx:0<=x/\x<B) (hy:0<=y/\y<B) (hb:c=0\/c=1):0<=fE x y c/\fE x y c<B/\(iK x y c=0\/iK x y c=1)/\fE x y c+iK x y c*B=x+y+c:=by
 unfold fE iK;rw[B_eq]at *
 omega
theorem ez (l:List Int) (o n:Nat):win l o (n+1)=win l o n+lg l (o+n)*B^n:=rfl
theorem fH {l l':List Int} {o n:Nat} (h:∀ j,j<n->lg l (o+j)=lg l' (o+j)):win l o n=win l' o n:=jD h
theorem aG.set {l:List Int} (h:aG l) (j:Nat) {x:Int} (hx:0<=x/\x<B):aG (l.set j x):=by
 intro k;rw[cK];split
 ·exact hx
 ·exact h k
theorem nC {L L' l:List Int} {o k m:Nat} {b:Int} (hk:o+k<L'.length) (hL:aG L') (hl:aG l)
  (iY:∀ j,(j<o\/o+k<=j)->lg L' j=lg L j) (hb:b=0\/b=1) (hm:l.length=m)
  (hv:win L' o k-b*B^k=win L o k-aK (lg l) (min k m)) :
  let x:=lg L' (o+k);let y:=lg l k;let L2:=L'.set (o+k) (fA x y b);let b2:=eU x y b
  aG L2/\(∀ j,(j<o\/o+(k+1)<=j)->lg L2 j=lg L j)/\(b2=0\/b2=1)/\win L2 o (k+1)-b2*B^(k+1)=win L o (k+1)-aK (lg l) (min (k+1) m):=by
 intro x y L2 b2;obtain⟨h0,h1,h2,h3⟩:=sub_one (x:=x) (y:=y) (b:=b) (hL _) (hl _) hb;refine⟨hL.set _ ⟨h0,h1⟩,?_,h2,?_⟩
 ·intro j hj
  show lg (L'.set (o+k) _) j=_;rw[cK,if_neg (by omega)];exact iY j (by omega)
 ·have e1:win L2 o k=win L' o k:=fH fun j hj=>by
   show lg (L'.set (o+k) _) _=_;rw[cK,if_neg (by omega)]
  have e2:lg L2 (o+k)=fA x y b:=by
   show lg (L'.set (o+k) _) _=_;rw[cK,if_pos ⟨rfl,hk⟩]
  have e3:aK (lg l) (min (k+1) m)=aK (lg l) (min k m)+y*B^k:=by
   by_cases hkm:k<m
   ·rw[show min (k+1) m=k+1 by omega,show min k m=k by omega];rfl
   ·rw[show min (k+1) m=m by omega,show min k m=m by omega]
    have:y=0:=nK (by omega);rw[this];simp
  have e4:lg L (o+k)=x:=(iY (o+k) (by omega)).symm;rw[ez,ez,e1,e2,e3,e4,Bs];show win L' o k+fA x y b*B^k-eU x y b*(B^k*B)=_;rw[h3];generalize eU x y b=c at *;generalize win L' o k=p at *;generalize win L o k=q at *;generalize aK (lg l) (min k m)=r at *;generalize B^k=P at *;grind
theorem mL {L L' l:List Int} {o k:Nat} {x c:Int} (hk:o+k<L'.length) (hL:aG L') (hl:aG l)
  (iY:∀ j,(j<o\/o+k<=j)->lg L' j=lg L j) (hx:0<=x/\x<B) (hc:0<=c/\c<B)
  (hv:win L' o k+c*B^k=win L o k+x*aK (lg l) k) {d c2:Int} (hd:0<=d/\d<B) (he:d+c2*B=x*lg l k+lg L' (o+k)+c) :
  let L2:=L'.set (o+k) d
  aG L2/\(∀ j,(j<o\/o+(k+1)<=j)->lg L2 j=lg L j)/\win L2 o (k+1)+c2*B^(k+1)=win L o (k+1)+x*aK (lg l) (k+1):=by
 intro L2;refine⟨hL.set _ hd,?_,?_⟩
 ·intro j hj
  show lg (L'.set (o+k) _) j=_;rw[cK,if_neg (by omega)];exact iY j (by omega)
 ·have e1:win L2 o k=win L' o k:=fH fun j hj=>by
   show lg (L'.set (o+k) _) _=_;rw[cK,if_neg (by omega)]
  have e2:lg L2 (o+k)=d:=by
   show lg (L'.set (o+k) _) _=_;rw[cK,if_pos ⟨rfl,hk⟩]
  have e4:lg L (o+k)=lg L' (o+k):=(iY (o+k) (by omega)).symm;rw[ez,ez,e1,e2,e4,Bs];show win L' o k+d*B^k+c2*(B^k*B)=win L o k+lg L' (o+k)*B^k+x*(aK (lg l) k+lg l k*B^k);generalize win L' o k=p at *;generalize win L o k=q at *;generalize aK (lg l) k=r at *;generalize B^k=P at *;generalize lg L' (o+k)=t at *;generalize lg l k=y at *;have:d=x*y+t+c-c2*B:=by omega
  subst this;grind
def lv (l:List Int):Int:=aK (lg l) l.length
theorem jc {f:Nat->Int} {m n:Nat} (hmn:m<=n) (h:∀ j,m<=j->j<n->f j=0):aK f n=aK f m:=by
 induction n with
 | zero=>rw[show m=0 by omega]
 | succ n ih =>
  by_cases e:m=n+1
  ·rw[e]
  ·show aK f n+f n*B^n=_
   rw[h n (by omega) (by omega),ih (by omega) (fun j h1 h2=>h j h1 (by omega))];simp
theorem jR {l:List Int} {n:Nat} (h:l.length<=n):aK (lg l) n=lv l:=jc h fun _ h1 _=>nK h1
theorem aG.take {l:List Int} (h:aG l) (m:Nat):aG (l.take m):=by
 intro j;rw[yz];split
 ·exact h j
 ·exact⟨Int.le_refl _,by decide⟩
theorem dw {l:List Int} (h:aG l):0<=lv l/\lv l<B^l.length:=ig _ h
theorem eo (l:List Int):lv (l.take (bl l l.length))=lv l:=by
 unfold lv;rw[fO,jc (qb l l.length) (Ql l l.length)];exact jD fun j hj=>by rw[yz,if_pos hj]
theorem iI (n:Nat):aG (List.replicate n 0):=fun j=>by rw[l7];exact⟨Int.le_refl _,by decide⟩
theorem eH (l:List Int):win l 0 l.length=lv l:=jD fun j _=>by rw[Nat.zero_add]
theorem mR {L' x y:List Int} {k:Nat} {c:Int} (hk:k<L'.length) (hL:aG L') (hx:aG x) (hy:aG y) (hc:c=0\/c=1)
  (hv:win L' 0 k+c*B^k=aK (lg x) k+aK (lg y) k) :
  let L2:=L'.set k (fE (lg x k) (lg y k) c);let c2:=iK (lg x k) (lg y k) c
  aG L2/\(c2=0\/c2=1)/\win L2 0 (k+1)+c2*B^(k+1)=aK (lg x) (k+1)+aK (lg y) (k+1):=by
 intro L2 c2;obtain⟨a0,a1,a2,a3⟩:=add_one (hx k) (hy k) hc;refine⟨hL.set _ ⟨a0,a1⟩,a2,?_⟩;have e1:win L2 0 k=win L' 0 k:=fH fun j hj=>by
  show lg (L'.set k _) _=_;rw[cK,if_neg (by omega)]
 have e2:lg L2 (0+k)=fE (lg x k) (lg y k) c:=by
  show lg (L'.set k _) _=_;rw[cK,if_pos ⟨by omega,hk⟩]
 rw[ez,e1,e2,Bs];show win L' 0 k+fE (lg x k) (lg y k) c*B^k+c2*(B^k*B)=aK (lg x) k+lg x k*B^k+(aK (lg y) k+lg y k*B^k)
 have a3':fE (lg x k) (lg y k) c+c2*B=lg x k+lg y k+c:=a3;generalize fE (lg x k) (lg y k) c=d at *;generalize win L' 0 k=p at *;generalize aK (lg x) k=q at *;generalize aK (lg y) k=r at *;generalize B^k=P at *;generalize lg x k=u at *;generalize lg y k=v at *;have:d=u+v+c-c2*B:=by omega
 subst this;grind
theorem j3 {m n:Nat} (h:m<=n):B^m<=B^n:=by
 obtain⟨d,rfl⟩:=Nat.exists_eq_add_of_le h;rw[Int.pow_add];have h1:=Bp m;have h2:=Bp d;have:B^m*1<=B^m*B^d:=Int.mul_le_mul_of_nonneg_left (by omega) (by omega);omega
theorem mW {L x y:List Int} {n:Nat} {c:Int} (hL:L.length=n+1) (hlim:aG L) (hx:aG x) (hy:aG y) (Hw:x.length<=n) (KN:y.length<=n) (hc:c=0\/c=1)
  (hv:win L 0 (n+1)+c*B^(n+1)=aK (lg x) (n+1)+aK (lg y) (n+1)):lv L=lv x+lv y:=by
 rw[jR (by omega),jR (by omega)]at hv
 have e:win L 0 (n+1)=lv L:=by rw[<- hL];exact eH L
 rw[e]at hv
 have b1:=dw hx;have b2:=dw hy;have b3:=(dw hlim).1;have m1:=j3 Hw;have m2:=j3 KN;have m3:=Bp n;rw[Bs]at hv
 have:B^n*2<=B^n*B:=Int.mul_le_mul_of_nonneg_left (by decide) (by omega);rcases hc with rfl|rfl
 ·omega
 ·omega
theorem gH {r:List Int} (h:Tr r) (hl:aG r) {k:Nat} (hv:lv r<B^k):r.length<=k:=by
 apply Nat.le_of_not_lt;intro hgt;rcases h with h|h
 ·omega
 ·obtain⟨m,hm⟩:∃ m,r.length=m+1:=⟨r.length-1,by omega⟩
  have e:lv r=aK (lg r) m+lg r m*B^m:=by unfold lv;rw[hm];rfl
  rw[hm]at h
  have h1:=(ig m hl).1;have h2:=hl m;have h3:lg r m≠0:=h;have h4:=Bp m;have h5:1*B^m<=lg r m*B^m:=Int.mul_le_mul_of_nonneg_right (by omega) (by omega);have:=j3 (show k<=m by omega);omega
theorem mS {a b:List Int} (ha:aG a) (hb:aG b) (n:Nat):o9 a b n=dN (aK (lg a) n) (aK (lg b) n):=by
 induction n with
 | zero=>rfl
 | succ n ih =>
  have e1:aK (lg a) (n+1)=aK (lg a) n+lg a n*B^n:=rfl;have e2:aK (lg b) (n+1)=aK (lg b) n+lg b n*B^n:=rfl;have b1:=ig n ha;have b2:=ig n hb;have hp:=Bp n;rw[e1,e2];rcases sA (lg a n) (lg b n) with ⟨h,hc⟩|⟨h,hc⟩|⟨h,hc⟩
  ·rw[Bb (by omega),hc]
   have:(lg a n+1)*B^n<=lg b n*B^n:=Int.mul_le_mul_of_nonneg_right (by omega) (by omega);have e:(lg a n+1)*B^n=lg a n*B^n+B^n:=by grind
   rw[xm (by omega)]
  ·rw[IX hc,ih,h]
   generalize lg b n*B^n=q;unfold dN;have e1:(aK (lg a) n+q<aK (lg b) n+q)=(aK (lg a) n<aK (lg b) n):=by
    apply propext;omega
   have e2:(aK (lg b) n+q<aK (lg a) n+q)=(aK (lg b) n<aK (lg a) n):=by
    apply propext;omega
   simp only[e1,e2]
  ·rw[Bb (by omega),hc]
   have:(lg b n+1)*B^n<=lg a n*B^n:=Int.mul_le_mul_of_nonneg_right (by omega) (by omega);have e:(lg b n+1)*B^n=lg b n*B^n+B^n:=by grind
   rw[FT (by omega)]
theorem kH {a b:List Int} (ha:aG a) (hb:aG b) (tb:Tr b) (h:a.length<b.length):lv a<lv b:=by
 apply Int.lt_of_not_ge;intro hge;have:=gH tb hb (k:=a.length) (by have:=(dw ha).2;omega);omega
theorem kI {a b:List Int} (ha:aG a) (hb:aG b) (ta:Tr a) (tb:Tr b):sQ a b a.length b.length=dN (lv a) (lv b):=by
 unfold sQ;rcases sA (a.length:Int) (b.length:Int) with ⟨h,hc⟩|⟨h,hc⟩|⟨h,hc⟩
 ·rw[if_neg (by omega),hc,xm (kH ha hb tb (by omega))]
 ·rw[if_pos hc,mS ha hb]
  have:a.length=b.length:=by omega
  unfold lv;rw[<- this]
 ·rw[if_neg (by omega),hc,FT (kH hb ha ta (by omega))]
theorem mU {L a l:List Int} {n:Nat} {b:Int} (hL:L.length=n) (hlim:aG L) (hla:aG a) (ha:a.length=n) (hl:aG l) (wC:l.length<=n) (hb:b=0\/b=1)
  (hle:lv l<=lv a) (hv:win L 0 n-b*B^n=win a 0 n-aK (lg l) (min n l.length)):lv L=lv a-lv l:=by
 have e:win L 0 n=lv L:=by rw[<- hL];exact eH L
 have e2:win a 0 n=lv a:=by rw[<- ha];exact eH a
 rw[e,e2,show min n l.length=l.length by omega,show aK (lg l) l.length=lv l from rfl]at hv
 have h1:=dw hlim;rw[hL]at h1
 rcases hb with rfl|rfl
 ·omega
 ·omega
theorem gO (l:List Int) (o k m:Nat):win l o (k+m)=win l o k+B^k*win l (o+k) m:=by
 induction m with
 | zero=>simp[win,aK]
 | succ m ih =>
  rw[show k+(m+1)=k+m+1 by omega,ez,ih,ez,Int.pow_add,show o+(k+m)=o+k+m by omega];grind
theorem mV {L' L2 b:List Int} {k m:Nat} {c x a:Int} (hlen:L2.length=L'.length) (hk:k+m<L'.length) (hlim:aG L2)
  (iY:∀ j,(j<k\/k+m<=j)->lg L2 j=lg L' j) (hz:∀ j,k+m<=j->lg L' j=0) (hc:0<=c/\c<B)
  (hv:win L2 k m+c*B^m=win L' k m+x*lv b) (ha:win L' 0 (k+m)=a*lv b) :
  let L3:=L2.set (k+m) c
  aG L3/\(∀ j,k+1+m<=j->lg L3 j=0)/\win L3 0 (k+1+m)=(a+x*B^k)*lv b:=by
 intro L3;refine⟨hlim.set _ hc,fun j hj=>?_,?_⟩
 ·show lg (L2.set _ _) j=0
  rw[cK,if_neg (by omega),iY j (by omega),hz j (by omega)]
 ·have e1:win L3 0 (k+m)=win L2 0 (k+m):=fH fun j hj=>by
   show lg (L2.set _ _) _=_;rw[cK,if_neg (by omega)]
  have e2:lg L3 (0+(k+m))=c:=by
   show lg (L2.set _ _) _=_;rw[cK,if_pos ⟨by omega,by omega⟩]
  have e3:win L2 0 k=win L' 0 k:=fH fun j hj=>iY _ (by omega);rw[show k+1+m=k+m+1 by omega,ez,e1,e2,gO,Int.pow_add,e3,Nat.zero_add];rw[gO,Nat.zero_add]at ha
  generalize win L2 k m=p at *;generalize win L' k m=q at *;generalize win L' 0 k=r at *;generalize B^k=P at *;generalize B^m=M at *;generalize lv b=v at *;have e4:P*p+c*(P*M)=P*(p+c*M):=by grind
  have e5:P*(q+x*v)=P*q+x*P*v:=by grind
  have e6:(a+x*P)*v=a*v+x*P*v:=by grind
  rw[e6,<- ha,Int.add_assoc,e4,hv,e5];omega
theorem jF (l:List Int) (o m:Nat):win l o (m+1)=lg l o+B*win l (o+1) m:=by
 rw[Nat.add_comm m 1,gO,show B^1=B from by rw[Int.pow_succ,Int.pow_zero,Int.one_mul]];simp[win,aK]
theorem jQ {l:List Int} (h:aG l) (o n:Nat):0<=win l o n/\win l o n<B^n:=ig n fun j=>h _
theorem l8 {L L':List Int} {i m N:Nat} (hN:i+m<=N) (iY:∀ j,(j<i\/i+m<=j)->lg L' j=lg L j):win L' 0 N-win L 0 N=B^i*(win L' i m-win L i m):=by
 obtain⟨d,rfl⟩:=Nat.exists_eq_add_of_le hN;rw[gO L',gO L,gO L',gO L,Nat.zero_add,Nat.zero_add];have e1:win L' 0 i=win L 0 i:=fH fun j hj=>iY _ (by omega);have e2:win L' (i+m) d=win L (i+m) d:=fH fun j hj=>iY _ (by omega);rw[e1,e2];grind
theorem YB (n:Nat):(256:Int)^(4*n)=B^n:=by
 rw[Int.pow_mul];rfl
theorem l_ {L:List Int} {j:Nat} {x:Int} (hj:j<L.length):lv (L.set j x)=lv L+(x-lg L j)*B^j:=by
 have h:=l8 (L:=L) (L':=L.set j x) (i:=j) (m:=1) (N:=L.length) (by omega) (fun t ht=>by rw[cK,if_neg (by omega)]);have e1:win (L.set j x) 0 L.length=lv (L.set j x):=by
  have:=eH (L.set j x);rw[List.length_set]at this;exact this
 rw[e1,eH]at h
 have w1:∀ l:List Int,win l j 1=lg l j:=fun l=>by
  rw[ez,Int.pow_zero,Int.mul_one,Nat.add_zero];exact Int.zero_add _
 have e2:win (L.set j x) j 1=x:=by rw[w1,cK,if_pos ⟨rfl,hj⟩]
 have e3:win L j 1=lg L j:=w1 L;rw[e2,e3]at h
 have:(x-lg L j)*B^j=B^j*(x-lg L j):=Int.mul_comm _ _;omega
structure gM (f:Nat->Int) (N k:Nat) (L:List Int):Prop where
 len:L.length=N
 lim:aG L
 low:lg L (k / 4)<256^(k%4)
 zero:∀ j,k / 4<j->lg L j=0
 val:lv L=jv f k
theorem gM.step {f:Nat->Int} {N k:Nat} {L:List Int} (h:gM f N k L) (hf:∀ j,0<=f j/\f j<256) (hk:k / 4<N) :
  (0<=f k*256^(k%4)/\f k*256^(k%4)<B/\lg L (k / 4)+f k*256^(k%4)<B)/\gM f N (k+1) (L.set (k / 4) (lg L (k / 4)+f k*256^(k%4))):=by
 have hl0:=(h.lim (k / 4)).1;have VW:=hf k;have Hg:=h.low;have hp:=Yp (k%4);have h3:0<=f k*256^(k%4):=Int.mul_nonneg VW.1 (Int.le_of_lt hp);have h4:f k*256^(k%4)<=(256-1)*256^(k%4):=Int.mul_le_mul_of_nonneg_right (by omega) (Int.le_of_lt hp);have h5:(256-1:Int)*256^(k%4)=256^(k%4+1)-256^(k%4):=by rw[Ys];grind
 have h6:(256:Int)^(k%4+1)<=B:=by
  exact qz (n:=4) (by omega)
 have hval:lv (L.set (k / 4) (lg L (k / 4)+f k*256^(k%4)))=jv f (k+1):=by
  rw[l_ (by rw[h.len];exact hk),h.val];show _=jv f k+f k*256^k;have e:(256:Int)^k=256^(k%4)*B^(k / 4):=by
   rw[<- YB,<- Int.pow_add];congr 1;omega
  rw[e];grind
 refine⟨⟨h3,by omega,by omega⟩,⟨by rw[List.length_set];exact h.len,h.lim.set _ ⟨by omega,by omega⟩,?_,?_,hval⟩⟩
 ·by_cases e:(k+1) / 4=k / 4
  ·rw[e,cK,if_pos ⟨rfl,by rw[h.len];exact hk⟩,show(k+1)%4=k%4+1 by omega]
   omega
  ·rw[cK,if_neg (by omega),h.zero _ (by omega)]
   exact Yp _
 ·intro j hj
  rw[cK,if_neg (by omega)];exact h.zero j (by omega)
theorem gM.start (f:Nat->Int) (N:Nat):gM f N 0 (List.replicate N 0) :=
 ⟨by simp,iI _,by rw[l7];exact Yp _,fun j _=>l7 _ _,jc (m:=0) (by omega) fun j _ _=>l7 _ _⟩
theorem gM.top {f:Nat->Int} {n:Nat} {L:List Int} (h:gM f ((n+3) / 4) n L) (hf:∀ j,0<=f j/\f j<256) (lI:0<n->f (n-1)≠0):Tr L:=by
 cases n with
 | zero=>exact .inl (by rw[h.len])
 | succ n =>
  have hl:=h.len;have hN:(n+1+3) / 4=n / 4+1:=by omega
  right;rw[hl,hN,Nat.add_sub_cancel];intro hz;have e1:lv L=aK (lg L) (n / 4):=by
   unfold lv;rw[hl,hN];show aK (lg L) (n / 4)+lg L (n / 4)*B^(n / 4)=_;rw[hz,Int.zero_mul,Int.add_zero]
  have e2:=h.val;have b:=ig (n / 4) h.lim;have:jv f (n+1)=jv f n+f n*256^n:=rfl;have h0:=(Db n hf).1;have hne:=lI (by omega);rw[Nat.add_sub_cancel]at hne
  have wK:=hf n;have h1:1*256^n<=f n*256^n:=Int.mul_le_mul_of_nonneg_right (by omega) (Int.le_of_lt (Yp n));have h2:B^(n / 4)<=256^n:=by
   rw[<- YB];exact qz (by omega)
  omega
theorem mY {l:List Int} (hl:aG l) (i:Nat):jM (lv l) i=lg l (i / 4) / 256^(i%4)%256:=by
 unfold jM;have e1:lv l=win l 0 (i / 4)+B^(i / 4)*win l (i / 4) (l.length+1):=by
  have:lv l=win l 0 (i / 4+(l.length+1)):=by
   unfold win;rw[jD (g:=lg l) fun j _=>by rw[Nat.zero_add]];exact(jR (by omega)).symm
  rw[this,gO,Nat.zero_add]
 have b:=jQ hl 0 (i / 4);have e2:(256:Int)^i=B^(i / 4)*256^(i%4):=by
  rw[<- YB,<- Int.pow_add];congr 1;omega
 have hp:=Bp (i / 4);rw[e2,<- Int.ediv_ediv_of_nonneg (by omega)];have e3:lv l / B^(i / 4)=win l (i / 4) (l.length+1):=by
  rw[e1,Int.add_mul_ediv_left _ _ (by omega),Int.ediv_eq_zero_of_lt b.1 b.2,Int.zero_add]
 rw[e3,jF];have hB:B=256^(i%4)*(256^(3-i%4)*256):=by
  rw[<- Ys,<- Int.pow_add,show i%4+(3-i%4+1)=4 by omega];rfl
 have e4:lg l (i / 4)+B*win l (i / 4+1) l.length=lg l (i / 4)+256^(i%4)*(256^(3-i%4)*256*win l (i / 4+1) l.length):=by
  rw[hB];grind
 have hy:=Yp (i%4);rw[e4,Int.add_mul_ediv_left _ _ (by omega)];have e5:(256:Int)^(3-i%4)*256*win l (i / 4+1) l.length=256*(256^(3-i%4)*win l (i / 4+1) l.length):=by grind
 rw[e5,Int.add_mul_emod_self_left]
end Go.Proofs.YtcmepkhjggpmeaaGreat.lG
