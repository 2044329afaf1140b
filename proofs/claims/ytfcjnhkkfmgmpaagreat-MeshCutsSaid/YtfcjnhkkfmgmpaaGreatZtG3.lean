set_option linter.all false
set_option maxRecDepth 100000
set_option maxHeartbeats 8000000
namespace Go.Proofs.YtfcjnhkkfmgmpaaGreat.aS
def B:Int:=18446744073709551616
theorem B_eq:B=18446744073709551616:=rfl
def lg (l:List Int) (j:Nat):Int:=l.getD j 0
def aH (l:List Int):Prop:=∀ j,0<=lg l j/\lg l j<B
def aQ (f:Nat->Int):Nat->Int
 | 0=>0
 | n+1=>aQ f n+f n*B^n
def win (l:List Int) (o n:Nat):Int:=aQ (fun j=>lg l (o+j)) n
theorem kg {f g:Nat->Int} {n:Nat} (h:∀ j,j<n->f j=g j):aQ f n=aQ g n:=by
 induction n with
 | zero=>rfl
 | succ n ih=>unfold aQ;rw[ih (fun j hj=>h j (by omega)),h n (by omega)]
theorem cO (l:List Int) (j k:Nat) (x:Int):lg (l.set j x) k=if j=k/\j<l.length then x else lg l k:=by
 unfold lg;rw[List.getD_eq_getElem?_getD,List.getD_eq_getElem?_getD,List.getElem?_set];by_cases h:j=k
 ·subst h
  by_cases h2:j<l.length
  ·simp[h2]
  ·simp[h2]
 ·simp[h]
theorem oz {l:List Int} {j:Nat} (h:l.length<=j):lg l j=0:=by
 unfold lg;rw[List.getD_eq_getElem?_getD,List.getElem?_eq_none h];rfl
theorem Bp (n:Nat):0<B^n:=Int.pow_pos (by decide)
theorem Bs (n:Nat):B^(n+1)=B^n*B:=Int.pow_succ _ _
theorem iX {f:Nat->Int} (n:Nat) (h:∀ j,0<=f j/\f j<B):0<=aQ f n/\aQ f n<B^n:=by
 induction n with
 | zero=>exact⟨Int.le_refl _,by simp[aQ]⟩
 | succ n ih =>
  unfold aQ;rw[Bs];have h1:=h n;have h2:=Bp n;have h3:0<=f n*B^n:=Int.mul_nonneg h1.1 (Int.le_of_lt h2);have h4:f n*B^n<=(B-1)*B^n:=Int.mul_le_mul_of_nonneg_right (by omega) (Int.le_of_lt h2);have h5:(B-1)*B^n=B^n*B-B^n:=by grind
  omega
def fV (x y b:Int):Int:=(x+B-y-b)%B
def fG (x y b:Int):Int:=if x<y+b then 1 else 0
theorem sub_one {x y b:Int} (hx:0<=x/\x<B) (hy:0<=y/\y<B) (hb:b=0\/b=1):0<=fV x y b/\fV x y b<B/\(fG x y b=0\/fG x y b=1)/\fV x y b=x-y-b+fG x y b*B:=by
 unfold fV fG;rw[B_eq]at *
 split <;> omega
def gp (x y c:Int):Int:=(x+y+c)%B
def jg (x y c:Int):Int:=(x+y+c) / B
theorem add_one {x y c:Int} (hx:0<=x/\x<B) (hy:0<=y/\y<B) (hb:c=0\/c=1):0<=gp x y c/\gp x y c<B/\(jg x y c=0\/jg x y c=1)/\gp x y c+jg x y c*B=x+y+c:=by
 unfold gp jg;rw[B_eq]at *
 omega
theorem eO (l:List Int) (o n:Nat):win l o (n+1)=win l o n+lg l (o+n)*B^n:=rfl
theorem gB {l l':List Int} {o n:Nat} (h:∀ j,j<n->lg l (o+j)=lg l' (o+j)):win l o n=win l' o n:=kg h
theorem aH.set {l:List Int} (h:aH l) (j:Nat) {x:Int} (hx:0<=x/\x<B):aH (l.set j x):=by
 intro k;rw[cO];split
 ·exact hx
 ·exact h k
theorem ot {L L' l:List Int} {o k m:Nat} {b:Int} (hk:o+k<L'.length) (hL:aH L') (hl:aH l)
  (jD:∀ j,(j<o\/o+k<=j)->lg L' j=lg L j) (hb:b=0\/b=1) (hm:l.length=m)
  (hv:win L' o k-b*B^k=win L o k-aQ (lg l) (min k m)) :
  let x:=lg L' (o+k);let y:=lg l k;let L2:=L'.set (o+k) (fV x y b);let b2:=fG x y b
  aH L2/\(∀ j,(j<o\/o+(k+1)<=j)->lg L2 j=lg L j)/\(b2=0\/b2=1)/\win L2 o (k+1)-b2*B^(k+1)=win L o (k+1)-aQ (lg l) (min (k+1) m):=by
 intro x y L2 b2;obtain⟨h0,h1,h2,h3⟩:=sub_one (x:=x) (y:=y) (b:=b) (hL _) (hl _) hb;refine⟨hL.set _ ⟨h0,h1⟩,?_,h2,?_⟩
 ·intro j hj
  show lg (L'.set (o+k) _) j=_;rw[cO,if_neg (by omega)];exact jD j (by omega)
 ·have e1:win L2 o k=win L' o k:=gB fun j hj=>by
   show lg (L'.set (o+k) _) _=_;rw[cO,if_neg (by omega)]
  have e2:lg L2 (o+k)=fV x y b:=by
   show lg (L'.set (o+k) _) _=_;rw[cO,if_pos ⟨rfl,hk⟩]
  have e3:aQ (lg l) (min (k+1) m)=aQ (lg l) (min k m)+y*B^k:=by
   by_cases hkm:k<m
   ·rw[show min (k+1) m=k+1 by omega,show min k m=k by omega];rfl
   ·rw[show min (k+1) m=m by omega,show min k m=m by omega]
    have:y=0:=oz (by omega);rw[this];simp
  have e4:lg L (o+k)=x:=(jD (o+k) (by omega)).symm;rw[eO,eO,e1,e2,e3,e4,Bs];show win L' o k+fV x y b*B^k-fG x y b*(B^k*B)=_;rw[h3];generalize fG x y b=c at *;generalize win L' o k=p at *;generalize win L o k=q at *;generalize aQ (lg l) (min k m)=r at *;generalize B^k=P at *;grind
theorem mul_one {x y t c:Int} (hx:0<=x/\x<B) (hy:0<=y/\y<B) (ht:0<=t/\t<B) (hc:0<=c/\c<B) :
  let low:=x*y%B;let l1:=gp low t 0;let c1:=jg low t 0;let l2:=gp l1 c 0;let c2:=jg l1 c 0
  (0<=low/\low<B)/\(0<=l1/\l1<B)/\(0<=x*y / B+c1/\x*y / B+c1<B)/\(0<=l2/\l2<B)/\(0<=x*y / B+c1+c2/\x*y / B+c1+c2<B)/\l2+(x*y / B+c1+c2)*B=x*y+t+c:=by
 intro low l1 c1 l2 c2;have hB:0<B:=by decide
 have JJ:0<=low/\low<B:=⟨Int.emod_nonneg _ (by omega),Int.emod_lt_of_pos _ hB⟩
 have YU:0<=x*y:=Int.mul_nonneg hx.1 hy.1;have hp1:x*y<=(B-1)*(B-1):=Int.mul_le_mul (by omega) (by omega) hy.1 (by omega);have hd:B*(x*y / B)+low=x*y:=Int.mul_ediv_add_emod _ _;have hh:0<=x*y / B:=Int.ediv_nonneg YU (by omega);obtain⟨a0,a1,a2,a3⟩:=add_one JJ ht (Or.inl rfl:(0:Int)=0\/(0:Int)=1);obtain⟨b0,b1,b2,b3⟩:=add_one (x:=l1) (y:=c) (c:=0) ⟨a0,a1⟩ hc (Or.inl rfl);have e1:(B-1)*(B-1)=B*B-2*B+1:=by grind
 have e2:l1+(x*y / B+c1)*B=x*y+t:=by
  have:(x*y / B+c1)*B=B*(x*y / B)+c1*B:=by grind
  have a3':l1+c1*B=low+t+0:=a3;omega
 have e3:l2+(x*y / B+c1+c2)*B=x*y+t+c:=by
  have:(x*y / B+c1+c2)*B=(x*y / B+c1)*B+c2*B:=by grind
  have b3':l2+c2*B=l1+c+0:=b3;omega
 refine⟨JJ,⟨a0,a1⟩,⟨by rcases a2 with h|h <;> omega,?_⟩,⟨b0,b1⟩,⟨by rcases a2 with h|h <;> rcases b2 with h'|h' <;> omega,?_⟩,e3⟩
 ·apply Int.lt_of_not_ge
  intro hge;have:B*B<=(x*y / B+c1)*B:=Int.mul_le_mul_of_nonneg_right hge (by omega);omega
 ·apply Int.lt_of_not_ge
  intro hge;have:B*B<=(x*y / B+c1+c2)*B:=Int.mul_le_mul_of_nonneg_right hge (by omega);omega
theorem nP {L L' l:List Int} {o k:Nat} {x c:Int} (hk:o+k<L'.length) (hL:aH L') (hl:aH l)
  (jD:∀ j,(j<o\/o+k<=j)->lg L' j=lg L j) (hx:0<=x/\x<B) (hc:0<=c/\c<B)
  (hv:win L' o k+c*B^k=win L o k+x*aQ (lg l) k) {d c2:Int} (hd:0<=d/\d<B) (he:d+c2*B=x*lg l k+lg L' (o+k)+c) :
  let L2:=L'.set (o+k) d
  aH L2/\(∀ j,(j<o\/o+(k+1)<=j)->lg L2 j=lg L j)/\win L2 o (k+1)+c2*B^(k+1)=win L o (k+1)+x*aQ (lg l) (k+1):=by
 intro L2;refine⟨hL.set _ hd,?_,?_⟩
 ·intro j hj
  show lg (L'.set (o+k) _) j=_;rw[cO,if_neg (by omega)];exact jD j (by omega)
 ·have e1:win L2 o k=win L' o k:=gB fun j hj=>by
   show lg (L'.set (o+k) _) _=_;rw[cO,if_neg (by omega)]
  have e2:lg L2 (o+k)=d:=by
   show lg (L'.set (o+k) _) _=_;rw[cO,if_pos ⟨rfl,hk⟩]
  have e4:lg L (o+k)=lg L' (o+k):=(jD (o+k) (by omega)).symm;rw[eO,eO,e1,e2,e4,Bs];show win L' o k+d*B^k+c2*(B^k*B)=win L o k+lg L' (o+k)*B^k+x*(aQ (lg l) k+lg l k*B^k);generalize win L' o k=p at *;generalize win L o k=q at *;generalize aQ (lg l) k=r at *;generalize B^k=P at *;generalize lg L' (o+k)=t at *;generalize lg l k=y at *;have:d=x*y+t+c-c2*B:=by omega
  subst this;grind
def lv (l:List Int):Int:=aQ (lg l) l.length
def Tr (l:List Int):Prop:=l.length=0\/lg l (l.length-1)≠0
theorem jH {f:Nat->Int} {m n:Nat} (hmn:m<=n) (h:∀ j,m<=j->j<n->f j=0):aQ f n=aQ f m:=by
 induction n with
 | zero=>rw[show m=0 by omega]
 | succ n ih =>
  by_cases e:m=n+1
  ·rw[e]
  ·show aQ f n+f n*B^n=_
   rw[h n (by omega) (by omega),ih (by omega) (fun j h1 h2=>h j h1 (by omega))];simp
theorem kM {l:List Int} {n:Nat} (h:l.length<=n):aQ (lg l) n=lv l:=jH h fun _ h1 _=>oz h1
theorem Aw (l:List Int) (m j:Nat):lg (l.take m) j=if j<m then lg l j else 0:=by
 unfold lg;rw[List.getD_eq_getElem?_getD,List.getD_eq_getElem?_getD,List.getElem?_take];split <;> rfl
theorem aH.take {l:List Int} (h:aH l) (m:Nat):aH (l.take m):=by
 intro j;rw[Aw];split
 ·exact h j
 ·exact⟨Int.le_refl _,by decide⟩
theorem dF {l:List Int} (h:aH l):0<=lv l/\lv l<B^l.length:=iX _ h
theorem nZ:lv []=0:=rfl
def bG (l:List Int):Nat->Nat
 | 0=>0
 | n+1=>if lg l n=0 then bG l n else n+1
theorem qU (l:List Int) (n:Nat):bG l n<=n:=by
 induction n with
 | zero=>exact Nat.le_refl _
 | succ n ih=>unfold bG;split <;> omega
theorem KL {l:List Int} {k:Nat} (h:lg l k=0):bG l (k+1)=bG l k:=by
 show(if lg l k=0 then bG l k else k+1)=_;rw[if_pos h]
theorem KM {l:List Int} {k:Nat} (h:¬ lg l k=0):bG l (k+1)=k+1:=by
 show(if lg l k=0 then bG l k else k+1)=_;rw[if_neg h]
theorem Tf (l:List Int) (n:Nat):∀ j,bG l n<=j->j<n->lg l j=0:=by
 induction n with
 | zero=>intro j _ h;omega
 | succ n ih =>
  intro j h1 h2;by_cases hz:lg l n=0
  ·rw[KL hz]at h1
   by_cases e:j=n
   ·rw[e];exact hz
   ·exact ih j h1 (by omega)
  ·rw[KM hz]at h1;omega
theorem aaz (l:List Int) (n:Nat):bG l n=0\/lg l (bG l n-1)≠0:=by
 induction n with
 | zero=>exact .inl rfl
 | succ n ih =>
  by_cases hz:lg l n=0
  ·rw[KL hz];exact ih
  ·rw[KM hz];exact .inr hz
theorem gK (l:List Int):(l.take (bG l l.length)).length=bG l l.length:=by
 rw[List.length_take];have:=qU l l.length;omega
theorem eH (l:List Int):lv (l.take (bG l l.length))=lv l:=by
 unfold lv;rw[gK,jH (qU l l.length) (Tf l l.length)];exact kg fun j hj=>by rw[Aw,if_pos hj]
theorem lF (l:List Int):Tr (l.take (bG l l.length)):=by
 unfold Tr;rw[gK];rcases aaz l l.length with h|h
 ·exact .inl h
 ·by_cases e:bG l l.length=0
  ·exact .inl e
  ·right
   rw[Aw,if_pos (by omega)];exact h
theorem mX (n j:Nat):lg (List.replicate n 0) j=0:=by
 unfold lg;rw[List.getD_eq_getElem?_getD,List.getElem?_replicate];split <;> rfl
theorem jd (n:Nat):aH (List.replicate n 0):=fun j=>by rw[mX];exact⟨Int.le_refl _,by decide⟩
theorem fj (l:List Int):win l 0 l.length=lv l:=kg fun j _=>by rw[Nat.zero_add]
theorem nU {L' x y:List Int} {k:Nat} {c:Int} (hk:k<L'.length) (hL:aH L') (hx:aH x) (hy:aH y) (hc:c=0\/c=1)
  (hv:win L' 0 k+c*B^k=aQ (lg x) k+aQ (lg y) k) :
  let L2:=L'.set k (gp (lg x k) (lg y k) c);let c2:=jg (lg x k) (lg y k) c
  aH L2/\(c2=0\/c2=1)/\win L2 0 (k+1)+c2*B^(k+1)=aQ (lg x) (k+1)+aQ (lg y) (k+1):=by
 intro L2 c2;obtain⟨a0,a1,a2,a3⟩:=add_one (hx k) (hy k) hc;refine⟨hL.set _ ⟨a0,a1⟩,a2,?_⟩;have e1:win L2 0 k=win L' 0 k:=gB fun j hj=>by
  show lg (L'.set k _) _=_;rw[cO,if_neg (by omega)]
 have e2:lg L2 (0+k)=gp (lg x k) (lg y k) c:=by
  show lg (L'.set k _) _=_;rw[cO,if_pos ⟨by omega,hk⟩]
 rw[eO,e1,e2,Bs];show win L' 0 k+gp (lg x k) (lg y k) c*B^k+c2*(B^k*B)=aQ (lg x) k+lg x k*B^k+(aQ (lg y) k+lg y k*B^k)
 have a3':gp (lg x k) (lg y k) c+c2*B=lg x k+lg y k+c:=a3;generalize gp (lg x k) (lg y k) c=d at *;generalize win L' 0 k=p at *;generalize aQ (lg x) k=q at *;generalize aQ (lg y) k=r at *;generalize B^k=P at *;generalize lg x k=u at *;generalize lg y k=v at *;have:d=u+v+c-c2*B:=by omega
 subst this;grind
theorem kY {m n:Nat} (h:m<=n):B^m<=B^n:=by
 obtain⟨d,rfl⟩:=Nat.exists_eq_add_of_le h;rw[Int.pow_add];have h1:=Bp m;have h2:=Bp d;have:B^m*1<=B^m*B^d:=Int.mul_le_mul_of_nonneg_left (by omega) (by omega);omega
theorem nY {L x y:List Int} {n:Nat} {c:Int} (hL:L.length=n+1) (j3:aH L) (hx:aH x) (hy:aH y) (JZ:x.length<=n) (Nb:y.length<=n) (hc:c=0\/c=1)
  (hv:win L 0 (n+1)+c*B^(n+1)=aQ (lg x) (n+1)+aQ (lg y) (n+1)):lv L=lv x+lv y:=by
 rw[kM (by omega),kM (by omega)]at hv
 have e:win L 0 (n+1)=lv L:=by rw[<- hL];exact fj L
 rw[e]at hv
 have b1:=dF hx;have b2:=dF hy;have b3:=(dF j3).1;have m1:=kY JZ;have m2:=kY Nb;have m3:=Bp n;rw[Bs]at hv
 have:B^n*2<=B^n*B:=Int.mul_le_mul_of_nonneg_left (by decide) (by omega);rcases hc with rfl|rfl
 ·omega
 ·omega
theorem iu {r:List Int} (h:Tr r) (hl:aH r) {k:Nat} (hv:lv r<B^k):r.length<=k:=by
 apply Nat.le_of_not_lt;intro hgt;rcases h with h|h
 ·omega
 ·obtain⟨m,hm⟩:∃ m,r.length=m+1:=⟨r.length-1,by omega⟩
  have e:lv r=aQ (lg r) m+lg r m*B^m:=by unfold lv;rw[hm];rfl
  rw[hm]at h
  have h1:=(iX m hl).1;have h2:=hl m;have h3:lg r m≠0:=h;have h4:=Bp m;have h5:1*B^m<=lg r m*B^m:=Int.mul_le_mul_of_nonneg_right (by omega) (by omega);have:=kY (show k<=m by omega);omega
def dY (a b:Int):Int:=if a<b then -1 else if b<a then 1 else 0
def pZ (a b:List Int):Nat->Int
 | 0=>0
 | n+1=>if dY (lg a n) (lg b n)=0 then pZ a b n else dY (lg a n) (lg b n)
def um (a b:List Int) (n m:Nat):Int:=if dY n m=0 then pZ a b n else dY n m
theorem KO {a b:List Int} {k:Nat} (h:dY (lg a k) (lg b k)=0):pZ a b (k+1)=pZ a b k:=by
 show(if dY (lg a k) (lg b k)=0 then pZ a b k else _)=_;rw[if_pos h]
theorem Cp {a b:List Int} {k:Nat} (h:¬ dY (lg a k) (lg b k)=0):pZ a b (k+1)=dY (lg a k) (lg b k):=by
 show(if dY (lg a k) (lg b k)=0 then pZ a b k else _)=_;rw[if_neg h]
theorem Tk {n m:Nat} (h:dY n m=0):n=m:=by
 unfold dY at h;split at h
 ·omega
 ·split at h <;> omega
theorem yL {a b:Int} (h:a<b):dY a b = -1:=by unfold dY;rw[if_pos h]
theorem IA {a b:Int} (h:b<a):dY a b=1:=by unfold dY;rw[if_neg (by omega),if_pos h]
theorem OK (a:Int):dY a a=0:=by unfold dY;rw[if_neg (by omega),if_neg (by omega)]
theorem tP (a b:Int):(a<b/\dY a b = -1)\/(a=b/\dY a b=0)\/(b<a/\dY a b=1):=by
 by_cases h1:a<b
 ·exact .inl ⟨h1,yL h1⟩
 ·by_cases h2:b<a
  ·exact .inr (.inr ⟨h2,IA h2⟩)
  ·have:a=b:=by omega
   subst this;exact .inr (.inl ⟨rfl,OK a⟩)
theorem nV {a b:List Int} (ha:aH a) (hb:aH b) (n:Nat):pZ a b n=dY (aQ (lg a) n) (aQ (lg b) n):=by
 induction n with
 | zero=>rfl
 | succ n ih =>
  have e1:aQ (lg a) (n+1)=aQ (lg a) n+lg a n*B^n:=rfl;have e2:aQ (lg b) (n+1)=aQ (lg b) n+lg b n*B^n:=rfl;have b1:=iX n ha;have b2:=iX n hb;have hp:=Bp n;rw[e1,e2];rcases tP (lg a n) (lg b n) with ⟨h,hc⟩|⟨h,hc⟩|⟨h,hc⟩
  ·rw[Cp (by omega),hc]
   have:(lg a n+1)*B^n<=lg b n*B^n:=Int.mul_le_mul_of_nonneg_right (by omega) (by omega);have e:(lg a n+1)*B^n=lg a n*B^n+B^n:=by grind
   rw[yL (by omega)]
  ·rw[KO hc,ih,h]
   generalize lg b n*B^n=q;unfold dY;have e1:(aQ (lg a) n+q<aQ (lg b) n+q)=(aQ (lg a) n<aQ (lg b) n):=by
    apply propext;omega
   have e2:(aQ (lg b) n+q<aQ (lg a) n+q)=(aQ (lg b) n<aQ (lg a) n):=by
    apply propext;omega
   simp only[e1,e2]
  ·rw[Cp (by omega),hc]
   have:(lg b n+1)*B^n<=lg a n*B^n:=Int.mul_le_mul_of_nonneg_right (by omega) (by omega);have e:(lg b n+1)*B^n=lg b n*B^n+B^n:=by grind
   rw[IA (by omega)]
theorem lM {a b:List Int} (ha:aH a) (hb:aH b) (tb:Tr b) (h:a.length<b.length):lv a<lv b:=by
 apply Int.lt_of_not_ge;intro hge;have:=iu tb hb (k:=a.length) (by have:=(dF ha).2;omega);omega
theorem lN {a b:List Int} (ha:aH a) (hb:aH b) (ta:Tr a) (tb:Tr b):um a b a.length b.length=dY (lv a) (lv b):=by
 unfold um;rcases tP (a.length:Int) (b.length:Int) with ⟨h,hc⟩|⟨h,hc⟩|⟨h,hc⟩
 ·rw[if_neg (by omega),hc,yL (lM ha hb tb (by omega))]
 ·rw[if_pos hc,nV ha hb]
  have:a.length=b.length:=by omega
  unfold lv;rw[<- this]
 ·rw[if_neg (by omega),hc,IA (lM hb ha ta (by omega))]
theorem nW {L a l:List Int} {n:Nat} {b:Int} (hL:L.length=n) (j3:aH L) (hla:aH a) (ha:a.length=n) (hl:aH l) (xP:l.length<=n) (hb:b=0\/b=1)
  (hle:lv l<=lv a) (hv:win L 0 n-b*B^n=win a 0 n-aQ (lg l) (min n l.length)):lv L=lv a-lv l:=by
 have e:win L 0 n=lv L:=by rw[<- hL];exact fj L
 have e2:win a 0 n=lv a:=by rw[<- ha];exact fj a
 rw[e,e2,show min n l.length=l.length by omega,show aQ (lg l) l.length=lv l from rfl]at hv
 have h1:=dF j3;rw[hL]at h1
 rcases hb with rfl|rfl
 ·omega
 ·omega
theorem iO (l:List Int) (o k m:Nat):win l o (k+m)=win l o k+B^k*win l (o+k) m:=by
 induction m with
 | zero=>simp[win,aQ]
 | succ m ih =>
  rw[show k+(m+1)=k+m+1 by omega,eO,ih,eO,Int.pow_add,show o+(k+m)=o+k+m by omega];grind
theorem nX {L' L2 b:List Int} {k m:Nat} {c x a:Int} (hlen:L2.length=L'.length) (hk:k+m<L'.length) (j3:aH L2)
  (jD:∀ j,(j<k\/k+m<=j)->lg L2 j=lg L' j) (hz:∀ j,k+m<=j->lg L' j=0) (hc:0<=c/\c<B)
  (hv:win L2 k m+c*B^m=win L' k m+x*lv b) (ha:win L' 0 (k+m)=a*lv b) :
  let L3:=L2.set (k+m) c
  aH L3/\(∀ j,k+1+m<=j->lg L3 j=0)/\win L3 0 (k+1+m)=(a+x*B^k)*lv b:=by
 intro L3;refine⟨j3.set _ hc,fun j hj=>?_,?_⟩
 ·show lg (L2.set _ _) j=0
  rw[cO,if_neg (by omega),jD j (by omega),hz j (by omega)]
 ·have e1:win L3 0 (k+m)=win L2 0 (k+m):=gB fun j hj=>by
   show lg (L2.set _ _) _=_;rw[cO,if_neg (by omega)]
  have e2:lg L3 (0+(k+m))=c:=by
   show lg (L2.set _ _) _=_;rw[cO,if_pos ⟨by omega,by omega⟩]
  have e3:win L2 0 k=win L' 0 k:=gB fun j hj=>jD _ (by omega);rw[show k+1+m=k+m+1 by omega,eO,e1,e2,iO,Int.pow_add,e3,Nat.zero_add];rw[iO,Nat.zero_add]at ha
  generalize win L2 k m=p at *;generalize win L' k m=q at *;generalize win L' 0 k=r at *;generalize B^k=P at *;generalize B^m=M at *;generalize lv b=v at *;have e4:P*p+c*(P*M)=P*(p+c*M):=by grind
  have e5:P*(q+x*v)=P*q+x*P*v:=by grind
  have e6:(a+x*P)*v=a*v+x*P*v:=by grind
  rw[e6,<- ha,Int.add_assoc,e4,hv,e5];omega
theorem aD {p:Prop} (h:p:=by omega):p:=h
structure vu (cK U1 Y Y1 Y0:Int):Prop where
 y:Y=Y1*4294967296+Y0
 y0:0<=Y0/\Y0<4294967296
 y1:2147483648<=Y1/\Y1<4294967296
 u:0<=cK/\cK<Y
 u1:0<=U1/\U1<4294967296
structure sA (cK U1 Y Y1 q r:Int):Prop where
 e:q*Y1+r=cK
 r0:0<=r
 le:(cK*4294967296+U1) / Y<=q
 q0:0<=q
 q1:q<=8589934592
variable {cK U1 Y Y1 Y0 q r:Int}
theorem vu.pos (h:vu cK U1 Y Y1 Y0):0<Y:=by
 have h1:=h.y;have h2:=h.y0;have h3:=h.y1;omega
theorem vu.quo (h:vu cK U1 Y Y1 Y0):0<=(cK*4294967296+U1) / Y :=
 Int.ediv_nonneg (by have:=h.u;have:=h.u1;omega) (by have:=h.pos;omega)
theorem vu.start (h:vu cK U1 Y Y1 Y0):sA cK U1 Y Y1 (cK / Y1) (cK%Y1)/\cK%Y1<4294967296:=by
 have h1:=h.y1;have h2:=h.u;have h3:=h.y0;have hy:=h.y;have hd:Y1*(cK / Y1)+cK%Y1=cK:=Int.mul_ediv_add_emod _ _;have hm0:0<=cK%Y1:=Int.emod_nonneg _ (by omega);have hm1:cK%Y1<Y1:=Int.emod_lt_of_pos _ (by omega);have Nd:0<=cK / Y1:=Int.ediv_nonneg h2.1 (by omega);refine⟨⟨by rw[Int.mul_comm];exact hd,hm0,?_,Nd,?_⟩,by omega⟩
 ·apply Int.le_ediv_of_mul_le (by omega)
  have hp:=h.pos;have hn:(cK*4294967296+U1) / Y*Y<=cK*4294967296+U1:=Int.ediv_mul_le _ (by omega);have hq:=h.quo;generalize (cK*4294967296+U1) / Y=Q at *;have h5:Q*Y=Q*Y1*4294967296+Q*Y0:=by rw[hy];grind
  have h6:0<=Q*Y0:=Int.mul_nonneg hq h3.1;have h7:=h.u1;rw[h5]at hn
  generalize Q*Y1=z at *;omega
 ·apply Int.le_of_lt_add_one
  apply Int.ediv_lt_of_lt_mul (by omega);have:(4294967296*2+1)*2147483648<=(8589934592+1)*Y1:=Int.mul_le_mul (by omega) h1.1 (by omega) (by omega);omega
theorem sA.step (h:vu cK U1 Y Y1 Y0) (i:sA cK U1 Y Y1 q r) (hr:r<4294967296) (ht:4294967296<=q\/4294967296*r+U1<q*Y0):sA cK U1 Y Y1 (q-1) (r+Y1):=by
 have h1:=h.y1;have h2:=h.u;have h3:=h.y0;have h4:=h.u1;have hlt:cK*4294967296+U1<q*Y:=by
  rcases ht with ht|ht
  ·have:4294967296*Y<=q*Y:=Int.mul_le_mul_of_nonneg_right ht (by omega)
   omega
  ·have e1:q*Y=q*Y1*4294967296+q*Y0:=by rw[h.y];grind
   have e2:=i.e;rw[e1];generalize q*Y1=z at *;omega
 have hle:(cK*4294967296+U1) / Y<q:=Int.ediv_lt_of_lt_mul h.pos hlt;have hq:=h.quo;refine⟨?_,by have:=i.r0;omega,by omega,by omega,by have:=i.q1;omega⟩;have e2:=i.e;have:(q-1)*Y1=q*Y1-Y1:=by grind
 omega
theorem sA.exit (h:vu cK U1 Y Y1 Y0) (i:sA cK U1 Y Y1 q r) (ht:q*Y0<=4294967296*r+U1):q=(cK*4294967296+U1) / Y:=by
 have hle:q<=(cK*4294967296+U1) / Y:=by
  apply Int.le_ediv_of_mul_le h.pos;have e1:q*Y=q*Y1*4294967296+q*Y0:=by rw[h.y];grind
  have e2:=i.e;rw[e1];generalize q*Y1=z at *;omega
 have:=i.le;omega
theorem sA.Qy (h:vu cK U1 Y Y1 Y0) (i:sA cK U1 Y Y1 q r) (hr:4294967296<=r):q=(cK*4294967296+U1) / Y:=by
 have h1:=h.y1;have h2:=h.u;have h3:=h.y0;have h4:=h.u1;have hy:=h.y;have hq:q<4294967296:=by
  apply Int.lt_of_not_ge;intro hge;have:4294967296*Y1<=q*Y1:=Int.mul_le_mul_of_nonneg_right hge (by omega);have:=i.e;omega
 apply i.exit h;have:=i.q0;have:q*Y0<=4294967295*4294967295:=Int.mul_le_mul (by omega) (by omega) h3.1 (by omega);omega
theorem On (h:vu cK U1 Y Y1 Y0) (i:sA cK U1 Y Y1 q r) (hr:r<4294967296):(q<4294967296->0<=q*Y0/\q*Y0<B)/\(0<=q*Y1/\q*Y1<B)/\(0<=4294967296*r/\4294967296*r<B)/\(0<=4294967296*r+U1/\4294967296*r+U1<B)/\(0<=r+Y1/\r+Y1<B):=by
 have h1:=h.y1;have h2:=h.u;have h3:=h.y0;have h4:=h.u1;have hy:=h.y;have:=i.q0;have:=i.r0;have e:=i.e;rw[B_eq];refine⟨fun hq=>⟨Int.mul_nonneg (by omega) (by omega),?_⟩,⟨Int.mul_nonneg (by omega) (by omega),by omega⟩,by omega,by omega,by omega⟩;have:q*Y0<=4294967295*4294967295:=Int.mul_le_mul (by omega) (by omega) h3.1 (by omega);omega
theorem aaH (h:vu cK U1 Y Y1 Y0):let Q:=(cK*4294967296+U1) / Y;0<=cK*4294967296+U1-Q*Y/\cK*4294967296+U1-Q*Y<Y/\Q<4294967296:=by
 intro Q;have hp:=h.pos;have h2:=h.u;have h4:=h.u1;have e:Y*Q+(cK*4294967296+U1)%Y=cK*4294967296+U1:=Int.mul_ediv_add_emod _ _;have m0:0<=(cK*4294967296+U1)%Y:=Int.emod_nonneg _ (by omega);have m1:(cK*4294967296+U1)%Y<Y:=Int.emod_lt_of_pos _ hp;have e2:Q*Y=Y*Q:=Int.mul_comm _ _;refine⟨by omega,by omega,?_⟩;apply Int.ediv_lt_of_lt_mul hp;omega
theorem Tc {lo S T:Int} (hS:0<S) (hT:0<T) (iF:S*T=B) (h0:0<=lo/\lo<B):lo*S=lo / T*B+lo*S%B/\0<=lo / T/\lo / T<S:=by
 have hB:0<B:=by decide
 have e:lo*S / B=lo / T:=by
  rw[<- iF,Int.mul_comm lo S,Int.mul_ediv_mul_of_pos _ _ hS]
 have h1:B*(lo*S / B)+lo*S%B=lo*S:=Int.mul_ediv_add_emod _ _;rw[e]at h1
 refine⟨by rw[Int.mul_comm (lo / T)];omega,Int.ediv_nonneg h0.1 (by omega),?_⟩;apply Int.ediv_lt_of_lt_mul hT;rw[iF];exact h0.2
theorem U_ {U y q:Int} (hy:0<y) (h1:q*y<=U) (h2:U<q*y+y):U / y=q/\U%y=U-q*y:=by
 have a1:q<=U / y:=Int.le_ediv_of_mul_le hy h1;have a2:U / y<q+1:=Int.ediv_lt_of_lt_mul hy (by have:(q+1)*y=q*y+y:=(by grind);omega);have e:U / y=q:=by omega
 refine⟨e,?_⟩;have:y*(U / y)+U%y=U:=Int.mul_ediv_add_emod _ _;rw[e,Int.mul_comm]at this
 omega
theorem ai_ {hi lo y S cK U1 U0 Q1 Q0 R:Int} (hS:0<S) (hy:0<y) (hU:(hi*B+lo)*S=(cK*4294967296+U1)*4294967296+U0)
  (hR:R=(cK*4294967296+U1-Q1*(y*S))*4294967296+U0-Q0*(y*S)) (hR0:0<=R) (hR1:R<y*S) :
  (hi*B+lo) / y=Q1*4294967296+Q0/\(hi*B+lo)%y=R / S:=by
 generalize hi*B+lo=U at *;generalize cK*4294967296+U1=N at *;have e1:R=(U-(Q1*4294967296+Q0)*y)*S:=by rw[hR];grind
 generalize Q1*4294967296+Q0=q at *;have g1:0<=U-q*y:=by
  apply Int.le_of_not_gt;intro hlt;have:(U-q*y)*S<=(-1)*S:=Int.mul_le_mul_of_nonneg_right (by omega) (by omega);omega
 have g2:U-q*y<y:=by
  apply Int.lt_of_not_ge;intro hge;have:y*S<=(U-q*y)*S:=Int.mul_le_mul_of_nonneg_right hge (by omega);omega
 obtain⟨h1,h2⟩:=U_ (U:=U) (q:=q) hy (by omega) (by omega);refine⟨h1,?_⟩;rw[h2,e1,Int.mul_ediv_cancel _ (by omega)]
theorem akD {L a:List Int} {k:Nat} {S T:Int} (hS:0<S) (hT:0<T) (iF:S*T=B) (hk:k+1<L.length) (hL:aH L) (ha:aH a)
  (JJ:lg L k<S) (hz:∀ j,k<j->lg L j=0) (hv:win L 0 (k+1)=S*aQ (lg a) k) :
  let x:=lg a k;let L2:=(L.set k (lg L k+x*S%B)).set (k+1) (x / T)
  (0<=lg L k+x*S%B/\lg L k+x*S%B<B)/\aH L2/\lg L2 (k+1)<S/\(∀ j,k+1<j->lg L2 j=0)/\win L2 0 (k+1+1)=S*aQ (lg a) (k+1):=by
 intro x L2;obtain⟨p1,p2,p3⟩:=Tc hS hT iF (ha k);have hB:0<B:=by decide
 have r0:0<=x*S%B:=Int.emod_nonneg _ (by omega);have r1:x*S%B<B:=Int.emod_lt_of_pos _ hB;have rm:x*S%B%S=0:=by
  rw[<- iF,Int.emod_emod_of_dvd _ (Int.dvd_mul_right S T)];exact Int.mul_emod_left _ _
 have l0:=(hL k).1;have hsum:lg L k+x*S%B<B:=by
  have e1:S*(x*S%B / S)+x*S%B%S=x*S%B:=Int.mul_ediv_add_emod _ _;rw[rm]at e1
  generalize x*S%B / S=z at *;have:z<T:=by
   apply Int.lt_of_not_ge;intro hge;have:S*T<=S*z:=Int.mul_le_mul_of_nonneg_left hge (by omega);omega
  have:S*(z+1)<=S*T:=Int.mul_le_mul_of_nonneg_left (by omega) (by omega);have:S*(z+1)=S*z+S:=by grind
  omega
 have hxT:0<=x / T/\x / T<B:=by
  refine⟨p2,?_⟩;have:S*1<=S*T:=Int.mul_le_mul_of_nonneg_left (by omega) (by omega);show lg a k / T<B;omega
 refine⟨⟨by omega,hsum⟩,(hL.set _ ⟨by omega,hsum⟩).set _ hxT,?_,?_,?_⟩
 ·show lg ((L.set k _).set (k+1) _) (k+1)<S
  rw[cO,if_pos ⟨rfl,by rw[List.length_set];exact hk⟩];exact p3
 ·intro j hj
  show lg ((L.set k _).set (k+1) _) j=0;rw[cO,if_neg (by omega),cO,if_neg (by omega)];exact hz j (by omega)
 ·have e1:win L2 0 k=win L 0 k:=gB fun j hj=>by
   show lg ((L.set k _).set (k+1) _) _=_;rw[cO,if_neg (by omega),cO,if_neg (by omega)]
  have e2:lg L2 (0+k)=lg L k+x*S%B:=by
   show lg ((L.set k _).set (k+1) _) _=_;rw[cO,if_neg (by omega),cO,if_pos ⟨by omega,by omega⟩]
  have e3:lg L2 (0+(k+1))=x / T:=by
   show lg ((L.set k _).set (k+1) _) _=_;rw[cO,if_pos ⟨by omega,by rw[List.length_set];exact hk⟩]
  rw[eO,eO,e1,e2,e3,Bs];rw[eO,Nat.zero_add]at hv
  show win L 0 k+(lg L k+x*S%B)*B^k+x / T*(B^k*B)=S*(aQ (lg a) k+x*B^k);have p1':x*S=x / T*B+x*S%B:=p1;generalize x*S%B=u at *;generalize x / T=v at *;generalize B^k=P at *;generalize aQ (lg a) k=q at *;generalize win L 0 k=p at *;generalize lg L k=l at *;have e4:S*(q+x*P)=S*q+x*S*P:=by grind
  rw[e4,<- hv,p1'];grind
theorem akE {L a:List Int} {k:Nat} {S T c:Int} (hS:0<S) (hT:0<T) (iF:S*T=B) (hk:k<L.length) (hL:aH L) (ha:aH a)
  (hv:win L 0 k*S=aQ (lg a) k-c+lg a k%S*B^k) :
  let d:=lg a k / S+lg a (k+1)*T%B;let L2:=L.set k d
  (0<=lg a k / S/\lg a k / S<T/\lg a k / S<B)/\lg a (k+1)*T%B%T=0/\(0<=lg a (k+1)*T%B/\lg a (k+1)*T%B<B)/\aH L2/\win L2 0 (k+1)*S=aQ (lg a) (k+1)-c+lg a (k+1)%S*B^(k+1):=by
 intro d L2;have YZ:T*S=B:=by rw[Int.mul_comm];exact iF
 obtain⟨p1,p2,p3⟩:=Tc hT hS YZ (ha (k+1));have hB:0<B:=by decide
 have r0:0<=lg a (k+1)*T%B:=Int.emod_nonneg _ (by omega);have r1:lg a (k+1)*T%B<B:=Int.emod_lt_of_pos _ hB;have rm:lg a (k+1)*T%B%T=0:=by
  rw[<- YZ,Int.emod_emod_of_dvd _ (Int.dvd_mul_right T S)];exact Int.mul_emod_left _ _
 have q0:0<=lg a k / S:=Int.ediv_nonneg (ha k).1 (by omega);have q1:lg a k / S<T:=by
  apply Int.ediv_lt_of_lt_mul hS;rw[YZ];exact(ha k).2
 have hTB:T<=B:=by
  have:T*1<=T*S:=Int.mul_le_mul_of_nonneg_left (by omega) (by omega);omega
 have hsum:d<B:=by
  have e1:T*(lg a (k+1)*T%B / T)+lg a (k+1)*T%B%T=lg a (k+1)*T%B:=Int.mul_ediv_add_emod _ _;rw[rm]at e1
  show lg a k / S+lg a (k+1)*T%B<B;generalize lg a (k+1)*T%B / T=z at *;have:z<S:=by
   apply Int.lt_of_not_ge;intro hge;have:T*S<=T*z:=Int.mul_le_mul_of_nonneg_left hge (by omega);omega
  have:T*(z+1)<=T*S:=Int.mul_le_mul_of_nonneg_left (by omega) (by omega);have:T*(z+1)=T*z+T:=by grind
  omega
 refine⟨⟨q0,q1,by omega⟩,rm,⟨r0,r1⟩,hL.set _ ⟨by omega,hsum⟩,?_⟩;have e1:S*(lg a k / S)+lg a k%S=lg a k:=Int.mul_ediv_add_emod _ _;have e2:S*(lg a (k+1) / S)+lg a (k+1)%S=lg a (k+1):=Int.mul_ediv_add_emod _ _;have f1:win L2 0 k=win L 0 k:=gB fun j hj=>by
  show lg (L.set k _) _=_;rw[cO,if_neg (by omega)]
 have f2:lg L2 (0+k)=d:=by
  show lg (L.set k _) _=_;rw[cO,if_pos ⟨by omega,hk⟩]
 rw[eO,f1,f2,Bs];show(win L 0 k+(lg a k / S+lg a (k+1)*T%B)*B^k)*S=aQ (lg a) k+lg a k*B^k-c+_;have e3:lg a (k+1)*T%B=lg a (k+1)*T-lg a (k+1) / S*B:=by omega
 rw[e3];generalize lg a k%S=m0 at *;generalize lg a (k+1)%S=m1 at *;generalize lg a k / S=d0 at *;generalize lg a (k+1) / S=d1 at *;generalize lg a k=x at *;generalize lg a (k+1)=y at *;generalize B^k=P at *;generalize win L 0 k=W at *;generalize aQ (lg a) k=Q at *;have hx:x=S*d0+m0:=by omega
 have hy:y=S*d1+m1:=by omega
 have e4:(W+(d0+(y*T-d1*B))*P)*S=W*S+(d0*S)*P+(y*(S*T)-d1*B*S)*P:=by grind
 rw[e4,hv,iF,hx,hy];grind
theorem alp {L a:List Int} {n:Nat} {S T v:Int} (hS:0<S) (iF:S*T=B) (hL:L.length=n) (ha:a.length=n) (hv:lv a=v*S)
  (h:win L 0 n*S=aQ (lg a) n-lg a 0%S+lg a n%S*B^n):lv L=v:=by
 have e1:win L 0 n=lv L:=by rw[<- hL];exact fj L
 have e2:aQ (lg a) n=lv a:=by rw[<- ha];rfl
 have e3:lg a n=0:=oz (by omega);rw[e1,e2,e3]at h
 have e4:lg a 0%S=0:=by
  have hm:∀ m,∃ z,aQ (lg a) (m+1)=lg a 0+z*S:=by
   intro m;induction m with
   | zero=>exact⟨0,by simp[aQ]⟩
   | succ m ih =>
    obtain⟨z,hz⟩:=ih;refine⟨z+lg a (m+1)*B^m*T,?_⟩;have:aQ (lg a) (m+1+1)=aQ (lg a) (m+1)+lg a (m+1)*B^(m+1):=rfl;rw[this,hz,Bs,<- iF];grind
  have hd:∃ z,lv a=lg a 0+z*S:=by
   cases hl:a.length with
   | zero=>exact⟨0,by
     unfold lv;rw[hl,oz (by omega)];simp[aQ]⟩
   | succ m=>unfold lv;rw[hl];exact hm m
  obtain⟨z,hz⟩:=hd;have:lg a 0=(v-z)*S:=by
   have:(v-z)*S=v*S-z*S:=by grind
   omega
  rw[this];exact Int.mul_emod_left _ _
 rw[e4]at h
 have:lv L*S=v*S:=by rw[h,hv];simp
 exact Int.eq_of_mul_eq_mul_right (by omega) this
theorem kj (l:List Int) (o m:Nat):win l o (m+1)=lg l o+B*win l (o+1) m:=by
 rw[Nat.add_comm m 1,iO,show B^1=B from by rw[Int.pow_succ,Int.pow_zero,Int.one_mul]];simp[win,aQ]
theorem ajf {q a:List Int} {k m:Nat} {r x:Int} (hx:0<x/\x<B) (hr:0<=r/\r<x) (hk:k<q.length) (hq:aH q) (ha:aH a)
  (hv:win q (k+1) m*x+r=win a (k+1) m) :
  let d:=(r*B+lg a k) / x;let r2:=(r*B+lg a k)%x;let q2:=q.set k d
  (0<=d/\d<B)/\(0<=r2/\r2<x)/\aH q2/\win q2 k (m+1)*x+r2=win a k (m+1):=by
 intro d r2 q2;have h0:=ha k;have n0:0<=r*B:=Int.mul_nonneg hr.1 (by decide);have m1:(r+1)*B<=x*B:=Int.mul_le_mul_of_nonneg_right (by omega) (by decide);have m2:(r+1)*B=r*B+B:=by grind
 have d0:0<=d:=Int.ediv_nonneg (by omega) (by omega);have d1:d<B:=by
  apply Int.ediv_lt_of_lt_mul hx.1;rw[Int.mul_comm B x];omega
 have e1:x*d+r2=r*B+lg a k:=Int.mul_ediv_add_emod _ _;refine⟨⟨d0,d1⟩,⟨Int.emod_nonneg _ (by omega),Int.emod_lt_of_pos _ hx.1⟩,hq.set _ ⟨d0,d1⟩,?_⟩;have f1:win q2 (k+1) m=win q (k+1) m:=gB fun j hj=>by
  show lg (q.set k _) _=_;rw[cO,if_neg (by omega)]
 have f2:lg q2 k=d:=by
  show lg (q.set k _) _=_;rw[cO,if_pos ⟨rfl,hk⟩]
 rw[kj,kj,f1,f2,<- hv];have:(d+B*win q (k+1) m)*x=x*d+B*(win q (k+1) m*x):=by grind
 rw[this];have:B*(win q (k+1) m*x+r)=B*(win q (k+1) m*x)+r*B:=by grind
 omega
end Go.Proofs.YtfcjnhkkfmgmpaaGreat.aS
