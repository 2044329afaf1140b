import Derived.Test.YtcmepkhjggpmeaaGreatProg
import Derived.Below
import Derived.Deep.Draws
import Derived.OwnWalk
import Derived.Tactics
import Derived.WalkKit
import Derived.KernelRfl
import Derived.Deep.LoopGhost
import Derived.Deep.QuietTactic
import Derived.BigQuiet
import Derived.WalkLawsBesides
import Derived.WalkSpells
import Derived.Lib.Hide
import Derived.Laws.Externs
set_option linter.all false
set_option maxRecDepth 100000
set_option maxHeartbeats 8000000
namespace Go.Proofs.YtcmepkhjggpmeaaGreat.aP
def B:Int:=18446744073709551616
theorem B_eq:B=18446744073709551616:=rfl
def lg (l:List Int) (j:Nat):Int:=l.getD j 0
def aG (l:List Int):Prop:=∀ j,0<=lg l j/\lg l j<B
def aK (f:Nat->Int):Nat->Int
 | 0=>0
 | n+1=>aK f n+f n*B^n
def win (l:List Int) (o n:Nat):Int:=aK (fun j=>lg l (o+j)) n
theorem jD {f g:Nat->Int} {n:Nat} (h:∀ j,j<n->f j=g j):aK f n=aK g n:=by
 induction n with
 | zero=>rfl
 | succ n ih=>unfold aK;rw[ih (fun j hj=>h j (by omega)),h n (by omega)]
theorem cK (l:List Int) (j k:Nat) (x:Int):lg (l.set j x) k=if j=k/\j<l.length then x else lg l k:=by
 unfold lg;rw[List.getD_eq_getElem?_getD,List.getD_eq_getElem?_getD,List.getElem?_set];by_cases h:j=k
 ·subst h
  by_cases h2:j<l.length
  ·simp[h2]
  ·simp[h2]
 ·simp[h]
theorem nK {l:List Int} {j:Nat} (h:l.length<=j):lg l j=0:=by
 unfold lg;rw[List.getD_eq_getElem?_getD,List.getElem?_eq_none h];rfl
theorem Bp (n:Nat):0<B^n:=Int.pow_pos (by decide)
theorem Bs (n:Nat):B^(n+1)=B^n*B:=Int.pow_succ _ _
theorem ig {f:Nat->Int} (n:Nat) (h:∀ j,0<=f j/\f j<B):0<=aK f n/\aK f n<B^n:=by
 induction n with
 | zero=>exact⟨Int.le_refl _,by simp[aK]⟩
 | succ n ih =>
  unfold aK;rw[Bs];have h1:=h n;have h2:=Bp n;have h3:0<=f n*B^n:=Int.mul_nonneg h1.1 (Int.le_of_lt h2);have h4:f n*B^n<=(B-1)*B^n:=Int.mul_le_mul_of_nonneg_right (by omega) (Int.le_of_lt h2);have h5:(B-1)*B^n=B^n*B-B^n:=by grind
  omega
def fA (x y b:Int):Int:=(x+B-y-b)%B
def eU (x y b:Int):Int:=if x<y+b then 1 else 0
theorem sub_one {x y b:Int} (hx:0<=x/\x<B) (hy:0<=y/\y<B) (hb:b=0\/b=1):0<=fA x y b/\fA x y b<B/\(eU x y b=0\/eU x y b=1)/\fA x y b=x-y-b+eU x y b*B:=by
 unfold fA eU;rw[B_eq]at *
 split <;> omega
def fE (x y c:Int):Int:=(x+y+c)%B
def iK (x y c:Int):Int:=(x+y+c) / B
theorem add_one {x y c:Int} (hx:0<=x/\x<B) (hy:0<=y/\y<B) (hb:c=0\/c=1):0<=fE x y c/\fE x y c<B/\(iK x y c=0\/iK x y c=1)/\fE x y c+iK x y c*B=x+y+c:=by
 unfold fE iK;rw[B_eq]at *
 omega
theorem ez (l:List Int) (o n:Nat):win l o (n+1)=win l o n+lg l (o+n)*B^n:=rfl
theorem fH {l l':List Int} {o n:Nat} (h:∀ j,j<n->lg l (o+j)=lg l' (o+j)):win l o n=win l' o n:=jD h
theorem aG.set {l:List Int} (h:aG l) (j:Nat) {x:Int} (hx:0<=x/\x<B):aG (l.set j x):=by
 intro k;rw[cK];split
 ·exact hx
 ·exact h k
theorem nC {L L' l:List Int} {o k m:Nat} {b:Int} (hk:o+k<L'.length) (hL:aG L') (hl:aG l)
  (iY:∀ j,(j<o\/o+k<=j)->lg L' j=lg L j) (hb:b=0\/b=1) (hm:l.length=m)
  (hv:win L' o k-b*B^k=win L o k-aK (lg l) (min k m)) :
  let x:=lg L' (o+k);let y:=lg l k;let L2:=L'.set (o+k) (fA x y b);let b2:=eU x y b
  aG L2/\(∀ j,(j<o\/o+(k+1)<=j)->lg L2 j=lg L j)/\(b2=0\/b2=1)/\win L2 o (k+1)-b2*B^(k+1)=win L o (k+1)-aK (lg l) (min (k+1) m):=by
 intro x y L2 b2;obtain⟨h0,h1,h2,h3⟩:=sub_one (x:=x) (y:=y) (b:=b) (hL _) (hl _) hb;refine⟨hL.set _ ⟨h0,h1⟩,?_,h2,?_⟩
 ·intro j hj
  show lg (L'.set (o+k) _) j=_;rw[cK,if_neg (by omega)];exact iY j (by omega)
 ·have e1:win L2 o k=win L' o k:=fH fun j hj=>by
   show lg (L'.set (o+k) _) _=_;rw[cK,if_neg (by omega)]
  have e2:lg L2 (o+k)=fA x y b:=by
   show lg (L'.set (o+k) _) _=_;rw[cK,if_pos ⟨rfl,hk⟩]
  have e3:aK (lg l) (min (k+1) m)=aK (lg l) (min k m)+y*B^k:=by
   by_cases hkm:k<m
   ·rw[show min (k+1) m=k+1 by omega,show min k m=k by omega];rfl
   ·rw[show min (k+1) m=m by omega,show min k m=m by omega]
    have:y=0:=nK (by omega);rw[this];simp
  have e4:lg L (o+k)=x:=(iY (o+k) (by omega)).symm;rw[ez,ez,e1,e2,e3,e4,Bs];show win L' o k+fA x y b*B^k-eU x y b*(B^k*B)=_;rw[h3];generalize eU x y b=c at *;generalize win L' o k=p at *;generalize win L o k=q at *;generalize aK (lg l) (min k m)=r at *;generalize B^k=P at *;grind
theorem mul_one {x y t c:Int} (hx:0<=x/\x<B) (hy:0<=y/\y<B) (ht:0<=t/\t<B) (hc:0<=c/\c<B) :
  let low:=x*y%B;let l1:=fE low t 0;let c1:=iK low t 0;let l2:=fE l1 c 0;let c2:=iK l1 c 0
  (0<=low/\low<B)/\(0<=l1/\l1<B)/\(0<=x*y / B+c1/\x*y / B+c1<B)/\(0<=l2/\l2<B)/\(0<=x*y / B+c1+c2/\x*y / B+c1+c2<B)/\l2+(x*y / B+c1+c2)*B=x*y+t+c:=by
 intro low l1 c1 l2 c2;have hB:0<B:=by decide
 have Hg:0<=low/\low<B:=⟨Int.emod_nonneg _ (by omega),Int.emod_lt_of_pos _ hB⟩
 have VI:0<=x*y:=Int.mul_nonneg hx.1 hy.1;have hp1:x*y<=(B-1)*(B-1):=Int.mul_le_mul (by omega) (by omega) hy.1 (by omega);have hd:B*(x*y / B)+low=x*y:=Int.mul_ediv_add_emod _ _;have hh:0<=x*y / B:=Int.ediv_nonneg VI (by omega);obtain⟨a0,a1,a2,a3⟩:=add_one Hg ht (Or.inl rfl:(0:Int)=0\/(0:Int)=1);obtain⟨b0,b1,b2,b3⟩:=add_one (x:=l1) (y:=c) (c:=0) ⟨a0,a1⟩ hc (Or.inl rfl);have e1:(B-1)*(B-1)=B*B-2*B+1:=by grind
 have e2:l1+(x*y / B+c1)*B=x*y+t:=by
  have:(x*y / B+c1)*B=B*(x*y / B)+c1*B:=by grind
  have a3':l1+c1*B=low+t+0:=a3;omega
 have e3:l2+(x*y / B+c1+c2)*B=x*y+t+c:=by
  have:(x*y / B+c1+c2)*B=(x*y / B+c1)*B+c2*B:=by grind
  have b3':l2+c2*B=l1+c+0:=b3;omega
 refine⟨Hg,⟨a0,a1⟩,⟨by rcases a2 with h|h <;> omega,?_⟩,⟨b0,b1⟩,⟨by rcases a2 with h|h <;> rcases b2 with h'|h' <;> omega,?_⟩,e3⟩
 ·apply Int.lt_of_not_ge
  intro hge;have:B*B<=(x*y / B+c1)*B:=Int.mul_le_mul_of_nonneg_right hge (by omega);omega
 ·apply Int.lt_of_not_ge
  intro hge;have:B*B<=(x*y / B+c1+c2)*B:=Int.mul_le_mul_of_nonneg_right hge (by omega);omega
theorem mL {L L' l:List Int} {o k:Nat} {x c:Int} (hk:o+k<L'.length) (hL:aG L') (hl:aG l)
  (iY:∀ j,(j<o\/o+k<=j)->lg L' j=lg L j) (hx:0<=x/\x<B) (hc:0<=c/\c<B)
  (hv:win L' o k+c*B^k=win L o k+x*aK (lg l) k) {d c2:Int} (hd:0<=d/\d<B) (he:d+c2*B=x*lg l k+lg L' (o+k)+c) :
  let L2:=L'.set (o+k) d
  aG L2/\(∀ j,(j<o\/o+(k+1)<=j)->lg L2 j=lg L j)/\win L2 o (k+1)+c2*B^(k+1)=win L o (k+1)+x*aK (lg l) (k+1):=by
 intro L2;refine⟨hL.set _ hd,?_,?_⟩
 ·intro j hj
  show lg (L'.set (o+k) _) j=_;rw[cK,if_neg (by omega)];exact iY j (by omega)
 ·have e1:win L2 o k=win L' o k:=fH fun j hj=>by
   show lg (L'.set (o+k) _) _=_;rw[cK,if_neg (by omega)]
  have e2:lg L2 (o+k)=d:=by
   show lg (L'.set (o+k) _) _=_;rw[cK,if_pos ⟨rfl,hk⟩]
  have e4:lg L (o+k)=lg L' (o+k):=(iY (o+k) (by omega)).symm;rw[ez,ez,e1,e2,e4,Bs];show win L' o k+d*B^k+c2*(B^k*B)=win L o k+lg L' (o+k)*B^k+x*(aK (lg l) k+lg l k*B^k);generalize win L' o k=p at *;generalize win L o k=q at *;generalize aK (lg l) k=r at *;generalize B^k=P at *;generalize lg L' (o+k)=t at *;generalize lg l k=y at *;have:d=x*y+t+c-c2*B:=by omega
  subst this;grind
def lv (l:List Int):Int:=aK (lg l) l.length
def Tr (l:List Int):Prop:=l.length=0\/lg l (l.length-1)≠0
theorem jc {f:Nat->Int} {m n:Nat} (hmn:m<=n) (h:∀ j,m<=j->j<n->f j=0):aK f n=aK f m:=by
 induction n with
 | zero=>rw[show m=0 by omega]
 | succ n ih =>
  by_cases e:m=n+1
  ·rw[e]
  ·show aK f n+f n*B^n=_
   rw[h n (by omega) (by omega),ih (by omega) (fun j h1 h2=>h j h1 (by omega))];simp
theorem jR {l:List Int} {n:Nat} (h:l.length<=n):aK (lg l) n=lv l:=jc h fun _ h1 _=>nK h1
theorem yz (l:List Int) (m j:Nat):lg (l.take m) j=if j<m then lg l j else 0:=by
 unfold lg;rw[List.getD_eq_getElem?_getD,List.getD_eq_getElem?_getD,List.getElem?_take];split <;> rfl
theorem aG.take {l:List Int} (h:aG l) (m:Nat):aG (l.take m):=by
 intro j;rw[yz];split
 ·exact h j
 ·exact⟨Int.le_refl _,by decide⟩
theorem dw {l:List Int} (h:aG l):0<=lv l/\lv l<B^l.length:=ig _ h
theorem mX:lv []=0:=rfl
def bl (l:List Int):Nat->Nat
 | 0=>0
 | n+1=>if lg l n=0 then bl l n else n+1
theorem qb (l:List Int) (n:Nat):bl l n<=n:=by
 induction n with
 | zero=>exact Nat.le_refl _
 | succ n ih=>unfold bl;split <;> omega
theorem IQ {l:List Int} {k:Nat} (h:lg l k=0):bl l (k+1)=bl l k:=by
 show(if lg l k=0 then bl l k else k+1)=_;rw[if_pos h]
theorem IU {l:List Int} {k:Nat} (h:¬ lg l k=0):bl l (k+1)=k+1:=by
 show(if lg l k=0 then bl l k else k+1)=_;rw[if_neg h]
theorem Ql (l:List Int) (n:Nat):∀ j,bl l n<=j->j<n->lg l j=0:=by
 induction n with
 | zero=>intro j _ h;omega
 | succ n ih =>
  intro j h1 h2;by_cases hz:lg l n=0
  ·rw[IQ hz]at h1
   by_cases e:j=n
   ·rw[e];exact hz
   ·exact ih j h1 (by omega)
  ·rw[IU hz]at h1;omega
theorem XE (l:List Int) (n:Nat):bl l n=0\/lg l (bl l n-1)≠0:=by
 induction n with
 | zero=>exact .inl rfl
 | succ n ih =>
  by_cases hz:lg l n=0
  ·rw[IQ hz];exact ih
  ·rw[IU hz];exact .inr hz
theorem fO (l:List Int):(l.take (bl l l.length)).length=bl l l.length:=by
 rw[List.length_take];have:=qb l l.length;omega
theorem eo (l:List Int):lv (l.take (bl l l.length))=lv l:=by
 unfold lv;rw[fO,jc (qb l l.length) (Ql l l.length)];exact jD fun j hj=>by rw[yz,if_pos hj]
theorem kA (l:List Int):Tr (l.take (bl l l.length)):=by
 unfold Tr;rw[fO];rcases XE l l.length with h|h
 ·exact .inl h
 ·by_cases e:bl l l.length=0
  ·exact .inl e
  ·right
   rw[yz,if_pos (by omega)];exact h
theorem l7 (n j:Nat):lg (List.replicate n 0) j=0:=by
 unfold lg;rw[List.getD_eq_getElem?_getD,List.getElem?_replicate];split <;> rfl
theorem iI (n:Nat):aG (List.replicate n 0):=fun j=>by rw[l7];exact⟨Int.le_refl _,by decide⟩
theorem eH (l:List Int):win l 0 l.length=lv l:=jD fun j _=>by rw[Nat.zero_add]
theorem mR {L' x y:List Int} {k:Nat} {c:Int} (hk:k<L'.length) (hL:aG L') (hx:aG x) (hy:aG y) (hc:c=0\/c=1)
  (hv:win L' 0 k+c*B^k=aK (lg x) k+aK (lg y) k) :
  let L2:=L'.set k (fE (lg x k) (lg y k) c);let c2:=iK (lg x k) (lg y k) c
  aG L2/\(c2=0\/c2=1)/\win L2 0 (k+1)+c2*B^(k+1)=aK (lg x) (k+1)+aK (lg y) (k+1):=by
 intro L2 c2;obtain⟨a0,a1,a2,a3⟩:=add_one (hx k) (hy k) hc;refine⟨hL.set _ ⟨a0,a1⟩,a2,?_⟩;have e1:win L2 0 k=win L' 0 k:=fH fun j hj=>by
  show lg (L'.set k _) _=_;rw[cK,if_neg (by omega)]
 have e2:lg L2 (0+k)=fE (lg x k) (lg y k) c:=by
  show lg (L'.set k _) _=_;rw[cK,if_pos ⟨by omega,hk⟩]
 rw[ez,e1,e2,Bs];show win L' 0 k+fE (lg x k) (lg y k) c*B^k+c2*(B^k*B)=aK (lg x) k+lg x k*B^k+(aK (lg y) k+lg y k*B^k)
 have a3':fE (lg x k) (lg y k) c+c2*B=lg x k+lg y k+c:=a3;generalize fE (lg x k) (lg y k) c=d at *;generalize win L' 0 k=p at *;generalize aK (lg x) k=q at *;generalize aK (lg y) k=r at *;generalize B^k=P at *;generalize lg x k=u at *;generalize lg y k=v at *;have:d=u+v+c-c2*B:=by omega
 subst this;grind
theorem j3 {m n:Nat} (h:m<=n):B^m<=B^n:=by
 obtain⟨d,rfl⟩:=Nat.exists_eq_add_of_le h;rw[Int.pow_add];have h1:=Bp m;have h2:=Bp d;have:B^m*1<=B^m*B^d:=Int.mul_le_mul_of_nonneg_left (by omega) (by omega);omega
theorem mW {L x y:List Int} {n:Nat} {c:Int} (hL:L.length=n+1) (hlim:aG L) (hx:aG x) (hy:aG y) (Hw:x.length<=n) (KN:y.length<=n) (hc:c=0\/c=1)
  (hv:win L 0 (n+1)+c*B^(n+1)=aK (lg x) (n+1)+aK (lg y) (n+1)):lv L=lv x+lv y:=by
 rw[jR (by omega),jR (by omega)]at hv
 have e:win L 0 (n+1)=lv L:=by rw[<- hL];exact eH L
 rw[e]at hv
 have b1:=dw hx;have b2:=dw hy;have b3:=(dw hlim).1;have m1:=j3 Hw;have m2:=j3 KN;have m3:=Bp n;rw[Bs]at hv
 have:B^n*2<=B^n*B:=Int.mul_le_mul_of_nonneg_left (by decide) (by omega);rcases hc with rfl|rfl
 ·omega
 ·omega
theorem gH {r:List Int} (h:Tr r) (hl:aG r) {k:Nat} (hv:lv r<B^k):r.length<=k:=by
 apply Nat.le_of_not_lt;intro hgt;rcases h with h|h
 ·omega
 ·obtain⟨m,hm⟩:∃ m,r.length=m+1:=⟨r.length-1,by omega⟩
  have e:lv r=aK (lg r) m+lg r m*B^m:=by unfold lv;rw[hm];rfl
  rw[hm]at h
  have h1:=(ig m hl).1;have h2:=hl m;have h3:lg r m≠0:=h;have h4:=Bp m;have h5:1*B^m<=lg r m*B^m:=Int.mul_le_mul_of_nonneg_right (by omega) (by omega);have:=j3 (show k<=m by omega);omega
def dN (a b:Int):Int:=if a<b then -1 else if b<a then 1 else 0
def o9 (a b:List Int):Nat->Int
 | 0=>0
 | n+1=>if dN (lg a n) (lg b n)=0 then o9 a b n else dN (lg a n) (lg b n)
def sQ (a b:List Int) (n m:Nat):Int:=if dN n m=0 then o9 a b n else dN n m
theorem IX {a b:List Int} {k:Nat} (h:dN (lg a k) (lg b k)=0):o9 a b (k+1)=o9 a b k:=by
 show(if dN (lg a k) (lg b k)=0 then o9 a b k else _)=_;rw[if_pos h]
theorem Bb {a b:List Int} {k:Nat} (h:¬ dN (lg a k) (lg b k)=0):o9 a b (k+1)=dN (lg a k) (lg b k):=by
 show(if dN (lg a k) (lg b k)=0 then o9 a b k else _)=_;rw[if_neg h]
theorem Qp {n m:Nat} (h:dN n m=0):n=m:=by
 unfold dN at h;split at h
 ·omega
 ·split at h <;> omega
theorem xm {a b:Int} (h:a<b):dN a b = -1:=by unfold dN;rw[if_pos h]
theorem FT {a b:Int} (h:b<a):dN a b=1:=by unfold dN;rw[if_neg (by omega),if_pos h]
theorem Mt (a:Int):dN a a=0:=by unfold dN;rw[if_neg (by omega),if_neg (by omega)]
theorem sA (a b:Int):(a<b/\dN a b = -1)\/(a=b/\dN a b=0)\/(b<a/\dN a b=1):=by
 by_cases h1:a<b
 ·exact .inl ⟨h1,xm h1⟩
 ·by_cases h2:b<a
  ·exact .inr (.inr ⟨h2,FT h2⟩)
  ·have:a=b:=by omega
   subst this;exact .inr (.inl ⟨rfl,Mt a⟩)
theorem mS {a b:List Int} (ha:aG a) (hb:aG b) (n:Nat):o9 a b n=dN (aK (lg a) n) (aK (lg b) n):=by
 induction n with
 | zero=>rfl
 | succ n ih =>
  have e1:aK (lg a) (n+1)=aK (lg a) n+lg a n*B^n:=rfl;have e2:aK (lg b) (n+1)=aK (lg b) n+lg b n*B^n:=rfl;have b1:=ig n ha;have b2:=ig n hb;have hp:=Bp n;rw[e1,e2];rcases sA (lg a n) (lg b n) with ⟨h,hc⟩|⟨h,hc⟩|⟨h,hc⟩
  ·rw[Bb (by omega),hc]
   have:(lg a n+1)*B^n<=lg b n*B^n:=Int.mul_le_mul_of_nonneg_right (by omega) (by omega);have e:(lg a n+1)*B^n=lg a n*B^n+B^n:=by grind
   rw[xm (by omega)]
  ·rw[IX hc,ih,h]
   generalize lg b n*B^n=q;unfold dN;have e1:(aK (lg a) n+q<aK (lg b) n+q)=(aK (lg a) n<aK (lg b) n):=by
    apply propext;omega
   have e2:(aK (lg b) n+q<aK (lg a) n+q)=(aK (lg b) n<aK (lg a) n):=by
    apply propext;omega
   simp only[e1,e2]
  ·rw[Bb (by omega),hc]
   have:(lg b n+1)*B^n<=lg a n*B^n:=Int.mul_le_mul_of_nonneg_right (by omega) (by omega);have e:(lg b n+1)*B^n=lg b n*B^n+B^n:=by grind
   rw[FT (by omega)]
theorem kH {a b:List Int} (ha:aG a) (hb:aG b) (tb:Tr b) (h:a.length<b.length):lv a<lv b:=by
 apply Int.lt_of_not_ge;intro hge;have:=gH tb hb (k:=a.length) (by have:=(dw ha).2;omega);omega
theorem kI {a b:List Int} (ha:aG a) (hb:aG b) (ta:Tr a) (tb:Tr b):sQ a b a.length b.length=dN (lv a) (lv b):=by
 unfold sQ;rcases sA (a.length:Int) (b.length:Int) with ⟨h,hc⟩|⟨h,hc⟩|⟨h,hc⟩
 ·rw[if_neg (by omega),hc,xm (kH ha hb tb (by omega))]
 ·rw[if_pos hc,mS ha hb]
  have:a.length=b.length:=by omega
  unfold lv;rw[<- this]
 ·rw[if_neg (by omega),hc,FT (kH hb ha ta (by omega))]
theorem mU {L a l:List Int} {n:Nat} {b:Int} (hL:L.length=n) (hlim:aG L) (hla:aG a) (ha:a.length=n) (hl:aG l) (wC:l.length<=n) (hb:b=0\/b=1)
  (hle:lv l<=lv a) (hv:win L 0 n-b*B^n=win a 0 n-aK (lg l) (min n l.length)):lv L=lv a-lv l:=by
 have e:win L 0 n=lv L:=by rw[<- hL];exact eH L
 have e2:win a 0 n=lv a:=by rw[<- ha];exact eH a
 rw[e,e2,show min n l.length=l.length by omega,show aK (lg l) l.length=lv l from rfl]at hv
 have h1:=dw hlim;rw[hL]at h1
 rcases hb with rfl|rfl
 ·omega
 ·omega
theorem gO (l:List Int) (o k m:Nat):win l o (k+m)=win l o k+B^k*win l (o+k) m:=by
 induction m with
 | zero=>simp[win,aK]
 | succ m ih =>
  rw[show k+(m+1)=k+m+1 by omega,ez,ih,ez,Int.pow_add,show o+(k+m)=o+k+m by omega];grind
theorem mV {L' L2 b:List Int} {k m:Nat} {c x a:Int} (hlen:L2.length=L'.length) (hk:k+m<L'.length) (hlim:aG L2)
  (iY:∀ j,(j<k\/k+m<=j)->lg L2 j=lg L' j) (hz:∀ j,k+m<=j->lg L' j=0) (hc:0<=c/\c<B)
  (hv:win L2 k m+c*B^m=win L' k m+x*lv b) (ha:win L' 0 (k+m)=a*lv b) :
  let L3:=L2.set (k+m) c
  aG L3/\(∀ j,k+1+m<=j->lg L3 j=0)/\win L3 0 (k+1+m)=(a+x*B^k)*lv b:=by
 intro L3;refine⟨hlim.set _ hc,fun j hj=>?_,?_⟩
 ·show lg (L2.set _ _) j=0
  rw[cK,if_neg (by omega),iY j (by omega),hz j (by omega)]
 ·have e1:win L3 0 (k+m)=win L2 0 (k+m):=fH fun j hj=>by
   show lg (L2.set _ _) _=_;rw[cK,if_neg (by omega)]
  have e2:lg L3 (0+(k+m))=c:=by
   show lg (L2.set _ _) _=_;rw[cK,if_pos ⟨by omega,by omega⟩]
  have e3:win L2 0 k=win L' 0 k:=fH fun j hj=>iY _ (by omega);rw[show k+1+m=k+m+1 by omega,ez,e1,e2,gO,Int.pow_add,e3,Nat.zero_add];rw[gO,Nat.zero_add]at ha
  generalize win L2 k m=p at *;generalize win L' k m=q at *;generalize win L' 0 k=r at *;generalize B^k=P at *;generalize B^m=M at *;generalize lv b=v at *;have e4:P*p+c*(P*M)=P*(p+c*M):=by grind
  have e5:P*(q+x*v)=P*q+x*P*v:=by grind
  have e6:(a+x*P)*v=a*v+x*P*v:=by grind
  rw[e6,<- ha,Int.add_assoc,e4,hv,e5];omega
theorem aC {p:Prop} (h:p:=by omega):p:=h
end Go.Proofs.YtcmepkhjggpmeaaGreat.aP
namespace Go.Proofs.YtcmepkhjggpmeaaGreat
open Go.RowKit aP
def RL (w:World) (A:Option Addr) (l:List Int):Prop :=
 l.length<=9223372036854775807/\(0<l.length->∃ ad,A=some ad/\∀ j,j<l.length->w.cell? (ad.add j)=some (.int .u64 (lg l j)))
structure Dr (w w':World):Prop where mk::(out:∃ n,w'=w.drewN n)
theorem Dr.refl (w:World):Dr w w:=⟨⟨0,rfl⟩⟩
theorem Dr.step {w w':World} (h:Dr w w') (n:Nat):Dr w (w'.drewN n):=by
 obtain⟨m,rfl⟩:=h;exact⟨⟨m+n,World.drewN_drewN ..⟩⟩
theorem gI {B:Nat} {w W:World} (h:Below B w W) (n:Nat):Below B w (W.drewN n):=⟨h.os,h.tape,h.output,h.size,h.block⟩
structure bN (g:Nat) (w w':World):Prop where
 os:w'.os=w.os
 tape:w'.tape=w.tape
 output:w'.output=w.output
 size:w'.heap.size=w.heap.size
 block:∀ k,k≠g->w'.heap[k]?=w.heap[k]?
theorem bN.refl (g:Nat) (w:World):bN g w w:=⟨rfl,rfl,rfl,rfl,fun _ _=>rfl⟩
theorem bN.dI {g:Nat} {w w1:World} (h:bN g w w1) (n:Nat):bN g w (w1.drewN n):=⟨h.os,h.tape,h.output,h.size,h.block⟩
theorem bN.dr {g:Nat} {w w1:World} (h:bN g w w1):bN g w w1.drew:=⟨h.os,h.tape,h.output,h.size,h.block⟩
theorem bN.set {g:Nat} {w w1:World} (h:bN g w w1) (j:Nat) (v:Value):bN g w (w1.setCell ⟨g,j,none⟩ v) :=
 ⟨h.os,h.tape,h.output,by rw[<- h.size];simp[World.setCell],fun k hk=>(Below.heap_setCell _ _ _ _ hk).trans (h.block k hk)⟩
theorem bN.below {B g:Nat} {w w1 w2:World} (hb:Below B w w1) (h:bN g w1 w2) (hg:B<=g):Below B w w2 :=
 hb.trans ⟨h.os,h.tape,h.output,by rw[h.size];exact Nat.le_refl _,fun k hk=>h.block k aC⟩
def cO (w:World) (g:Nat) (l:List Int):Prop:=∃ cur:Array Value,w.heap[g]?=some (.cells cur 140 (0,0))/\l.length<=cur.size/\∀ j,j<l.length->cur[j]?=some (.int .u64 (lg l j))
theorem cO.cell {w:World} {g:Nat} {l:List Int} (h:cO w g l) (j:Nat) (hj:j<l.length):w.cell? ⟨g,j,none⟩=some (.int .u64 (lg l j)):=by
 obtain⟨cur,h,_,hc⟩:=h;unfold World.cell?;rw[show w.heap[(⟨g,j,none⟩:Addr).block]?=_ from h];simpa using hc j hj
theorem cO.free {w:World} {g:Nat} {l:List Int} (h:cO w g l) (j:Nat):w.frozen? ⟨g,j,none⟩=false:=by
 obtain⟨cur,h,_,hc⟩:=h;unfold World.frozen?;rw[show w.heap[(⟨g,j,none⟩:Addr).block]?=_ from h];simp
theorem cO.lt {w:World} {g:Nat} {l:List Int} (h:cO w g l):g<w.heap.size:=by
 obtain⟨cur,h,_⟩:=h;exact(Array.getElem?_eq_some_iff.1 h).1
theorem cO.set {w:World} {g:Nat} {l:List Int} (h:cO w g l) (j:Nat) (x:Int):cO (w.setCell ⟨g,j,none⟩ (.int .u64 x)) g (l.set j x):=by
 obtain⟨cur,h,hl,hc⟩:=h;refine⟨cur.setIfInBounds j (.int .u64 x),by simp[World.setCell,Array.getElem?_modify,h],by simpa using hl,fun k hk=>?_⟩;rw[List.length_set]at hk
 rw[cK,Array.getElem?_setIfInBounds];by_cases e:j=k
 ·subst e
  rw[if_pos rfl,if_pos aC,if_pos ⟨rfl,hk⟩]
 ·rw[if_neg e,if_neg aC]
  exact hc k hk
theorem cO.only {w w1:World} {g g':Nat} {l:List Int} (h:cO w g l) (ho:bN g' w w1) (hne:g≠g'):cO w1 g l:=by
 obtain⟨cur,h,hl⟩:=h;exact⟨cur,(ho.block g hne).trans h,hl⟩
theorem cO.below {B:Nat} {w w1:World} {g:Nat} {l:List Int} (h:cO w g l) (ho:Below B w w1) (hne:g<B):cO w1 g l:=by
 obtain⟨cur,h,hl⟩:=h;exact⟨cur,(ho.block g hne).trans h,hl⟩
theorem cO.dI {w:World} {g:Nat} {l:List Int} (h:cO w g l) (n:Nat):cO (w.drewN n) g l:=h
theorem RL.cell {w:World} {g o:Nat} {l:List Int} (h:RL w (some ⟨g,o,none⟩) l) (j:Nat) (hj:j<l.length):w.cell? ⟨g,o+j,none⟩=some (.int .u64 (lg l j)):=by
 obtain⟨ad,e,hc⟩:=h.2 aC;cases e;have:=hc j hj;unfold Addr.add at this;split at this
 ·rename_i h0;subst h0;exact this
 ·exact this
theorem ku (A0:Option Addr) (n c0:Nat) (l:List Int) (hn:l.length=n) (hc0:n<=c0) (w:World) (hr:RL w A0 l) :
  Calls Tryz.prog 154 #[.slice A0 n c0] w fun e w'=>e = .returned (.slice A0 (bl l n) (bl l n))/\Dr w w':=by
 have hl:=hr.1;have hl2:n<=9223372036854775807:=by omega
 have HR:=Lib.hid hr;have HN:=Lib.hid hn;clear hr hn hl;go_enter Tryz.func154,Tryz.ntmps154;go_wp2
 go_loopw [3] (fun t w'=>∃ k:Nat,k<=n/\t = .int .i64 k/\Hid (bl l k=bl l n)/\Dr w w') (fun t _=>(intOf t).toNat)
 case atStart=>exact⟨n,Nat.le_refl _,rfl,Lib.hid rfl,Dr.refl _⟩
 case round =>
  obtain⟨k,hk,rfl,he,⟨m,rfl⟩⟩:=hrel;cases k with
  | zero =>
   have h1:decide ((0:Int)<((0:Nat):Int))=false:=by simp
   go_wp2
   repeat(go_quiet (fail);try go_wp2)
   go_ret
   have h0:bl l n=0:=he.out.symm;rw[h0];exact⟨rfl,by repeat(first|exact Dr.refl _|apply Dr.step)⟩
  | succ k =>
   have h1:decide ((0:Int)<((k+1:Nat):Int))=true:=by simp
   obtain⟨ad,rfl,hc⟩:=HR.out.2 (by have:=HN.out;omega);have hc1:=hc k (by have:=HN.out;omega);clear hc;have he':=he.out;clear he;by_cases hz:lg l k=0
   ·rw[IQ hz]at he'
    have he:=Lib.hid he';clear he';rw[hz]at hc1
    clear hz;go_wp2
    repeat(go_quiet (fail);try go_wp2)
    exact⟨⟨k,by omega,rfl,he,by repeat(first|exact Dr.refl _|apply Dr.step)⟩,by simp[intOf]⟩
   ·rw[IU hz]at he'
    have he:=Lib.hid he';clear he';have hz1:(lg l k==0)=false:=beq_eq_false_iff_ne.mpr hz;clear hz;go_wp2
    repeat(go_quiet (fail);try go_wp2)
    go_ret
    have h0:bl l n=k+1:=he.out.symm;rw[h0];exact⟨rfl,by repeat(first|exact Dr.refl _|apply Dr.step)⟩
theorem XF (a b:Int) (w:World):Calls Tryz.prog 37 #[.int .i64 a,.int .i64 b] w fun e w'=>e = .returned (.int .i64 (dN a b))/\w'=w:=by
 unfold dN;by_cases h1:a<b
 ·rw[if_pos h1]
  go_enter Tryz.func37,Tryz.ntmps37;go_wp2
  go_ret
  exact⟨rfl,rfl⟩
 ·rw[if_neg h1]
  by_cases h2:b<a
  ·rw[if_pos h2]
   go_enter Tryz.func37,Tryz.ntmps37;go_wp2
   go_ret
   exact⟨rfl,rfl⟩
  ·rw[if_neg h2]
   go_enter Tryz.func37,Tryz.ntmps37;go_wp2
   go_ret
   exact⟨rfl,rfl⟩
theorem XG (a b:Int) (w:World):Calls Tryz.prog 181 #[.int .u64 a,.int .u64 b] w fun e w'=>e = .returned (.int .i64 (dN a b))/\w'=w:=by
 unfold dN;by_cases h1:a<b
 ·rw[if_pos h1]
  go_enter Tryz.func181,Tryz.ntmps181;go_wp2
  go_ret
  exact⟨rfl,rfl⟩
 ·rw[if_neg h1]
  by_cases h2:b<a
  ·rw[if_pos h2]
   go_enter Tryz.func181,Tryz.ntmps181;go_wp2
   go_ret
   exact⟨rfl,rfl⟩
  ·rw[if_neg h2]
   go_enter Tryz.func181,Tryz.ntmps181;go_wp2
   go_ret
   exact⟨rfl,rfl⟩
theorem Da (A0 A1:Option Addr) (n m c0 c1:Nat) (a b:List Int) (hn:a.length=n) (hm:b.length=m) (w:World) (ha:RL w A0 a) (hb:RL w A1 b) :
  Calls Tryz.prog 169 #[.slice A0 n c0,.slice A1 m c1] w fun e w'=>e = .returned (.int .i64 (sQ a b n m))/\Dr w w':=by
 have hl:=ha.1;have hl':=hb.1;have hl2:n<=9223372036854775807:=by omega
 have gw:m<=9223372036854775807:=by omega
 have HA:=Lib.hid ha;have HN:=Lib.hid hn;have HB:=Lib.hid hb;have HM:=Lib.hid hm;clear ha hn hl hb hm hl';by_cases hc:dN n m=0
 ·have he:=Lib.hid (Qp hc)
  have HC:=Lib.hid hc;clear hc;go_enter Tryz.func169,Tryz.ntmps169;go_wp2_with fail
  refine(XF _ _ _).mono ?_;rintro e w' ⟨rfl,rfl⟩;rw[HC.out];go_wp2
  go_loopw [6,7] (fun t s w1=>∃ k:Nat,k<=n/\t = .int .i64 ((k:Int)-1)/\Hid (o9 a b k=o9 a b n)/\Dr w' w1) (fun t _ _=>(intOf t+1).toNat)
  case atStart=>exact⟨n,Nat.le_refl _,rfl,Lib.hid rfl,Dr.refl _⟩
  case round =>
   obtain⟨k,hk,rfl,hh,⟨q,rfl⟩⟩:=hrel;cases k with
   | zero =>
    have h1:decide (0<=((0:Nat):Int)-1)=false:=by simp
    go_wp2
    go_ret
    have h0:sQ a b n m=0:=by unfold sQ;rw[if_pos HC.out];exact hh.out.symm
    rw[h0];exact⟨rfl,by repeat(first|exact Dr.refl _|apply Dr.step)⟩
   | succ k =>
    have h1:decide (0<=((k+1:Nat):Int)-1)=true:=by simp
    have e1:((k+1:Nat):Int)-1=(k:Int):=by omega
    rw[e1]at h1 ⊢
    clear e1;obtain⟨ad,rfl,ga⟩:=HA.out.2 (by have:=HN.out;omega);obtain⟨bd,rfl,gb⟩:=HB.out.2 (by have:=HM.out;have:=he.out;omega);have ga1:=ga k (by have:=HN.out;omega);have gb1:=gb k (by have:=HM.out;have:=he.out;omega);have hk2:k<m:=by have:=he.out;omega
    have hk3:k<n:=by omega
    clear ga gb;have Hx:=hh.out;clear hh;by_cases hz:dN (lg a k) (lg b k)=0
    ·rw[IX hz]at Hx
     have hh:=Lib.hid Hx;have hz1:(dN (lg a k) (lg b k)==0)=true:=beq_iff_eq.mpr hz;have hz2:(dN (lg a k) (lg b k) != 0)=false:=bne_eq_false_iff_eq.mpr hz;clear Hx hz;go_wp2
     go_quiet ((go_at_call 181;refine(XG _ _ _).mono ?_;rintro e w' ⟨rfl,rfl⟩;first|exact⟨rfl,_,rfl⟩|exact⟨rfl,0,rfl⟩))
     go_wp2
     repeat(go_quiet (fail);try go_wp2)
     exact⟨⟨k,by omega,by go_num,hh,by repeat(first|exact Dr.refl _|apply Dr.step)⟩,by simp[intOf]⟩
    ·rw[Bb hz]at Hx
     have hh:=Lib.hid Hx;have hz1:(dN (lg a k) (lg b k)==0)=false:=beq_eq_false_iff_ne.mpr hz;have hz2:(dN (lg a k) (lg b k) != 0)=true:=bne_iff_ne.mpr hz;clear Hx hz;go_wp2
     go_quiet ((go_at_call 181;refine(XG _ _ _).mono ?_;rintro e w' ⟨rfl,rfl⟩;first|exact⟨rfl,_,rfl⟩|exact⟨rfl,0,rfl⟩))
     go_wp2
     repeat(go_quiet (fail);try go_wp2)
     go_ret
     have h0:sQ a b n m=dN (lg a k) (lg b k):=by unfold sQ;rw[if_pos HC.out];exact hh.out.symm
     rw[h0];exact⟨rfl,by repeat(first|exact Dr.refl _|apply Dr.step)⟩
 ·have he:=Lib.hid hc
  have h1:(dN n m==0)=false:=beq_eq_false_iff_ne.mpr hc;have h2:(dN n m != 0)=true:=bne_iff_ne.mpr hc;have h0:sQ a b n m=dN n m:=by unfold sQ;rw[if_neg hc]
  rw[h0];clear hc h0;go_enter Tryz.func169,Tryz.ntmps169;go_wp2_with (go_at_call 37;refine(XF _ _ _).mono ?_;rintro e w' ⟨rfl,rfl⟩)
  go_ret
  exact⟨rfl,by repeat(first|exact Dr.refl _|apply Dr.step)⟩
def Rw:Array Value->Sem Value:=fun args=>do
 let (x,y,b) <- Extern.MathBitsCarry.three "Sub64" args
 pure (Extern.MathBitsCarry.pair ((x+Extern.MathBitsCarry.m64-y-b)%Extern.MathBitsCarry.m64) (if x<y+b then 1 else 0))
theorem afo {P:Program} (x y b:Int) (hx:0<=x/\x<B) (hy:0<=y/\y<B) (hb:b=0\/b=1) (w:World) :
  (Rw #[.int .u64 x,.int .u64 y,.int .u64 b]).run P w = .ok (.tuple #[.int .u64 (fA x y b),.int .u64 (eU x y b)]) w:=by
 obtain⟨x,rfl⟩:=Int.eq_ofNat_of_zero_le hx.1;obtain⟨y,rfl⟩:=Int.eq_ofNat_of_zero_le hy.1;rw[B_eq]at hx hy
 have key:∀ k:Nat,k<=1->(Rw #[.int .u64 x,.int .u64 y,.int .u64 (k:Int)]).run P w =
   .ok (Extern.MathBitsCarry.pair ((x+Extern.MathBitsCarry.m64-y-k)%Extern.MathBitsCarry.m64) (if x<y+k then 1 else 0)) w:=by
  intro k hk;have:k=0\/k=1:=by omega
  rcases this with rfl|rfl <;> rfl
 obtain⟨k,hk,rfl⟩:∃ k:Nat,k<=1/\b=(k:Int):=by
  rcases hb with rfl|rfl
  ·exact⟨0,by omega,rfl⟩
  ·exact⟨1,by omega,rfl⟩
 rw[key k hk];have e1:fA x y k=((x+Extern.MathBitsCarry.m64-y-k)%Extern.MathBitsCarry.m64:Nat):=by
  unfold fA Extern.MathBitsCarry.m64;rw[B_eq];omega
 have e2:eU x y k=((if x<y+k then 1 else 0:Nat):Int):=by
  unfold eU;split <;> split <;> omega
 rw[e1,e2];rfl
theorem Xv (x y b:Int) (hx:0<=x/\x<B) (hy:0<=y/\y<B) (hb:b=0\/b=1) (w:World) :
  (callFunc 182 #[.int .u64 x,.int .u64 y,.int .u64 b]).run Tryz.prog w = .ok (.value (.tuple #[.int .u64 (fA x y b),.int .u64 (eU x y b)])) w:=by
 rw[run_callFunc_extern (fn:=Tryz.f182) (e:=Rw) (by kernel_rfl) (by kernel_rfl) (by kernel_rfl) (by kernel_rfl) (by kernel_rfl),afo x y b hx hy hb];rfl
theorem afp {P:Program} (x y b:Int) (hx:0<=x/\x<B) (hy:0<=y/\y<B) (hb:b=0\/b=1) (w:World) :
  (add64Entry #[.int .u64 x,.int .u64 y,.int .u64 b]).run P w = .ok (.tuple #[.int .u64 (fE x y b),.int .u64 (iK x y b)]) w:=by
 rw[run_add64 x y b hx.1 hy.1 aC aC];unfold fE iK;rw[B_eq]
theorem Qm (x y b:Int) (hx:0<=x/\x<B) (hy:0<=y/\y<B) (hb:b=0\/b=1) (w:World) :
  (callFunc 168 #[.int .u64 x,.int .u64 y,.int .u64 b]).run Tryz.prog w = .ok (.value (.tuple #[.int .u64 (fE x y b),.int .u64 (iK x y b)])) w:=by
 rw[run_callFunc_extern (fn:=Tryz.f168) (e:=add64Entry) (by kernel_rfl) (by kernel_rfl) (by kernel_rfl) (by kernel_rfl) (by kernel_rfl),afp x y b hx hy hb];rfl
theorem RL.only {w w1:World} {g:Nat} {A:Option Addr} {l:List Int} (h:RL w A l) (ho:bN g w w1) (hne:0<l.length->∀ ad,A=some ad->ad.block≠g):RL w1 A l :=
 ⟨h.1,fun hn=>by
  obtain⟨ad,e,hc⟩:=h.2 hn
  refine⟨ad,e,fun j hj=>?_⟩
  rw[<- hc j hj]
  refine World.cell?_of_block (w:=w) (ho.block _ ?_)
  have:=hne hn ad e
  unfold Addr.add
  split <;> exact this⟩
theorem RL.below {B:Nat} {w w1:World} {A:Option Addr} {l:List Int} (h:RL w A l) (ho:Below B w w1) (hB:w.heap.size<=B):RL w1 A l :=
 ⟨h.1,fun hn=>by
  obtain⟨ad,e,hc⟩:=h.2 hn
  refine⟨ad,e,fun j hj=>?_⟩
  rw[<- hc j hj]
  have:=World.block_lt_of_cell? w _ (hc j hj)
  exact ho.cell aC⟩
theorem RL.lt {w:World} {A:Option Addr} {l:List Int} (h:RL w A l) (hn:0<l.length) (ad:Addr) (he:A=some ad):ad.block<w.heap.size:=by
 obtain⟨Ac,e,hc⟩:=h.2 hn;rw[he]at e
 cases e;have:=World.block_lt_of_cell? w _ (hc 0 hn);unfold Addr.add at this;simpa using this
theorem RL.take {w:World} {A:Option Addr} {l:List Int} (h:RL w A l) (m:Nat):RL w A (l.take m):=by
 refine⟨by rw[List.length_take];have:=h.1;omega,fun hn=>?_⟩;rw[List.length_take]at hn
 obtain⟨ad,e,hc⟩:=h.2 aC;refine⟨ad,e,fun j hj=>?_⟩;rw[List.length_take]at hj
 rw[hc j aC,yz,if_pos aC]
theorem RL.dI {w:World} {A:Option Addr} {l:List Int} (h:RL w A l) (n:Nat):RL (w.drewN n) A l:=h
theorem cO.RL {w:World} {g:Nat} {l:List Int} (h:cO w g l) (hl:l.length<=9223372036854775807):RL w (some ⟨g,0,none⟩) l :=
 ⟨hl,fun _=>⟨_,rfl,fun j hj=>by
  rw[show(⟨g,0,none⟩:Addr).add j=⟨g,j,none⟩ by unfold Addr.add;split <;> simp_all]
  exact h.cell j hj⟩⟩
def pO (w:World) (v:Value) (r:List Int):Prop:=∃ A c,v = .slice A r.length c/\r.length<=c/\RL w A r
def amD (g o n m:Nat) (L l:List Int) (w:World) (e:Ending) (w':World):Prop:=∃ L' b,e = .returned (.int .u64 b)/\cO w' g L'/\L'.length=L.length/\aG L'/\(∀ j,(j<o\/o+n<=j)->lg L' j=lg L j)/\(b=0\/b=1)/\win L' o n-b*B^n=win L o n-aK (lg l) (min n m)/\bN g w w'
structure aaz (g o n m:Nat) (L l:List Int) (w:World) (k:Nat) (b:Int) (L':List Int) (w1:World):Prop where
 blk:cO w1 g L'
 len:L'.length=L.length
 lim:aG L'
 Ad:∀ j,(j<o\/o+k<=j)->lg L' j=lg L j
 bit:b=0\/b=1
 val:win L' o k-b*B^k=win L o k-aK (lg l) (min k m)
 only:bN g w w1
theorem SK (g o n c0:Nat) (L:List Int) (A1:Option Addr) (m c1:Nat) (l:List Int) (hm:l.length=m) (w:World) (hB:cO w g L) (hL:aG L) (ho:o+n<=L.length)
  (hn:n<=9223372036854775807) (hl:RL w A1 l) (hlim:aG l) (hne:0<l.length->∀ ad,A1=some ad->ad.block≠g) :
  Calls Tryz.prog 170 #[.slice (some ⟨g,o,none⟩) n c0,.slice A1 m c1] w (amD g o n m L l w):=by
 have hm2:m<=9223372036854775807:=by have:=hl.1;omega
 have H0:aaz g o n m L l w 0 0 L w:=⟨hB,rfl,hL,fun _ _=>rfl,.inl rfl,by simp[win,aK],bN.refl _ _⟩
 have HM:=Lib.hid hm;have HO:=Lib.hid ho;have HL:=Lib.hid hl;have BV:=Lib.hid hlim;have wD:=Lib.hid hne;clear hm hB hL ho hl hlim hne;go_enter Tryz.func170,Tryz.ntmps170;go_wp2
 go_loopw [5,6,7,10] (fun bv _ _ t w1=>∃ (k:Nat) (b:Int) (L':List Int),k<=n/\t = .int .i64 k/\bv = .int .u64 b/\aaz g o n m L l w k b L' w1) (fun _ _ _ t _=>n-(intOf t).toNat)
 case atStart=>exact⟨0,0,L,Nat.zero_le _,rfl,rfl,H0⟩
 case round =>
  clear H0;obtain⟨k,b,L',hk,rfl,rfl,hI⟩:=hrel;have HI:=Lib.hid hI;by_cases hlt:k<n
  ·have hc:=hI.blk.cell (o+k) (by rw[hI.len];have:=HO.out;omega)
   have hf:=hI.blk.free (o+k);have hx:=hI.lim (o+k);have hb:=hI.bit;have hS:=nC (o:=o) (L:=L) (m:=m) (by rw[hI.len];have:=HO.out;omega) hI.lim BV.out hI.Ad hb HM.out hI.val;have h1:decide ((k:Int)<(n:Int))=true:=by simp;omega
   by_cases hkm:k<m
   ·have h2:decide ((k:Int)<(m:Int))=true:=by simp;omega
    obtain⟨ad,rfl,bW⟩:=(HL.out.only hI.only wD.out).2 (by have:=HM.out;omega);have hc2:=bW k (by have:=HM.out;omega);have To:=Xv (lg L' (o+k)) (lg l k) b hx (BV.out k) hb;have HS:=Lib.hid hS;clear hS hI hx hb bW;have jK:=HI.out;go_wp2
    obtain⟨s1,s2,s3,s4⟩:=HS.out;exact⟨⟨k+1,_,_,by omega,by go_num,rfl,⟨jK.blk.set _ _,by rw[List.length_set];exact jK.len,s1,s2,s3,s4,jK.only.set _ _⟩⟩,by simp[intOf];omega⟩
   ·have h2:decide ((k:Int)<(m:Int))=false:=by simp;omega
    have hz:lg l k=0:=nK (by have:=HM.out;omega);rw[hz]at hS
    have To:=Xv (lg L' (o+k)) 0 b hx (by rw[B_eq];omega) hb;have HS:=Lib.hid hS;clear hS hI hx hb hz;have jK:=HI.out;go_wp2
    obtain⟨s1,s2,s3,s4⟩:=HS.out;exact⟨⟨k+1,_,_,by omega,by go_num,rfl,⟨jK.blk.set _ _,by rw[List.length_set];exact jK.len,s1,s2,s3,s4,jK.only.set _ _⟩⟩,by simp[intOf];omega⟩
  ·have he:k=n:=by omega
   subst he;have h1:decide ((k:Int)<(k:Int))=false:=by simp
   go_wp2
   go_ret
   exact⟨L',b,rfl,hI.blk,hI.len,hI.lim,hI.Ad,hI.bit,hI.val,hI.only⟩
end Go.Proofs.YtcmepkhjggpmeaaGreat
