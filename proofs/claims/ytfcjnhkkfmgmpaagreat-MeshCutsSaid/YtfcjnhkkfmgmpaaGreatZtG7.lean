import Derived.Test.YtfcjnhkkfmgmpaaGreatZtG3
set_option linter.all false
set_option maxRecDepth 100000
set_option maxHeartbeats 8000000
namespace Go.Proofs.YtfcjnhkkfmgmpaaGreat.aS
def part (l:List Int) (o m:Nat):List Int:=(l.drop o).take m
theorem OD {l:List Int} {o m:Nat} (h:o+m<=l.length):(part l o m).length=m:=by
 unfold part;rw[List.length_take,List.length_drop];omega
theorem Va (l:List Int) (o m j:Nat):lg (part l o m) j=if j<m then lg l (o+j) else 0:=by
 unfold part;rw[Aw];split
 ·unfold lg
  rw[List.getD_eq_getElem?_getD,List.getD_eq_getElem?_getD,List.getElem?_drop]
 ·rfl
theorem aH.part {l:List Int} (h:aH l) (o m:Nat):aH (part l o m):=fun j=>by
 rw[Va];split
 ·exact h _
 ·exact⟨Int.le_refl _,by decide⟩
theorem alu {l:List Int} {o m:Nat} (h:o+m<=l.length):lv (part l o m)=win l o m:=by
 unfold lv;rw[OD h];exact kg fun j hj=>by rw[Va,if_pos hj]
theorem kL {l:List Int} (h:aH l) (o n:Nat):0<=win l o n/\win l o n<B^n:=iX n fun j=>h _
theorem akG {l:List Int} {k:Nat} (h:aH l) (hl:l.length=k+1) (hv:9223372036854775808*B^k<=lv l):9223372036854775808<=lg l k:=by
 have e:lv l=aQ (lg l) k+lg l k*B^k:=by unfold lv;rw[hl];rfl
 have b:=iX k h;apply Int.le_of_not_gt;intro hlt;have:(lg l k+1)*B^k<=9223372036854775808*B^k:=Int.mul_le_mul_of_nonneg_right (by omega) (Int.le_of_lt (Bp k));have e2:(lg l k+1)*B^k=lg l k*B^k+B^k:=by grind
 omega
theorem len_eq {l:List Int} {k:Nat} (h:aH l) (ht:Tr l) (h1:lv l<B^(k+1)) (h2:B^k<=lv l):l.length=k+1:=by
 have a:=iu ht h h1;have b:=(dF h).2;by_cases e:l.length<=k
 ·have:=kY e
  omega
 ·omega
theorem akH {P D p1 p0 top low M:Int} (hM:0<M) (hP:P=(p1*B+p0)*M+low) (JJ:0<=low/\low<M) (hD:top*M<=D) (mH:0<top) (hp1:0<=p1) (YU:0<=p0) (hlt:P<D*B) :
  P / D<=(if top<=p1 then B-1 else (p1*B+p0) / top):=by
 have GH:0<D:=by have:=Int.mul_pos mH hM;omega
 have hn:0<=p1*B+p0:=by have:=Int.mul_nonneg hp1 (show 0<=B by decide);omega
 have hP0:0<=P:=by rw[hP];have:=Int.mul_nonneg hn (Int.le_of_lt hM);omega
 split
 ·have:P / D<B:=Int.ediv_lt_of_lt_mul GH (by rw[Int.mul_comm];exact hlt)
  omega
 ·apply Int.le_ediv_of_mul_le mH
  have hQ:0<=P / D:=Int.ediv_nonneg hP0 (by omega);have h1:P / D*D<=P:=Int.ediv_mul_le _ (by omega);have h2:P / D*(top*M)<=P / D*D:=Int.mul_le_mul_of_nonneg_left hD hQ;have e1:P / D*(top*M)=P / D*top*M:=by grind
  generalize P / D*top=z at *;apply Int.le_of_lt_add_one;apply Int.lt_of_not_ge;intro hge;have h3:(p1*B+p0+1)*M<=z*M:=Int.mul_le_mul_of_nonneg_right hge (Int.le_of_lt hM);have e2:(p1*B+p0+1)*M=(p1*B+p0)*M+M:=by grind
  omega
theorem mY {L L':List Int} {i m N:Nat} (hN:i+m<=N) (jD:∀ j,(j<i\/i+m<=j)->lg L' j=lg L j):win L' 0 N-win L 0 N=B^i*(win L' i m-win L i m):=by
 obtain⟨d,rfl⟩:=Nat.exists_eq_add_of_le hN;rw[iO L',iO L,iO L',iO L,Nat.zero_add,Nat.zero_add];have e1:win L' 0 i=win L 0 i:=gB fun j hj=>jD _ (by omega);have e2:win L' (i+m) d=win L (i+m) d:=gB fun j hj=>jD _ (by omega);rw[e1,e2];grind
structure wB (R0 D:Int) (k lq j:Nat) (L q:List Int):Prop where
 len:L.length=lq+k
 bL:aH L
 A_:q.length=lq
 af5:aH q
 zero:∀ t,j+k<=t->lg L t=0
 up:win L j k<D
 val:lv L+win q j (lq-j)*(B^j*D)=R0
theorem wB.part {R0 D:Int} {k lq i:Nat} {L q:List Int} (h:wB R0 D k lq (i+1) L q):0<=win L i (k+1)/\win L i (k+1)<D*B:=by
 rw[kj];have h0:=h.bL i;have h1:=(kL h.bL (i+1) k).1;have h2:=h.up;have h3:B*(win L (i+1) k+1)<=B*D:=Int.mul_le_mul_of_nonneg_left (by omega) (by decide);have e1:B*(win L (i+1) k+1)=B*win L (i+1) k+B:=by grind
 have e2:D*B=B*D:=Int.mul_comm _ _;have:=Int.mul_nonneg (show 0<=B by decide) h1;omega
theorem wB.step {R0 D Q:Int} {k lq i:Nat} {L q L':List Int} (h:wB R0 D k lq (i+1) L q) (hD:D<B^k) (hi:i<lq) (hQ:0<=Q/\Q<B) (hlen:L'.length=L.length) (j3:aH L')
  (jD:∀ j,(j<i\/i+(k+1)<=j)->lg L' j=lg L j) (hv:win L' i (k+1)=win L i (k+1)-Q*D) (hlt:win L' i (k+1)<D):wB R0 D k lq i L' (q.set i Q):=by
 have hk:lg L' (i+k)=0:=by
  have e:=eO L' i k;have b:=(kL j3 i k).1;have h0:=(j3 (i+k)).1;apply Int.le_antisymm _ h0;apply Int.le_of_not_gt;intro hgt;have:1*B^k<=lg L' (i+k)*B^k:=Int.mul_le_mul_of_nonneg_right (by omega) (Int.le_of_lt (Bp k));omega
 refine⟨by rw[hlen];exact h.len,j3,by rw[List.length_set];exact h.A_,h.af5.set _ hQ,?_,?_,?_⟩
 ·intro t ht
  by_cases e:t=i+k
  ·rw[e];exact hk
  ·rw[jD t (by omega)]
   exact h.zero t (by omega)
 ·have e:=eO L' i k
  rw[hk]at e
  omega
 ·have hN:i+(k+1)<=lq+k:=by omega
  have e1:=mY hN jD;have e2:win L' 0 (lq+k)=lv L':=by rw[<- h.len,<- hlen];exact fj L'
  have e3:win L 0 (lq+k)=lv L:=by rw[<- h.len];exact fj L
  rw[e2,e3,hv]at e1
  have e4:win (q.set i Q) i (lq-i)=Q+B*win q (i+1) (lq-(i+1)):=by
   rw[show lq-i=lq-(i+1)+1 by omega,kj,cO,if_pos ⟨rfl,by rw[h.A_];exact hi⟩];rw[gB (l:=q.set i Q) (l':=q) fun j hj=>by rw[cO,if_neg (by omega)]]
  have e5:=h.val;rw[Bs]at e5
  rw[e4];generalize win q (i+1) (lq-(i+1))=W at *;generalize B^i=P at *;generalize win L i (k+1)=p at *;have:(Q+B*W)*(P*D)=Q*(P*D)+W*(P*B*D):=by grind
  rw[this];have:P*(p-Q*D-p) = -(Q*(P*D)):=by grind
  omega
theorem wB.done {R0 D:Int} {k lq:Nat} {L q:List Int} (h:wB R0 D k lq 0 L q) (hD:0<D):lv q=R0 / D/\lv L=R0%D:=by
 have e1:win q 0 (lq-0)=lv q:=by rw[Nat.sub_zero,<- h.A_];exact fj q
 have e2:lv L=win L 0 k:=by
  rw[<- fj,h.len];exact jH (by omega) fun j h1 _=>h.zero _ (by omega)
 have e3:=h.val;have h4:=h.up;have h5:=(dF h.bL).1;rw[e1]at e3
 have e6:lv q*(B^0*D)=lv q*D:=by rw[Int.pow_zero,Int.one_mul]
 rw[e6]at e3
 obtain⟨g1,g2⟩:=U_ (U:=R0) (q:=lv q) hD (by omega) (by omega);exact⟨g1.symm,by omega⟩
theorem wB.start {R0 D S v:Int} {k lq n:Nat} {L q:List Int} (hl:L.length=lq+k) (hn:lq+k=n+1) (hL:aH L) (hq:q.length=lq) (hqz:aH q) (hv:lv L=R0) (hR:R0=S*v) (lU:v<B^n) (hS:0<S/\S<=9223372036854775808)
  (hk:1<=k) (hD:9223372036854775808*B^(k-1)<=D):wB R0 D k lq lq L q:=by
 refine⟨hl,hL,hq,hqz,fun t ht=>oz (by omega),?_,?_⟩
 ·have e1:lv L=win L 0 lq+B^lq*win L lq k:=by
   rw[<- fj,hl,iO,Nat.zero_add]
  have h0:=(kL hL 0 lq).1;have h1:S*v<S*B^n:=Int.mul_lt_mul_of_pos_left lU hS.1;have h2:n=lq+(k-1):=by omega
  rw[h2,Int.pow_add]at h1
  have h3:B^lq*win L lq k<B^lq*(S*B^(k-1)):=by
   have:S*(B^lq*B^(k-1))=B^lq*(S*B^(k-1)):=by grind
   omega
  have h4:win L lq k<S*B^(k-1):=Int.lt_of_mul_lt_mul_left h3 (Int.le_of_lt (Bp lq));have h5:S*B^(k-1)<=9223372036854775808*B^(k-1):=Int.mul_le_mul_of_nonneg_right hS.2 (Int.le_of_lt (Bp _));omega
 ·rw[Nat.sub_self];simp[win,aQ];exact hv
theorem akI {L L' l:List Int} {o n:Nat} {b:Int} (j3:aH L') (hl:l.length=n) (hb:b=0\/b=1) (hle:lv l<=win L o n) (hv:win L' o n-b*B^n=win L o n-aQ (lg l) (min n n)):win L' o n=win L o n-lv l:=by
 have e:aQ (lg l) (min n n)=lv l:=by rw[Nat.min_self];unfold lv;rw[hl]
 rw[e]at hv
 have h1:=kL j3 o n;rcases hb with rfl|rfl
 ·omega
 ·omega
theorem akJ {y:List Int} {k1:Nat} {S T:Int} (hl:y.length=k1+1) (hy:aH y) (hS:0<S) (iF:S*T=B) (h1:9223372036854775808<=lg y k1*S) (h2:lg y k1*S<B) :
  S*lv y<B^(k1+1)/\9223372036854775808*B^k1<=S*lv y:=by
 have e:lv y=aQ (lg y) k1+lg y k1*B^k1:=by unfold lv;rw[hl];rfl
 have b:=iX k1 hy;have hp:=Bp k1;have ht:lg y k1+1<=T:=by
  apply Int.le_of_not_gt;intro hgt;have:S*T<=S*lg y k1:=Int.mul_le_mul_of_nonneg_left (by omega) (by omega);have:S*lg y k1=lg y k1*S:=Int.mul_comm _ _;omega
 constructor
 ·have h3:S*lv y<S*((lg y k1+1)*B^k1):=by
   apply Int.mul_lt_mul_of_pos_left _ hS;have:(lg y k1+1)*B^k1=lg y k1*B^k1+B^k1:=by grind
   omega
  have h4:S*((lg y k1+1)*B^k1)<=S*(T*B^k1):=Int.mul_le_mul_of_nonneg_left (Int.mul_le_mul_of_nonneg_right ht (by omega)) (by omega);have h5:S*(T*B^k1)=B^(k1+1):=by rw[Bs,<- Int.mul_assoc,iF,Int.mul_comm]
  omega
 ·have h3:S*(lg y k1*B^k1)<=S*lv y:=Int.mul_le_mul_of_nonneg_left (by omega) (by omega)
  have h4:S*(lg y k1*B^k1)=lg y k1*S*B^k1:=by grind
  have h5:9223372036854775808*B^k1<=lg y k1*S*B^k1:=Int.mul_le_mul_of_nonneg_right h1 (by omega);omega
theorem akK {Pr y:List Int} {k1:Nat} {c q:Int} (hl:Pr.length=k1+1+1) (hy:y.length=k1+1) (hv:win Pr 0 (k1+1)+c*B^(k1+1)=win (List.replicate (k1+1+1) 0) 0 (k1+1)+q*aQ (lg y) (k1+1)) :
  lv (Pr.set (k1+1) c)=q*lv y:=by
 have e0:win (List.replicate (k1+1+1) 0) 0 (k1+1)=0:=jH (m:=0) (by omega) fun j _ _=>mX _ _;have e1:aQ (lg y) (k1+1)=lv y:=by unfold lv;rw[hy]
 have e2:lv (Pr.set (k1+1) c)=win (Pr.set (k1+1) c) 0 (k1+1+1):=by
  rw[<- fj,List.length_set,hl]
 rw[e0,e1]at hv
 rw[e2,eO,Nat.zero_add,cO,if_pos ⟨rfl,by omega⟩,gB (l:=Pr.set (k1+1) c) (l':=Pr) fun j hj=>by rw[cO,if_neg (by omega)],hv];simp
def j4 (f:Nat->Int):Nat->Int
 | 0=>0
 | n+1=>j4 f n+f n*256^n
def gw (s:ByteArray) (i:Nat):Int:=if h:i<s.size then ((s[s.size-1-i]'(by omega)).toNat:Int) else 0
theorem su (s:ByteArray) (i:Nat):0<=gw s i/\gw s i<256:=by
 unfold gw;split
 ·have:=(s[s.size-1-i]'(by omega)).toNat_lt
  omega
 ·omega
def nv (s:ByteArray):Int:=j4 (gw s) s.size
theorem Yp (n:Nat):(0:Int)<256^n:=Int.pow_pos (by decide)
theorem Ys (n:Nat):(256:Int)^(n+1)=256^n*256:=Int.pow_succ _ _
theorem ug {m n:Nat} (h:m<=n):(256:Int)^m<=256^n:=by
 obtain⟨d,rfl⟩:=Nat.exists_eq_add_of_le h;rw[Int.pow_add];have h1:=Yp m;have h2:=Yp d;have:(256:Int)^m*1<=256^m*256^d:=Int.mul_le_mul_of_nonneg_left (by omega) (by omega);omega
theorem YB (n:Nat):(256:Int)^(8*n)=B^n:=by
 rw[Int.pow_mul];rfl
theorem Y2 (n:Nat):(256:Int)^n=2^(8*n):=by
 rw[Int.pow_mul];rfl
theorem EA {f:Nat->Int} (n:Nat) (h:∀ j,0<=f j/\f j<256):0<=j4 f n/\j4 f n<256^n:=by
 induction n with
 | zero=>exact⟨Int.le_refl _,by simp[j4]⟩
 | succ n ih =>
  unfold j4;rw[Ys];have h1:=h n;have h2:=Yp n;have h3:0<=f n*256^n:=Int.mul_nonneg h1.1 (Int.le_of_lt h2);have h4:f n*256^n<=(256-1)*256^n:=Int.mul_le_mul_of_nonneg_right (by omega) (Int.le_of_lt h2);have h5:(256-1:Int)*256^n=256^n*256-256^n:=by grind
  omega
theorem aar {f g:Nat->Int} {n:Nat} (h:∀ j,j<n->f j=g j):j4 f n=j4 g n:=by
 induction n with
 | zero=>rfl
 | succ n ih=>unfold j4;rw[ih (fun j hj=>h j (by omega)),h n (by omega)]
theorem jM (s:ByteArray):0<=nv s/\nv s<256^s.size:=EA _ (su s)
theorem nj {L:List Int} {j:Nat} {x:Int} (hj:j<L.length):lv (L.set j x)=lv L+(x-lg L j)*B^j:=by
 have h:=mY (L:=L) (L':=L.set j x) (i:=j) (m:=1) (N:=L.length) (by omega) (fun t ht=>by rw[cO,if_neg (by omega)]);have e1:win (L.set j x) 0 L.length=lv (L.set j x):=by
  have:=fj (L.set j x);rw[List.length_set]at this;exact this
 rw[e1,fj]at h
 have w1:∀ l:List Int,win l j 1=lg l j:=fun l=>by
  rw[eO,Int.pow_zero,Int.mul_one,Nat.add_zero];exact Int.zero_add _
 have e2:win (L.set j x) j 1=x:=by rw[w1,cO,if_pos ⟨rfl,hj⟩]
 have e3:win L j 1=lg L j:=w1 L;rw[e2,e3]at h
 have:(x-lg L j)*B^j=B^j*(x-lg L j):=Int.mul_comm _ _;omega
structure iH (f:Nat->Int) (N k:Nat) (L:List Int):Prop where
 len:L.length=N
 bL:aH L
 low:lg L (k / 8)<256^(k%8)
 zero:∀ j,k / 8<j->lg L j=0
 val:lv L=j4 f k
theorem iH.step {f:Nat->Int} {N k:Nat} {L:List Int} (h:iH f N k L) (hf:∀ j,0<=f j/\f j<256) (hk:k / 8<N) :
  (0<=f k*256^(k%8)/\f k*256^(k%8)<B/\lg L (k / 8)+f k*256^(k%8)<B)/\iH f N (k+1) (L.set (k / 8) (lg L (k / 8)+f k*256^(k%8))):=by
 have hl0:=(h.bL (k / 8)).1;have GI:=hf k;have JJ:=h.low;have hp:=Yp (k%8);have h3:0<=f k*256^(k%8):=Int.mul_nonneg GI.1 (Int.le_of_lt hp);have h4:f k*256^(k%8)<=(256-1)*256^(k%8):=Int.mul_le_mul_of_nonneg_right (by omega) (Int.le_of_lt hp);have h5:(256-1:Int)*256^(k%8)=256^(k%8+1)-256^(k%8):=by rw[Ys];grind
 have h6:(256:Int)^(k%8+1)<=B:=by
  exact ug (n:=8) (by omega)
 have hval:lv (L.set (k / 8) (lg L (k / 8)+f k*256^(k%8)))=j4 f (k+1):=by
  rw[nj (by rw[h.len];exact hk),h.val];show _=j4 f k+f k*256^k;have e:(256:Int)^k=256^(k%8)*B^(k / 8):=by
   rw[<- YB,<- Int.pow_add];congr 1;omega
  rw[e];grind
 refine⟨⟨h3,by omega,by omega⟩,⟨by rw[List.length_set];exact h.len,h.bL.set _ ⟨by omega,by omega⟩,?_,?_,hval⟩⟩
 ·by_cases e:(k+1) / 8=k / 8
  ·rw[e,cO,if_pos ⟨rfl,by rw[h.len];exact hk⟩,show(k+1)%8=k%8+1 by omega]
   omega
  ·rw[cO,if_neg (by omega),h.zero _ (by omega)]
   exact Yp _
 ·intro j hj
  rw[cO,if_neg (by omega)];exact h.zero j (by omega)
theorem iH.start (f:Nat->Int) (N:Nat):iH f N 0 (List.replicate N 0) :=
 ⟨by simp,jd _,by rw[mX];exact Yp _,fun j _=>mX _ _,jH (m:=0) (by omega) fun j _ _=>mX _ _⟩
theorem iH.top {f:Nat->Int} {n:Nat} {L:List Int} (h:iH f ((n+7) / 8) n L) (hf:∀ j,0<=f j/\f j<256) (mH:0<n->f (n-1)≠0):Tr L:=by
 cases n with
 | zero=>exact .inl (by rw[h.len])
 | succ n =>
  have hl:=h.len;have hN:(n+1+7) / 8=n / 8+1:=by omega
  right;rw[hl,hN,Nat.add_sub_cancel];intro hz;have e1:lv L=aQ (lg L) (n / 8):=by
   unfold lv;rw[hl,hN];show aQ (lg L) (n / 8)+lg L (n / 8)*B^(n / 8)=_;rw[hz,Int.zero_mul,Int.add_zero]
  have e2:=h.val;have b:=iX (n / 8) h.bL;have:j4 f (n+1)=j4 f n+f n*256^n:=rfl;have h0:=(EA n hf).1;have hne:=mH (by omega);rw[Nat.add_sub_cancel]at hne
  have xW:=hf n;have h1:1*256^n<=f n*256^n:=Int.mul_le_mul_of_nonneg_right (by omega) (Int.le_of_lt (Yp n));have h2:B^(n / 8)<=256^n:=by
   rw[<- YB];exact ug (by omega)
  omega
def qH (v:Nat):Nat:=if h:v=0 then 0 else qH (v / 256)+1
termination_by v
decreasing_by omega
theorem aaU:qH 0=0:=by unfold qH;rfl
theorem alv {v:Nat} (h:v≠0):qH v=qH (v / 256)+1:=by
 rw[qH,dif_neg h]
theorem aaV (v:Nat) (h:v≠0):256^(qH v-1)<=v/\v<256^qH v/\1<=qH v:=by
 induction v using Nat.strongRecOn with
 | _ v ih =>
  rw[alv h,Nat.add_sub_cancel];by_cases h0:v / 256=0
  ·rw[h0,aaU]
   refine⟨by omega,by omega,by omega⟩
  ·obtain⟨a,b,c⟩:=ih (v / 256) (by omega) h0
   obtain⟨m,hm⟩:∃ m,qH (v / 256)=m+1:=⟨qH (v / 256)-1,by omega⟩
   rw[hm]at a b ⊢
   rw[Nat.add_sub_cancel]at a
   rw[Nat.pow_succ]at b ⊢
   rw[Nat.pow_succ 256 (m+1),Nat.pow_succ];omega
theorem akQ {v n:Nat} (h1:256^n<=v) (h2:v<256^(n+1)):qH v=n+1:=by
 have h0:v≠0:=by have:=Nat.pow_pos (a:=256) (n:=n) (by omega);omega
 obtain⟨a,b,c⟩:=aaV v h0;have l1:qH v<=n+1:=by
  apply Nat.le_of_not_lt;intro hgt;have:=Nat.pow_le_pow_right (show 0<256 by omega) (show n+1<=qH v-1 by omega);omega
 have l2:n+1<=qH v:=by
  apply Nat.le_of_not_lt;intro hgt;have:=Nat.pow_le_pow_right (show 0<256 by omega) (show qH v<=n by omega);omega
 omega
def nb (v:Int):Nat:=qH v.toNat
theorem Nr (n:Nat):((256^n:Nat):Int)=(256:Int)^n:=by rw[Int.natCast_pow];rfl
theorem QA {v:Int} {n:Nat} (h1:256^n<=v) (h2:v<256^(n+1)):nb v=n+1:=by
 have h0:0<v:=by have:=Yp n;omega
 obtain⟨m,rfl⟩:=Int.eq_ofNat_of_zero_le (Int.le_of_lt h0);unfold nb;rw[Int.toNat_natCast];apply akQ
 ·rw[<- Nr]at h1;exact Int.ofNat_le.mp h1
 ·rw[<- Nr]at h2;exact Int.ofNat_lt.mp h2
theorem EB {v:Int} (h:0<v):256^(nb v-1)<=v/\v<256^nb v/\1<=nb v:=by
 obtain⟨m,rfl⟩:=Int.eq_ofNat_of_zero_le (Int.le_of_lt h);unfold nb;rw[Int.toNat_natCast];obtain⟨a,b,c⟩:=aaV m (by omega);exact⟨by rw[<- Nr];exact Int.ofNat_le.mpr a,by rw[<- Nr];exact Int.ofNat_lt.mpr b,c⟩
theorem yN:nb 0=0:=aaU
def kF (v:Int) (i:Nat):Int:=v / 256^i%256
theorem PZ (v:Int) (i:Nat):0<=kF v i/\kF v i<256:=⟨Int.emod_nonneg _ (by decide),Int.emod_lt_of_pos _ (by decide)⟩
theorem aaW (v:Int) (n:Nat):j4 (kF v) n=v%256^n:=by
 induction n with
 | zero=>rw[Int.pow_zero];show(0:Int)=v%1;omega
 | succ n ih =>
  show j4 (kF v) n+kF v n*256^n=_;rw[ih,Ys];unfold kF;have hp:=Yp n;have e1:=Int.mul_ediv_add_emod v (256^n);have e2:=Int.mul_ediv_add_emod (v / 256^n) 256;have b1:=Int.emod_nonneg v (show(256:Int)^n≠0 by omega);have b2:=Int.emod_lt_of_pos v hp;have b3:=Int.emod_nonneg (v / 256^n) (show(256:Int)≠0 by decide);have b4:=Int.emod_lt_of_pos (v / 256^n) (show(0:Int)<256 by decide);generalize v%256^n=r at *;generalize v / 256^n%256=d at *;generalize v / 256^n / 256=h at *;generalize v / 256^n=q at *;generalize (256:Int)^n=P at *;have e3:v=(P*256)*h+(r+d*P):=by
   rw[<- e1,<- e2];grind
  have h1:0<=d*P:=Int.mul_nonneg b3 (by omega);have h2:d*P<=255*P:=Int.mul_le_mul_of_nonneg_right (by omega) (by omega);rw[e3,Int.add_comm ((P*256)*h),Int.add_mul_emod_self_left,Int.emod_eq_of_lt (by omega) (by omega)]
def eF (v:Int):ByteArray:=⟨((List.range (nb v)).map fun j=>UInt8.ofNat (kF v (nb v-1-j)).toNat).toArray⟩
theorem yH (v:Int):(eF v).size=nb v:=by
 unfold eF;show(List.toArray _).size=_;simp
theorem S_ {n:Nat} (h:n<256):(UInt8.ofNat n).toNat=n:=by
 rw[UInt8.toNat_ofNat'];omega
theorem aaX {v:Int} {i:Nat} (hi:i<nb v):gw (eF v) i=kF v i:=by
 have hs:=yH v;unfold gw;rw[dif_pos (by omega)];have hb:=PZ v i;have e:((eF v)[(eF v).size-1-i]'(by omega))=UInt8.ofNat (kF v (nb v-1-(nb v-1-i))).toNat:=by
  show((eF v).data)[(eF v).size-1-i]'_=_;simp[yH];unfold eF;simp
 rw[e,show nb v-1-(nb v-1-i)=i by omega,S_ (by omega)];omega
theorem Vb {v:Int} (h:0<=v):nv (eF v)=v:=by
 unfold nv;rw[yH,aar (g:=kF v) fun j hj=>aaX hj,aaW];by_cases h0:v=0
 ·subst h0;rw[yN];rfl
 ·exact Int.emod_eq_of_lt h (EB (by omega)).2.1
theorem aaJ:eF 0=⟨#[]⟩:=by
 unfold eF;rw[yN];rfl
def Canon (s:ByteArray):Prop:=0<s.size->gw s (s.size-1)≠0
theorem Th (v:Int) (h:0<=v):Canon (eF v):=by
 intro hs;rw[yH]at hs ⊢
 have hv:0<v:=by
  apply Int.lt_of_not_ge;intro hge;have:v=0:=by omega
  rw[this,yN]at hs
  omega
 obtain⟨a,b,c⟩:=EB hv;rw[aaX (by omega)];obtain⟨m,hm⟩:∃ m,nb v=m+1:=⟨nb v-1,by omega⟩
 rw[hm]at a b ⊢
 rw[Nat.add_sub_cancel]at a ⊢
 unfold kF;have hq1:1<=v / 256^m:=Int.le_ediv_of_mul_le (Yp m) (by omega);have J3:v / 256^m<256:=Int.ediv_lt_of_lt_mul (Yp m) (by rw[Ys,Int.mul_comm]at b;rw[Int.mul_comm];rw[Int.mul_comm];omega);rw[Int.emod_eq_of_lt (by omega) J3];omega
theorem Tb {s:ByteArray} (h:Canon s):s.size=nb (nv s):=by
 rcases Nat.eq_zero_or_pos s.size with h0|h0
 ·have:nv s=0:=by unfold nv;rw[h0];rfl
  rw[this,yN,h0]
 ·obtain⟨m,hm⟩:∃ m,s.size=m+1:=⟨s.size-1,by omega⟩
  have ht:=h h0;rw[hm,Nat.add_sub_cancel]at ht
  have e:nv s=j4 (gw s) m+gw s m*256^m:=by unfold nv;rw[hm];rfl
  have b:=EA m (su s);have hb:=su s m;have h1:1*256^m<=gw s m*256^m:=Int.mul_le_mul_of_nonneg_right (by omega) (Int.le_of_lt (Yp m));rw[hm];exact(QA (by omega) (by rw[<- hm];exact(jM s).2)).symm
theorem akR {f g:Nat->Int} {n:Nat} (hf:∀ j,0<=f j/\f j<256) (hg:∀ j,0<=g j/\g j<256) (h:j4 f n=j4 g n):∀ j,j<n->f j=g j:=by
 induction n with
 | zero=>intro j hj;omega
 | succ n ih =>
  have e1:j4 f (n+1)=j4 f n+f n*256^n:=rfl;have e2:j4 g (n+1)=j4 g n+g n*256^n:=rfl;rw[e1,e2]at h
  have a:=EA n hf;have b:=EA n hg;have hp:=Yp n;have hn:f n=g n:=by
   rcases Int.lt_trichotomy (f n) (g n) with h'|h'|h'
   ·have:(f n+1)*256^n<=g n*256^n:=Int.mul_le_mul_of_nonneg_right (by omega) (by omega)
    have e:(f n+1)*256^n=f n*256^n+256^n:=by grind
    omega
   ·exact h'
   ·have:(g n+1)*256^n<=f n*256^n:=Int.mul_le_mul_of_nonneg_right (by omega) (by omega)
    have e:(g n+1)*256^n=g n*256^n+256^n:=by grind
    omega
  intro j hj;by_cases e:j=n
  ·rw[e];exact hn
  ·exact ih (by rw[hn]at h;omega) j (by omega)
theorem aas {s t:ByteArray} (hs:Canon s) (ht:Canon t) (h:nv s=nv t):s=t:=by
 have e1:=Tb hs;have e2:=Tb ht;have e:s.size=t.size:=by rw[e1,e2,h]
 have hd:s.data=t.data:=by
  apply Array.ext
  ·exact e
  ·intro i h1 h2
   have hi1:i<s.size:=h1;have hi2:i<t.size:=h2;have hj:=akR (n:=s.size) (su s) (su t) (by
    have:nv t=j4 (gw t) s.size:=by unfold nv;rw[e]
    rw[<- this];exact h) (s.size-1-i) (by omega)
   unfold gw at hj;rw[dif_pos (by omega),dif_pos (by omega)]at hj
   have k1:s.size-1-(s.size-1-i)=i:=by omega
   have k2:t.size-1-(s.size-1-i)=i:=by omega
   have hj':(s[s.size-1-(s.size-1-i)]'(by omega)).toNat=(t[t.size-1-(s.size-1-i)]'(by omega)).toNat:=by exact_mod_cast hj
   simp only[k1,k2]at hj';exact UInt8.toNat_inj.mp hj'
 cases s;cases t;simp at hd;rw[hd]
theorem Vc {s:ByteArray} (h:Canon s):eF (nv s)=s :=
 aas (Th _ (jM s).1) h (Vb (jM s).1)
theorem n7 {l:List Int} (hl:aH l) (i:Nat):kF (lv l) i=lg l (i / 8) / 256^(i%8)%256:=by
 unfold kF;have e1:lv l=win l 0 (i / 8)+B^(i / 8)*win l (i / 8) (l.length+1):=by
  have:lv l=win l 0 (i / 8+(l.length+1)):=by
   unfold win;rw[kg (g:=lg l) fun j _=>by rw[Nat.zero_add]];exact(kM (by omega)).symm
  rw[this,iO,Nat.zero_add]
 have b:=kL hl 0 (i / 8);have e2:(256:Int)^i=B^(i / 8)*256^(i%8):=by
  rw[<- YB,<- Int.pow_add];congr 1;omega
 have hp:=Bp (i / 8);rw[e2,<- Int.ediv_ediv_of_nonneg (by omega)];have e3:lv l / B^(i / 8)=win l (i / 8) (l.length+1):=by
  rw[e1,Int.add_mul_ediv_left _ _ (by omega),Int.ediv_eq_zero_of_lt b.1 b.2,Int.zero_add]
 rw[e3,kj];have hB:B=256^(i%8)*(256^(7-i%8)*256):=by
  rw[<- Ys,<- Int.pow_add,show i%8+(7-i%8+1)=8 by omega];rfl
 have e4:lg l (i / 8)+B*win l (i / 8+1) l.length=lg l (i / 8)+256^(i%8)*(256^(7-i%8)*256*win l (i / 8+1) l.length):=by
  rw[hB];grind
 have hy:=Yp (i%8);rw[e4,Int.add_mul_ediv_left _ _ (by omega)];have e5:(256:Int)^(7-i%8)*256*win l (i / 8+1) l.length=256*(256^(7-i%8)*win l (i / 8+1) l.length):=by grind
 rw[e5,Int.add_mul_emod_self_left]
theorem ap3 {l:List Int} {p s:Nat} (hl:aH l) (hp:l.length=p+1) (hs:s<=63) (h1:9223372036854775808<=lg l p*2^s) (h2:lg l p*2^s<B):nb (lv l)=8*(p+1)-s / 8:=by
 have e:lv l=aQ (lg l) p+lg l p*B^p:=by unfold lv;rw[hp];rfl
 have b:=iX p hl;have hq:=Bp p;have t0:=hl p;have hpw:(0:Int)<2^s:=Int.pow_pos (by decide);obtain⟨c,r,hr,hsc⟩:∃ c r:Nat,r<8/\s=8*c+r:=⟨s / 8,s%8,by omega,by omega⟩
 have hc:s / 8=c:=by omega
 have e2:(2:Int)^s=256^c*2^r:=by rw[hsc,Int.pow_add,Y2]
 have hr1:(1:Int)<=2^r:=by have:(0:Int)<2^r:=Int.pow_pos (by decide);omega
 have hr2:(2:Int)^r<=128:=by
  have h7:r=0\/r=1\/r=2\/r=3\/r=4\/r=5\/r=6\/r=7:=by omega
  rcases h7 with rfl|rfl|rfl|rfl|rfl|rfl|rfl|rfl <;> decide
 have Sg:=Yp c;have hB:B=256^c*256^(8-c):=by rw[<- Int.pow_add,show c+(8-c)=8 by omega];rfl
 have u1:lg l p<256^(8-c):=by
  have:256^c*lg l p<256^c*256^(8-c):=by
   rw[<- hB];have h3:256^c*lg l p*1<=256^c*lg l p*2^r:=Int.mul_le_mul_of_nonneg_left hr1 (Int.mul_nonneg (by omega) t0.1);have h4:256^c*lg l p*2^r=lg l p*2^s:=by rw[e2];grind
   omega
  exact Int.lt_of_mul_lt_mul_left this (Int.le_of_lt Sg)
 have u2:256^(7-c)<=lg l p:=by
  apply Int.le_of_not_gt;intro hlt;have h3:lg l p*2^s<=(256^(7-c)-1)*2^s:=Int.mul_le_mul_of_nonneg_right (by omega) (by omega);have h4:(256^(7-c):Int)*2^s=256^7*2^r:=by
   rw[e2,<- Int.mul_assoc,<- Int.pow_add,show 7-c+c=7 by omega]
  have h5:((256:Int)^(7-c)-1)*2^s=256^(7-c)*2^s-2^s:=by grind
  have h6:(256:Int)^7*2^r<=256^7*128:=Int.mul_le_mul_of_nonneg_left hr2 (by decide);have h7:(256:Int)^7*128=9223372036854775808:=by decide
  omega
 rw[hc,show 8*(p+1)-c=8*p+(7-c)+1 by omega];apply QA
 ·rw[Int.pow_add,YB]
  have:B^p*256^(7-c)<=B^p*lg l p:=Int.mul_le_mul_of_nonneg_left u2 (by omega);have:B^p*lg l p=lg l p*B^p:=Int.mul_comm _ _;omega
 ·rw[show 8*p+(7-c)+1=8*p+(8-c) by omega,Int.pow_add,YB]
  have:(lg l p+1)*B^p<=256^(8-c)*B^p:=Int.mul_le_mul_of_nonneg_right (by omega) (by omega);have e6:(lg l p+1)*B^p=lg l p*B^p+B^p:=by grind
  have:B^p*256^(8-c)=256^(8-c)*B^p:=Int.mul_comm _ _;omega
end Go.Proofs.YtfcjnhkkfmgmpaaGreat.aS
