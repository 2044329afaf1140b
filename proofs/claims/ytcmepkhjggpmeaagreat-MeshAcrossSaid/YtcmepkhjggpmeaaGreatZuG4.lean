import Derived.Shelf.Strings.Repeat
import Derived.Shelf.Small.Bits
import Derived.Test.YtcmepkhjggpmeaaGreatZuG5
import Derived.Shelf.SlSortCmp.NoneTotal
import Derived.Ground.SlsfProg
set_option linter.all false
set_option maxRecDepth 100000
set_option maxHeartbeats 8000000
namespace Go.Proofs
open Go.Shelf
def Tryz.afs:Go.Shelf.Ren:=⟨fun|134=>155|129=>94|n=>n,fun|53=>140|3=>3|4=>4|46=>112|5=>5|9=>9|n=>n,fun|n=>n⟩
theorem Tryz.ah9:Go.Proofs.Lays.n134 Tryz.prog Tryz.afs:={
 mixed:=by kernel_rfl
 f129:=Tryz.func94.trans (congrArg some (by kernel_rfl))
 f134:=Tryz.func155.trans (congrArg some (by kernel_rfl))
 t3:=Tryz.underlying3
 a3:=Tryz.isAgg3
 z3:=Tryz.sizeOf3
 v3:=Tryz.zeroValue3
 t4:=Tryz.underlying4
 a4:=Tryz.isAgg4
 z4:=Tryz.sizeOf4
 v4:=Tryz.zeroValue4
 t5:=Tryz.underlying5
 a5:=Tryz.isAgg5
 z5:=Tryz.sizeOf5
 v5:=Tryz.zeroValue5
 t9:=Tryz.underlying9
 a9:=Tryz.isAgg9
 z9:=Tryz.sizeOf9
 v9:=Tryz.zeroValue9
 t46:=Tryz.underlying112
 a46:=Tryz.isAgg112
 z46:=Tryz.sizeOf112
 v46:=Tryz.zeroValue112
 t53:=Tryz.underlying140
 a53:=Tryz.isAgg140
 z53:=Tryz.sizeOf140
 v53:=Tryz.zeroValue140 }
theorem Tryz.bits_LeadingZeros64 (x:Int) (w:World) (h0:0<=x) (h1:x<=18446744073709551615) :
  Calls Tryz.prog 155 #[.int .u64 x] w fun e w'=>e = .returned (.int .i64 (64-(Lib.bitLen x.toNat:Int)))/\w'=w:=Any.bits_LeadingZeros64 Tryz.ah9 x w h0 h1
end Go.Proofs
namespace Go.Proofs.YtcmepkhjggpmeaaGreat.aP
def jv (f:Nat->Int):Nat->Int
 | 0=>0
 | n+1=>jv f n+f n*256^n
def fF (s:ByteArray) (i:Nat):Int:=if h:i<s.size then ((s[s.size-1-i]'(by omega)).toNat:Int) else 0
theorem q7 (s:ByteArray) (i:Nat):0<=fF s i/\fF s i<256:=by
 unfold fF;split
 ·have:=(s[s.size-1-i]'(by omega)).toNat_lt
  omega
 ·omega
def nv (s:ByteArray):Int:=jv (fF s) s.size
theorem Yp (n:Nat):(0:Int)<256^n:=Int.pow_pos (by decide)
theorem Ys (n:Nat):(256:Int)^(n+1)=256^n*256:=Int.pow_succ _ _
theorem qz {m n:Nat} (h:m<=n):(256:Int)^m<=256^n:=by
 obtain⟨d,rfl⟩:=Nat.exists_eq_add_of_le h;rw[Int.pow_add];have h1:=Yp m;have h2:=Yp d;have:(256:Int)^m*1<=256^m*256^d:=Int.mul_le_mul_of_nonneg_left (by omega) (by omega);omega
theorem YB (n:Nat):(256:Int)^(8*n)=B^n:=by
 rw[Int.pow_mul];rfl
theorem Y2 (n:Nat):(256:Int)^n=2^(8*n):=by
 rw[Int.pow_mul];rfl
theorem Db {f:Nat->Int} (n:Nat) (h:∀ j,0<=f j/\f j<256):0<=jv f n/\jv f n<256^n:=by
 induction n with
 | zero=>exact⟨Int.le_refl _,by simp[jv]⟩
 | succ n ih =>
  unfold jv;rw[Ys];have h1:=h n;have h2:=Yp n;have h3:0<=f n*256^n:=Int.mul_nonneg h1.1 (Int.le_of_lt h2);have h4:f n*256^n<=(256-1)*256^n:=Int.mul_le_mul_of_nonneg_right (by omega) (Int.le_of_lt h2);have h5:(256-1:Int)*256^n=256^n*256-256^n:=by grind
  omega
theorem Xz {f g:Nat->Int} {n:Nat} (h:∀ j,j<n->f j=g j):jv f n=jv g n:=by
 induction n with
 | zero=>rfl
 | succ n ih=>unfold jv;rw[ih (fun j hj=>h j (by omega)),h n (by omega)]
theorem jg (s:ByteArray):0<=nv s/\nv s<256^s.size:=Db _ (q7 s)
theorem l_ {L:List Int} {j:Nat} {x:Int} (hj:j<L.length):lv (L.set j x)=lv L+(x-lg L j)*B^j:=by
 have h:=l8 (L:=L) (L':=L.set j x) (i:=j) (m:=1) (N:=L.length) (by omega) (fun t ht=>by rw[cK,if_neg (by omega)]);have e1:win (L.set j x) 0 L.length=lv (L.set j x):=by
  have:=eH (L.set j x);rw[List.length_set]at this;exact this
 rw[e1,eH]at h
 have w1:∀ l:List Int,win l j 1=lg l j:=fun l=>by
  rw[ez,Int.pow_zero,Int.mul_one,Nat.add_zero];exact Int.zero_add _
 have e2:win (L.set j x) j 1=x:=by rw[w1,cK,if_pos ⟨rfl,hj⟩]
 have e3:win L j 1=lg L j:=w1 L;rw[e2,e3]at h
 have:(x-lg L j)*B^j=B^j*(x-lg L j):=Int.mul_comm _ _;omega
structure gM (f:Nat->Int) (N k:Nat) (L:List Int):Prop where
 len:L.length=N
 lim:aG L
 low:lg L (k / 8)<256^(k%8)
 zero:∀ j,k / 8<j->lg L j=0
 val:lv L=jv f k
theorem gM.step {f:Nat->Int} {N k:Nat} {L:List Int} (h:gM f N k L) (hf:∀ j,0<=f j/\f j<256) (hk:k / 8<N) :
  (0<=f k*256^(k%8)/\f k*256^(k%8)<B/\lg L (k / 8)+f k*256^(k%8)<B)/\gM f N (k+1) (L.set (k / 8) (lg L (k / 8)+f k*256^(k%8))):=by
 have hl0:=(h.lim (k / 8)).1;have VW:=hf k;have Hg:=h.low;have hp:=Yp (k%8);have h3:0<=f k*256^(k%8):=Int.mul_nonneg VW.1 (Int.le_of_lt hp);have h4:f k*256^(k%8)<=(256-1)*256^(k%8):=Int.mul_le_mul_of_nonneg_right (by omega) (Int.le_of_lt hp);have h5:(256-1:Int)*256^(k%8)=256^(k%8+1)-256^(k%8):=by rw[Ys];grind
 have h6:(256:Int)^(k%8+1)<=B:=by
  exact qz (n:=8) (by omega)
 have hval:lv (L.set (k / 8) (lg L (k / 8)+f k*256^(k%8)))=jv f (k+1):=by
  rw[l_ (by rw[h.len];exact hk),h.val];show _=jv f k+f k*256^k;have e:(256:Int)^k=256^(k%8)*B^(k / 8):=by
   rw[<- YB,<- Int.pow_add];congr 1;omega
  rw[e];grind
 refine⟨⟨h3,by omega,by omega⟩,⟨by rw[List.length_set];exact h.len,h.lim.set _ ⟨by omega,by omega⟩,?_,?_,hval⟩⟩
 ·by_cases e:(k+1) / 8=k / 8
  ·rw[e,cK,if_pos ⟨rfl,by rw[h.len];exact hk⟩,show(k+1)%8=k%8+1 by omega]
   omega
  ·rw[cK,if_neg (by omega),h.zero _ (by omega)]
   exact Yp _
 ·intro j hj
  rw[cK,if_neg (by omega)];exact h.zero j (by omega)
theorem gM.start (f:Nat->Int) (N:Nat):gM f N 0 (List.replicate N 0) :=
 ⟨by simp,iI _,by rw[l7];exact Yp _,fun j _=>l7 _ _,jc (m:=0) (by omega) fun j _ _=>l7 _ _⟩
theorem gM.top {f:Nat->Int} {n:Nat} {L:List Int} (h:gM f ((n+7) / 8) n L) (hf:∀ j,0<=f j/\f j<256) (lI:0<n->f (n-1)≠0):Tr L:=by
 cases n with
 | zero=>exact .inl (by rw[h.len])
 | succ n =>
  have hl:=h.len;have hN:(n+1+7) / 8=n / 8+1:=by omega
  right;rw[hl,hN,Nat.add_sub_cancel];intro hz;have e1:lv L=aK (lg L) (n / 8):=by
   unfold lv;rw[hl,hN];show aK (lg L) (n / 8)+lg L (n / 8)*B^(n / 8)=_;rw[hz,Int.zero_mul,Int.add_zero]
  have e2:=h.val;have b:=ig (n / 8) h.lim;have:jv f (n+1)=jv f n+f n*256^n:=rfl;have h0:=(Db n hf).1;have hne:=lI (by omega);rw[Nat.add_sub_cancel]at hne
  have wK:=hf n;have h1:1*256^n<=f n*256^n:=Int.mul_le_mul_of_nonneg_right (by omega) (Int.le_of_lt (Yp n));have h2:B^(n / 8)<=256^n:=by
   rw[<- YB];exact qz (by omega)
  omega
def pR (v:Nat):Nat:=if h:v=0 then 0 else pR (v / 256)+1
termination_by v
decreasing_by omega
theorem X6:pR 0=0:=by unfold pR;rfl
theorem aid {v:Nat} (h:v≠0):pR v=pR (v / 256)+1:=by
 rw[pR,dif_neg h]
theorem X7 (v:Nat) (h:v≠0):256^(pR v-1)<=v/\v<256^pR v/\1<=pR v:=by
 induction v using Nat.strongRecOn with
 | _ v ih =>
  rw[aid h,Nat.add_sub_cancel];by_cases h0:v / 256=0
  ·rw[h0,X6]
   refine⟨by omega,by omega,by omega⟩
  ·obtain⟨a,b,c⟩:=ih (v / 256) (by omega) h0
   obtain⟨m,hm⟩:∃ m,pR (v / 256)=m+1:=⟨pR (v / 256)-1,by omega⟩
   rw[hm]at a b ⊢
   rw[Nat.add_sub_cancel]at a
   rw[Nat.pow_succ]at b ⊢
   rw[Nat.pow_succ 256 (m+1),Nat.pow_succ];omega
theorem ahs {v n:Nat} (h1:256^n<=v) (h2:v<256^(n+1)):pR v=n+1:=by
 have h0:v≠0:=by have:=Nat.pow_pos (a:=256) (n:=n) (by omega);omega
 obtain⟨a,b,c⟩:=X7 v h0;have l1:pR v<=n+1:=by
  apply Nat.le_of_not_lt;intro hgt;have:=Nat.pow_le_pow_right (show 0<256 by omega) (show n+1<=pR v-1 by omega);omega
 have l2:n+1<=pR v:=by
  apply Nat.le_of_not_lt;intro hgt;have:=Nat.pow_le_pow_right (show 0<256 by omega) (show pR v<=n by omega);omega
 omega
def nb (v:Int):Nat:=pR v.toNat
theorem KY (n:Nat):((256^n:Nat):Int)=(256:Int)^n:=by rw[Int.natCast_pow];rfl
theorem NV {v:Int} {n:Nat} (h1:256^n<=v) (h2:v<256^(n+1)):nb v=n+1:=by
 have h0:0<v:=by have:=Yp n;omega
 obtain⟨m,rfl⟩:=Int.eq_ofNat_of_zero_le (Int.le_of_lt h0);unfold nb;rw[Int.toNat_natCast];apply ahs
 ·rw[<- KY]at h1;exact Int.ofNat_le.mp h1
 ·rw[<- KY]at h2;exact Int.ofNat_lt.mp h2
theorem Dc {v:Int} (h:0<v):256^(nb v-1)<=v/\v<256^nb v/\1<=nb v:=by
 obtain⟨m,rfl⟩:=Int.eq_ofNat_of_zero_le (Int.le_of_lt h);unfold nb;rw[Int.toNat_natCast];obtain⟨a,b,c⟩:=X7 m (by omega);exact⟨by rw[<- KY];exact Int.ofNat_le.mpr a,by rw[<- KY];exact Int.ofNat_lt.mpr b,c⟩
theorem vN:nb 0=0:=X6
def jM (v:Int) (i:Nat):Int:=v / 256^i%256
theorem Nk (v:Int) (i:Nat):0<=jM v i/\jM v i<256:=⟨Int.emod_nonneg _ (by decide),Int.emod_lt_of_pos _ (by decide)⟩
theorem X8 (v:Int) (n:Nat):jv (jM v) n=v%256^n:=by
 induction n with
 | zero=>rw[Int.pow_zero];show(0:Int)=v%1;omega
 | succ n ih =>
  show jv (jM v) n+jM v n*256^n=_;rw[ih,Ys];unfold jM;have hp:=Yp n;have e1:=Int.mul_ediv_add_emod v (256^n);have e2:=Int.mul_ediv_add_emod (v / 256^n) 256;have b1:=Int.emod_nonneg v (show(256:Int)^n≠0 by omega);have b2:=Int.emod_lt_of_pos v hp;have b3:=Int.emod_nonneg (v / 256^n) (show(256:Int)≠0 by decide);have b4:=Int.emod_lt_of_pos (v / 256^n) (show(0:Int)<256 by decide);generalize v%256^n=r at *;generalize v / 256^n%256=d at *;generalize v / 256^n / 256=h at *;generalize v / 256^n=q at *;generalize (256:Int)^n=P at *;have e3:v=(P*256)*h+(r+d*P):=by
   rw[<- e1,<- e2];grind
  have h1:0<=d*P:=Int.mul_nonneg b3 (by omega);have h2:d*P<=255*P:=Int.mul_le_mul_of_nonneg_right (by omega) (by omega);rw[e3,Int.add_comm ((P*256)*h),Int.add_mul_emod_self_left,Int.emod_eq_of_lt (by omega) (by omega)]
def dW (v:Int):ByteArray:=⟨((List.range (nb v)).map fun j=>UInt8.ofNat (jM v (nb v-1-j)).toNat).toArray⟩
theorem xh (v:Int):(dW v).size=nb v:=by
 unfold dW;show(List.toArray _).size=_;simp
theorem Qh {n:Nat} (h:n<256):(UInt8.ofNat n).toNat=n:=by
 rw[UInt8.toNat_ofNat'];omega
theorem X9 {v:Int} {i:Nat} (hi:i<nb v):fF (dW v) i=jM v i:=by
 have hs:=xh v;unfold fF;rw[dif_pos (by omega)];have hb:=Nk v i;have e:((dW v)[(dW v).size-1-i]'(by omega))=UInt8.ofNat (jM v (nb v-1-(nb v-1-i))).toNat:=by
  show((dW v).data)[(dW v).size-1-i]'_=_;simp[xh];unfold dW;simp
 rw[e,show nb v-1-(nb v-1-i)=i by omega,Qh (by omega)];omega
theorem RZ {v:Int} (h:0<=v):nv (dW v)=v:=by
 unfold nv;rw[xh,Xz (g:=jM v) fun j hj=>X9 hj,X8];by_cases h0:v=0
 ·subst h0;rw[vN];rfl
 ·exact Int.emod_eq_of_lt h (Dc (by omega)).2.1
theorem XO:dW 0=⟨#[]⟩:=by
 unfold dW;rw[vN];rfl
def Canon (s:ByteArray):Prop:=0<s.size->fF s (s.size-1)≠0
theorem Qn (v:Int) (h:0<=v):Canon (dW v):=by
 intro hs;rw[xh]at hs ⊢
 have hv:0<v:=by
  apply Int.lt_of_not_ge;intro hge;have:v=0:=by omega
  rw[this,vN]at hs
  omega
 obtain⟨a,b,c⟩:=Dc hv;rw[X9 (by omega)];obtain⟨m,hm⟩:∃ m,nb v=m+1:=⟨nb v-1,by omega⟩
 rw[hm]at a b ⊢
 rw[Nat.add_sub_cancel]at a ⊢
 unfold jM;have hq1:1<=v / 256^m:=Int.le_ediv_of_mul_le (Yp m) (by omega);have H7:v / 256^m<256:=Int.ediv_lt_of_lt_mul (Yp m) (by rw[Ys,Int.mul_comm]at b;rw[Int.mul_comm];rw[Int.mul_comm];omega);rw[Int.emod_eq_of_lt (by omega) H7];omega
theorem Qj {s:ByteArray} (h:Canon s):s.size=nb (nv s):=by
 rcases Nat.eq_zero_or_pos s.size with h0|h0
 ·have:nv s=0:=by unfold nv;rw[h0];rfl
  rw[this,vN,h0]
 ·obtain⟨m,hm⟩:∃ m,s.size=m+1:=⟨s.size-1,by omega⟩
  have ht:=h h0;rw[hm,Nat.add_sub_cancel]at ht
  have e:nv s=jv (fF s) m+fF s m*256^m:=by unfold nv;rw[hm];rfl
  have b:=Db m (q7 s);have hb:=q7 s m;have h1:1*256^m<=fF s m*256^m:=Int.mul_le_mul_of_nonneg_right (by omega) (Int.le_of_lt (Yp m));rw[hm];exact(NV (by omega) (by rw[<- hm];exact(jg s).2)).symm
theorem aht {f g:Nat->Int} {n:Nat} (hf:∀ j,0<=f j/\f j<256) (hg:∀ j,0<=g j/\g j<256) (h:jv f n=jv g n):∀ j,j<n->f j=g j:=by
 induction n with
 | zero=>intro j hj;omega
 | succ n ih =>
  have e1:jv f (n+1)=jv f n+f n*256^n:=rfl;have e2:jv g (n+1)=jv g n+g n*256^n:=rfl;rw[e1,e2]at h
  have a:=Db n hf;have b:=Db n hg;have hp:=Yp n;have hn:f n=g n:=by
   rcases Int.lt_trichotomy (f n) (g n) with h'|h'|h'
   ·have:(f n+1)*256^n<=g n*256^n:=Int.mul_le_mul_of_nonneg_right (by omega) (by omega)
    have e:(f n+1)*256^n=f n*256^n+256^n:=by grind
    omega
   ·exact h'
   ·have:(g n+1)*256^n<=f n*256^n:=Int.mul_le_mul_of_nonneg_right (by omega) (by omega)
    have e:(g n+1)*256^n=g n*256^n+256^n:=by grind
    omega
  intro j hj;by_cases e:j=n
  ·rw[e];exact hn
  ·exact ih (by rw[hn]at h;omega) j (by omega)
theorem XA {s t:ByteArray} (hs:Canon s) (ht:Canon t) (h:nv s=nv t):s=t:=by
 have e1:=Qj hs;have e2:=Qj ht;have e:s.size=t.size:=by rw[e1,e2,h]
 have hd:s.data=t.data:=by
  apply Array.ext
  ·exact e
  ·intro i h1 h2
   have hi1:i<s.size:=h1;have hi2:i<t.size:=h2;have hj:=aht (n:=s.size) (q7 s) (q7 t) (by
    have:nv t=jv (fF t) s.size:=by unfold nv;rw[e]
    rw[<- this];exact h) (s.size-1-i) (by omega)
   unfold fF at hj;rw[dif_pos (by omega),dif_pos (by omega)]at hj
   have k1:s.size-1-(s.size-1-i)=i:=by omega
   have k2:t.size-1-(s.size-1-i)=i:=by omega
   have hj':(s[s.size-1-(s.size-1-i)]'(by omega)).toNat=(t[t.size-1-(s.size-1-i)]'(by omega)).toNat:=by exact_mod_cast hj
   simp only[k1,k2]at hj';exact UInt8.toNat_inj.mp hj'
 cases s;cases t;simp at hd;rw[hd]
theorem R1 {s:ByteArray} (h:Canon s):dW (nv s)=s :=
 XA (Qn _ (jg s).1) h (RZ (jg s).1)
theorem mY {l:List Int} (hl:aG l) (i:Nat):jM (lv l) i=lg l (i / 8) / 256^(i%8)%256:=by
 unfold jM;have e1:lv l=win l 0 (i / 8)+B^(i / 8)*win l (i / 8) (l.length+1):=by
  have:lv l=win l 0 (i / 8+(l.length+1)):=by
   unfold win;rw[jD (g:=lg l) fun j _=>by rw[Nat.zero_add]];exact(jR (by omega)).symm
  rw[this,gO,Nat.zero_add]
 have b:=jQ hl 0 (i / 8);have e2:(256:Int)^i=B^(i / 8)*256^(i%8):=by
  rw[<- YB,<- Int.pow_add];congr 1;omega
 have hp:=Bp (i / 8);rw[e2,<- Int.ediv_ediv_of_nonneg (by omega)];have e3:lv l / B^(i / 8)=win l (i / 8) (l.length+1):=by
  rw[e1,Int.add_mul_ediv_left _ _ (by omega),Int.ediv_eq_zero_of_lt b.1 b.2,Int.zero_add]
 rw[e3,jF];have hB:B=256^(i%8)*(256^(7-i%8)*256):=by
  rw[<- Ys,<- Int.pow_add,show i%8+(7-i%8+1)=8 by omega];rfl
 have e4:lg l (i / 8)+B*win l (i / 8+1) l.length=lg l (i / 8)+256^(i%8)*(256^(7-i%8)*256*win l (i / 8+1) l.length):=by
  rw[hB];grind
 have hy:=Yp (i%8);rw[e4,Int.add_mul_ediv_left _ _ (by omega)];have e5:(256:Int)^(7-i%8)*256*win l (i / 8+1) l.length=256*(256^(7-i%8)*win l (i / 8+1) l.length):=by grind
 rw[e5,Int.add_mul_emod_self_left]
theorem amN {l:List Int} {p s:Nat} (hl:aG l) (hp:l.length=p+1) (hs:s<=63) (h1:9223372036854775808<=lg l p*2^s) (h2:lg l p*2^s<B):nb (lv l)=8*(p+1)-s / 8:=by
 have e:lv l=aK (lg l) p+lg l p*B^p:=by unfold lv;rw[hp];rfl
 have b:=ig p hl;have hq:=Bp p;have t0:=hl p;have hpw:(0:Int)<2^s:=Int.pow_pos (by decide);obtain⟨c,r,hr,hsc⟩:∃ c r:Nat,r<8/\s=8*c+r:=⟨s / 8,s%8,by omega,by omega⟩
 have hc:s / 8=c:=by omega
 have e2:(2:Int)^s=256^c*2^r:=by rw[hsc,Int.pow_add,Y2]
 have hr1:(1:Int)<=2^r:=by have:(0:Int)<2^r:=Int.pow_pos (by decide);omega
 have hr2:(2:Int)^r<=128:=by
  have h7:r=0\/r=1\/r=2\/r=3\/r=4\/r=5\/r=6\/r=7:=by omega
  rcases h7 with rfl|rfl|rfl|rfl|rfl|rfl|rfl|rfl <;> decide
 have Pk:=Yp c;have hB:B=256^c*256^(8-c):=by rw[<- Int.pow_add,show c+(8-c)=8 by omega];rfl
 have u1:lg l p<256^(8-c):=by
  have:256^c*lg l p<256^c*256^(8-c):=by
   rw[<- hB];have h3:256^c*lg l p*1<=256^c*lg l p*2^r:=Int.mul_le_mul_of_nonneg_left hr1 (Int.mul_nonneg (by omega) t0.1);have h4:256^c*lg l p*2^r=lg l p*2^s:=by rw[e2];grind
   omega
  exact Int.lt_of_mul_lt_mul_left this (Int.le_of_lt Pk)
 have u2:256^(7-c)<=lg l p:=by
  apply Int.le_of_not_gt;intro hlt;have h3:lg l p*2^s<=(256^(7-c)-1)*2^s:=Int.mul_le_mul_of_nonneg_right (by omega) (by omega);have h4:(256^(7-c):Int)*2^s=256^7*2^r:=by
   rw[e2,<- Int.mul_assoc,<- Int.pow_add,show 7-c+c=7 by omega]
  have h5:((256:Int)^(7-c)-1)*2^s=256^(7-c)*2^s-2^s:=by grind
  have h6:(256:Int)^7*2^r<=256^7*128:=Int.mul_le_mul_of_nonneg_left hr2 (by decide);have h7:(256:Int)^7*128=9223372036854775808:=by decide
  omega
 rw[hc,show 8*(p+1)-c=8*p+(7-c)+1 by omega];apply NV
 ·rw[Int.pow_add,YB]
  have:B^p*256^(7-c)<=B^p*lg l p:=Int.mul_le_mul_of_nonneg_left u2 (by omega);have:B^p*lg l p=lg l p*B^p:=Int.mul_comm _ _;omega
 ·rw[show 8*p+(7-c)+1=8*p+(8-c) by omega,Int.pow_add,YB]
  have:(lg l p+1)*B^p<=256^(8-c)*B^p:=Int.mul_le_mul_of_nonneg_right (by omega) (by omega);have e6:(lg l p+1)*B^p=lg l p*B^p+B^p:=by grind
  have:B^p*256^(8-c)=256^(8-c)*B^p:=Int.mul_comm _ _;omega
end Go.Proofs.YtcmepkhjggpmeaaGreat.aP
namespace Go.Proofs
open Go.Shelf
def Tryz.XZ:Go.Shelf.Ren:=⟨fun|6=>34|15=>60|14=>59|28=>93|29=>94|20=>85|21=>86|22=>87|23=>88|24=>89|25=>90|26=>91|27=>92|46=>124|47=>125|48=>126|49=>127|50=>128|57=>152|n=>n,fun|22=>33|24=>45|25=>87|3=>3|39=>112|0=>0|53=>138|55=>140|4=>4|46=>131|45=>130|50=>135|5=>5|9=>9|66=>165|70=>169|76=>190|77=>47|n=>n,fun|n=>n⟩
theorem Tryz.ab5:Go.Proofs.SlLaysF0.n6 Tryz.prog Tryz.XZ:={
 mixed:=by kernel_rfl
 f6:=⟨Tryz.f34.name,by decide,Tryz.func34.trans (congrArg some (by kernel_rfl))⟩
 f14:=⟨Tryz.f59.name,by decide,Tryz.func59.trans (congrArg some (by kernel_rfl))⟩
 f15:=Tryz.func60.trans (congrArg some (by kernel_rfl))
 f20:=⟨Tryz.f85.name,by decide,Tryz.func85.trans (congrArg some (by kernel_rfl))⟩
 f21:=⟨Tryz.f86.name,by decide,Tryz.func86.trans (congrArg some (by kernel_rfl))⟩
 f22:=⟨Tryz.f87.name,by decide,Tryz.func87.trans (congrArg some (by kernel_rfl))⟩
 f23:=⟨Tryz.f88.name,by decide,Tryz.func88.trans (congrArg some (by kernel_rfl))⟩
 f24:=⟨Tryz.f89.name,by decide,Tryz.func89.trans (congrArg some (by kernel_rfl))⟩
 f25:=⟨Tryz.f90.name,by decide,Tryz.func90.trans (congrArg some (by kernel_rfl))⟩
 f26:=⟨Tryz.f91.name,by decide,Tryz.func91.trans (congrArg some (by kernel_rfl))⟩
 f27:=⟨Tryz.f92.name,by decide,Tryz.func92.trans (congrArg some (by kernel_rfl))⟩
 f28:=Tryz.func93.trans (congrArg some (by kernel_rfl))
 f29:=Tryz.func94.trans (congrArg some (by kernel_rfl))
 f46:=⟨Tryz.f124.name,by decide,Tryz.func124.trans (congrArg some (by kernel_rfl))⟩
 f47:=Tryz.func125.trans (congrArg some (by kernel_rfl))
 f48:=Tryz.func126.trans (congrArg some (by kernel_rfl))
 f49:=⟨Tryz.f127.name,by decide,Tryz.func127.trans (congrArg some (by kernel_rfl))⟩
 f50:=⟨Tryz.f128.name,by decide,Tryz.func128.trans (congrArg some (by kernel_rfl))⟩
 f57:=⟨Tryz.f152.name,by decide,Tryz.func152.trans (congrArg some (by kernel_rfl))⟩
 t0:=Tryz.underlying0
 a0:=Tryz.isAgg0
 z0:=Tryz.sizeOf0
 v0:=Tryz.zeroValue0
 t3:=Tryz.underlying3
 a3:=Tryz.isAgg3
 z3:=Tryz.sizeOf3
 v3:=Tryz.zeroValue3
 t4:=Tryz.underlying4
 a4:=Tryz.isAgg4
 z4:=Tryz.sizeOf4
 v4:=Tryz.zeroValue4
 t5:=Tryz.underlying5
 a5:=Tryz.isAgg5
 z5:=Tryz.sizeOf5
 v5:=Tryz.zeroValue5
 t9:=Tryz.underlying9
 a9:=Tryz.isAgg9
 z9:=Tryz.sizeOf9
 v9:=Tryz.zeroValue9
 t22:=Tryz.underlying33
 a22:=Tryz.isAgg33
 z22:=Tryz.sizeOf33
 v22:=Tryz.zeroValue33
 t25:=Tryz.underlying87
 a25:=Tryz.isAgg87
 z25:=Tryz.sizeOf87
 v25:=Tryz.zeroValue87
 t39:=Tryz.underlying112
 a39:=Tryz.isAgg112
 z39:=Tryz.sizeOf112
 v39:=Tryz.zeroValue112
 t45:=Tryz.underlying130
 a45:=Tryz.isAgg130
 z45:=Tryz.sizeOf130
 v45:=Tryz.zeroValue130
 t46:=Tryz.underlying131
 a46:=Tryz.isAgg131
 z46:=Tryz.sizeOf131
 v46:=Tryz.zeroValue131
 t50:=Tryz.underlying135
 a50:=Tryz.isAgg135
 z50:=Tryz.sizeOf135
 v50:=Tryz.zeroValue135
 t53:=Tryz.underlying138
 a53:=Tryz.isAgg138
 z53:=Tryz.sizeOf138
 v53:=Tryz.zeroValue138
 t55:=Tryz.underlying140
 a55:=Tryz.isAgg140
 z55:=Tryz.sizeOf140
 v55:=Tryz.zeroValue140
 t66:=Tryz.underlying165
 a66:=Tryz.isAgg165
 z66:=Tryz.sizeOf165
 v66:=Tryz.zeroValue165
 t70:=Tryz.underlying169
 a70:=Tryz.isAgg169
 z70:=Tryz.sizeOf169
 v70:=Tryz.zeroValue169
 t76:=Tryz.underlying190
 a76:=Tryz.isAgg190
 z76:=Tryz.sizeOf190
 v76:=Tryz.zeroValue190
 t77:=Tryz.underlying47
 a77:=Tryz.isAgg47
 z77:=Tryz.sizeOf47
 v77:=Tryz.zeroValue47 }
end Go.Proofs
