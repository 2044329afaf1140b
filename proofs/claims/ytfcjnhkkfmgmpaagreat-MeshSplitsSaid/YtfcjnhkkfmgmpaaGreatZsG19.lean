import Derived.Test.YtfcjnhkkfmgmpaaGreatZsG18
set_option linter.all false
set_option maxRecDepth 100000
set_option maxHeartbeats 8000000
namespace Go.Proofs.YtfcjnhkkfmgmpaaGreat
open Go.RowKit
open aR hiding B B_eq aJ aL win jO Bp Bs ij fH fq sub_one fL iQ add_one eH fS nB mul_one mN lv jm jX dG mW eB iN eW mQ ku mV gO mR kS kU mS gY mU jP jW l9 YB mg gV mX
open lM
structure qy (g n:Nat) (a:List Int) (w:World) (p:Nat) (c:Int) (L:List Int) (w1:World):Prop where
 blk:cK w1 g L
 len:L.length=n
 bF:aJ L
 bit:c=0∨c=1
 val:2*win L p (n-p)+c=win a p (n-p)
 only:bU g w w1
theorem L4 {L a:List Int} {n i:Nat} {c:Int} (hi:i<n) (hn:L.length=n) (hL:aJ L) (ha:aJ a) (hc:c=0∨c=1)
  (hv:2*win L (i+1) (n-(i+1))+c=win a (i+1) (n-(i+1))) {T:Int} (hT:T=c*4294967296+lg a i) :
  let L2:=L.set i (T / 2);let c2:=T%2
  aJ L2∧(c2=0∨c2=1)∧2*win L2 i (n-i)+c2=win a i (n-i):=by
 intro L2 c2;have hB:(B:Int)=4294967296:=rfl;have h1:=ha i;rw[hB]at h1
 have oL:0≤T∧T<8589934592:=by rcases hc with h|h <;> rw[h]at hT <;> omega
 refine⟨hL.set _ (by rw[hB];omega),by show T%2=0∨T%2=1;omega,?_⟩;obtain⟨m,hm⟩:∃ m,n-(i+1)=m:=⟨_,rfl⟩
 rw[hm]at hv
 rw[show n-i=m+1 by omega,jP,jP];have e1:win L2 (i+1) m=win L (i+1) m:=fS fun j hj=>by
  show lg (L.set i _) _=_;rw[cG,if_neg (by omega)]
 have e2:lg L2 i=T / 2:=by
  show lg (L.set i _) _=_;rw[cG,if_pos ⟨rfl,by omega⟩]
 rw[e1,e2,← hv,hB];show 2*(T / 2+4294967296*win L (i+1) m)+T%2=_;generalize win L (i+1) m=u;have h3:T / 2*2+T%2=T:=by omega
 omega
theorem agz {L a:List Int} {n:Nat} {c:Int} (hL:L.length=n) (ha:a.length=n) (hc:c=0∨c=1) (hv:2*win L 0 (n-0)+c=win a 0 (n-0)):lv L=lv a / 2:=by
 have e1:=eW L;have e2:=eW a;rw[hL]at e1
 rw[ha]at e2
 rw[Nat.sub_zero,e1,e2]at hv
 rcases hc with h|h <;> omega
def alJ (v:Int) (w:World) (e:Ending) (w':World):Prop:=∃ x r bo,e = .returned (.tuple #[x,.bool bo])∧ac5 w.heap.size w' x r∧aJ r∧Tr r∧lv r=v∧Below w.heap.size w w'
theorem M_ (A0:Option Addr) (n c0:Nat) (a:List Int) (hn:a.length=n) (gp:n≤60000) (w:World) (ha:RL w A0 a) (hla:aJ a) :
  Calls Tryz.prog 115 #[.slice A0 n c0] w (alJ (lv a / 2) w):=by
 have hmk:=qm n (by omega);have HA:=Lib.hid (And.intro ha (And.intro hn hla));have uh:=Lib.hid gp;clear ha hn hla;go_enter Tryz.func115,Tryz.ntmps115;go_wp2
 have hb1:Below w.heap.size w (w.alloc (.cells (madeCells #[.int .u64 0] n) 122)):=(Below.refl _ _).alloc (Nat.le_refl _) _;have dA:=qo w n;have hx1:=HA.out.1.below hb1 (Nat.le_refl _);have iR:0<a.length→∀ ad,A0=some ad→ad.block≠w.heap.size:=fun h ad e=>Nat.ne_of_lt (HA.out.1.lt h ad e);generalize hw3:w.alloc (.cells (madeCells #[.int .u64 0] n) 122)=w3 at *;obtain⟨g,hg⟩:∃ g,w.heap.size=g:=⟨_,rfl⟩
 have bD:=Lib.hid (And.intro hb1 hg);rw[hg]at dA iR ⊢
 have jK:=Lib.hid (show qy g n a w3 n 0 (List.replicate n 0) w3 from ⟨dA,by simp,iN _,.inl rfl,by simp[win,aL],bU.refl _ _⟩);have HX:=Lib.hid hx1;have oK:=Lib.hid iR;clear dA hx1 iR hb1 hw3 hmk hg;go_loopg [5,6] n (fun gk cv t w4=>∃ (p:Nat) (c:Int) (L:List Int),Hid (gk=p∧p≤n)∧cv = .int .u64 c∧t = .int .i64 ((p:Int)-1)∧Hid (qy g n a w3 p c L w4))
 case atStart=>exact⟨n,0,_,Lib.hid ⟨rfl,Nat.le_refl _⟩,rfl,rfl,jK⟩
 case round =>
  obtain⟨p,c,L,pQ,rfl,rfl,HI⟩:=hrel;cases p with
  | zero =>
   have h1:decide ((0:Int)≤((0:Nat):Int)-1)=false:=by simp
   have vV:=Lib.hid (Fj (w:=w) (N:=n) (Nat.le_of_eq bD.out.2) HI.out.blk HI.out.len (by have:=uh.out;omega) HI.out.bF (agz HI.out.len HA.out.2.1 HI.out.bit HI.out.val) (bU.below bD.out.1 HI.out.only (by rw[bD.out.2];exact Nat.le_refl _)));go_wp2_with fail
   refine(vV.out).mono ?_;rintro e w4 ⟨x,r,rfl,hr⟩;have HR:=Lib.hid hr;clear hr;go_wp2
   go_ret2
   exact⟨x,r,_,rfl,HR.out⟩
  | succ i =>
   have hlt:i<n:=by have:=pQ.out.2;omega
   have hsub:((i+1:Nat):Int)-1=(i:Int):=by omega
   rw[hsub];have h1:decide ((0:Int)≤(i:Int))=true:=by simp
   have qC:0≤c∧c≤1:=by rcases HI.out.bit with h|h <;> omega
   have hce:=HI.out.blk.cell i (by rw[HI.out.len];omega);have hfr:=HI.out.blk.free i;have lx:=HA.out.2.2 i;rw[show(B:Int)=4294967296 from rfl]at lx
   obtain⟨x,hx⟩:∃ x,lg a i=x:=⟨_,rfl⟩
   rw[hx]at lx
   obtain⟨ad,rfl,cj⟩:=(HX.out.only HI.out.only oK.out).2 (by rw[HA.out.2.1];omega);have ca:=cj i (by rw[HA.out.2.1];omega);rw[hx]at ca
   obtain⟨s1,s2,s3⟩:=L4 (T:=c*4294967296+x) hlt HI.out.len HI.out.bF HA.out.2.2 HI.out.bit HI.out.val (by rw[hx]);have HS:=Lib.hid (show qy g n a w3 i ((c*4294967296+x)%2) (L.set i ((c*4294967296+x) / 2)) (wr.setCell ⟨g,i,none⟩ (.int .u64 ((c*4294967296+x) / 2))) from ⟨HI.out.blk.set _ _,by rw[List.length_set];exact HI.out.len,s1,s2,s3,HI.out.only.set _ _⟩);have a0:IntKind.u64.wrap (c*4294967296)=c*4294967296:=cm _ ⟨by omega,by rw[aR.B_eq];omega⟩;have a1:IntKind.u64.wrap (c*4294967296+x)=c*4294967296+x:=cm _ ⟨by omega,by rw[aR.B_eq];omega⟩;have a3:(c*4294967296+x).tmod 2=(c*4294967296+x)%2:=Int.tmod_eq_emod_of_nonneg (by omega);have a4:(c*4294967296+x).tdiv 2=(c*4294967296+x) / 2:=Int.tdiv_eq_ediv_of_nonneg (by omega);have a5:IntKind.u64.wrap ((c*4294967296+x)%2)=(c*4294967296+x)%2:=cm _ ⟨by omega,by rw[aR.B_eq];omega⟩;have a6:IntKind.u64.wrap ((c*4294967296+x) / 2)=(c*4294967296+x) / 2:=cm _ ⟨by omega,by rw[aR.B_eq];omega⟩;have z1:i<n:=hlt;have z3:(i:Int)<(n:Int):=by omega
   have dV:=Lib.hid hlt;have HBT:=Lib.hid qC;clear cj hx s1 s2 s3 hlt qC lx;go_wp2
   go_roundg i
   case measure=>have:=pQ.out.1;omega
   case rel=>exact⟨i,_,_,Lib.hid ⟨rfl,Nat.le_of_lt dV.out⟩,rfl,by simp,HS⟩
def GV (t:Nat) (x y:Int) (G:Nat):Prop:=2^t*Nat.gcd x.toNat y.toNat=G
theorem ahh {t:Nat} {x y:Int} {G:Nat} (hx:x%2=0) (hy:y%2=0) (h:GV t x y G):GV (t+1) (x / 2) (y / 2) G:=by
 unfold GV at *;rw[← h,show x.toNat=2*(x / 2).toNat by omega,show y.toNat=2*(y / 2).toNat by omega,Nat.gcd_mul_left,Nat.pow_succ,Nat.mul_assoc]
theorem agA {a b:Nat} (hb:b%2=1):Nat.gcd (2*a) b=Nat.gcd a b:=by
 apply Nat.Coprime.gcd_mul_left_cancel;show Nat.gcd 2 b=1;rw[Nat.gcd_rec,hb];exact Nat.gcd_one_left 2
theorem ada {t:Nat} {x y:Int} {G:Nat} (hx:x%2=0) (h0:0≤y) (hy:y%2=1) (h:GV t x y G):GV t (x / 2) y G:=by
 unfold GV at *;rw[← h,show x.toNat=2*(x / 2).toNat by omega,agA (by omega)]
theorem Mt {t:Nat} {x y:Int} {G:Nat} (h:GV t x y G):GV t y x G:=by
 unfold GV at *;rw[← h,Nat.gcd_comm]
theorem ao5 {t:Nat} {x y:Int} {G:Nat} (hy:y%2=0) (h0:0≤x) (hx:x%2=1) (h:GV t x y G):GV t x (y / 2) G:=Mt (ada hy h0 hx (Mt h))
theorem aab {t:Nat} {x y:Int} {G:Nat} (h0:0≤y) (hxy:y≤x) (h:GV t x y G):GV t (x-y) y G:=by
 unfold GV at *;rw[← h,show(x-y).toNat=x.toNat-y.toNat by omega,Nat.gcd_sub_self_left (by omega)]
theorem SB {t:Nat} {x y:Int} {G:Nat} (hx:x=0) (h0:0≤y) (h:GV t x y G):y*((2^t:Nat):Int)=(G:Int):=by
 unfold GV at *;rw[← h,hx,Int.toNat_zero,Nat.gcd_zero_left];push_cast
 rw[Int.toNat_of_nonneg h0,Int.mul_comm]
theorem alK (k:Nat):(B:Int)^k=((2^(32*k):Nat):Int):=by
 rw[show(B:Int)=((2^32:Nat):Int) from rfl,← Int.natCast_pow,← Nat.pow_mul]
theorem akV {t K:Nat} {x y:Int} {G:Nat} (hG:0<G) (hK:(G:Int)<B^K) (h:GV t x y G):t<32*K:=by
 unfold GV at h;have h1:2^t≤G:=by rw[← h]at hG ⊢;exact Nat.le_mul_of_pos_right _ (Nat.pos_of_mul_pos_left hG)
 rw[alK]at hK
 have h2:2^t<2^(32*K):=by omega
 exact(Nat.pow_lt_pow_iff_right (by decide)).1 h2
theorem akW (a:List Int):lv a%2=lg a 0%2:=by
 cases h:a.length with
 | zero =>
  have:a=[]:=List.eq_nil_of_length_eq_zero h;subst this;rfl
 | succ n =>
  have e:=eW a;rw[h,jP]at e
  rw[← e,show(B:Int)=4294967296 from rfl];omega
structure GS (K:Nat) (w w1:World) (A:Option Addr) (a:List Int) (na c:Nat) (A':Option Addr) (b:List Int) (nb c':Nat):Prop where
 ra:RL w1 A a
 rb:RL w1 A' b
 la:aJ a
 lb:aJ b
 ta:Tr a
 tb:Tr b
 ea:a.length=na
 eb:b.length=nb
 ca:na≤c
 cb:nb≤c'
 sa:na≤K
 sb:nb≤K
 ez:Below w.heap.size w w1
theorem GS.swap {K:Nat} {w w1:World} {A:Option Addr} {a:List Int} {na c:Nat} {A':Option Addr} {b:List Int} {nb c':Nat} (h:GS K w w1 A a na c A' b nb c'):GS K w w1 A' b nb c' A a na c :=
 ⟨h.rb,h.ra,h.lb,h.la,h.tb,h.ta,h.eb,h.ea,h.cb,h.ca,h.sb,h.sa,h.ez⟩
theorem GS.J1 {K:Nat} {w w1 w2:World} {A:Option Addr} {a:List Int} {na c:Nat} {A':Option Addr} {b:List Int} {nb c':Nat} (h:GS K w w1 A a na c A' b nb c') (hbr:Below w1.heap.size w1 w2) {A2:Option Addr} {r:List Int} {c2:Nat} (hr:RL w2 A2 r) (hl:aJ r) (ht:Tr r) (hc:r.length≤c2) (hv:lv r≤lv a):GS K w w2 A2 r r.length c2 A' b nb c' :=
 ⟨hr,iO hbr h.rb (Nat.le_refl _),hl,h.lb,ht,h.tb,rfl,h.eb,hc,h.cb,Nat.le_trans (gO ht hl (Int.lt_of_le_of_lt hv (dG h.la).2)) (by rw[h.ea];exact h.sa),h.sb,h.ez.trans (hbr.mono h.ez.size)⟩
theorem GS.adb {K:Nat} {w w1 w2:World} {A:Option Addr} {a:List Int} {na c:Nat} {A':Option Addr} {b:List Int} {nb c':Nat} (h:GS K w w1 A a na c A' b nb c') (hbr:Below w1.heap.size w1 w2) {A2:Option Addr} {r:List Int} {c2:Nat} (hr:RL w2 A2 r) (hl:aJ r) (ht:Tr r) (hc:r.length≤c2) (hv:lv r≤lv b):GS K w w2 A a na c A2 r r.length c2 :=
 (h.swap.J1 hbr hr hl ht hc hv).swap
theorem GS.pos {K:Nat} {w w1:World} {A:Option Addr} {a:List Int} {na c:Nat} {A':Option Addr} {b:List Int} {nb c':Nat} (h:GS K w w1 A a na c A' b nb c') (hp:0<lv a):0<na:=by
 apply Nat.pos_of_ne_zero;intro h0;have h1:lv a=0:=by unfold lv;rw[h.ea,h0];rfl
 omega
theorem GS.VS {K:Nat} {w w1:World} {A:Option Addr} {a:List Int} {na c:Nat} {A':Option Addr} {b:List Int} {nb c':Nat} (h:GS K w w1 A a na c A' b nb c') (hp:lv a=0):na=0:=by
 rw[← h.ea];exact(by have:=gO h.ta h.la (k:=0) (by rw[hp];decide);omega)
theorem GS.fst {K:Nat} {w w1:World} {A:Option Addr} {a:List Int} {na c:Nat} {A':Option Addr} {b:List Int} {nb c':Nat} (h:GS K w w1 A a na c A' b nb c') (hp:0<lv a):∃ ad x,A=some ad∧w1.cell? ad=some (.int .u64 x)∧w1.cell? (ad.add 0)=some (.int .u64 x)∧0<na∧x.tmod 2=lv a%2:=by
 have h0:=h.pos hp;obtain⟨ad,e,hc⟩:=h.ra.2 (by rw[h.ea];exact h0);have h1:=hc 0 (by rw[h.ea];exact h0);have h2:ad.add 0=ad:=by simp[Addr.add]
 refine⟨ad,lg a 0,e,by rw[h2]at h1;exact h1,h1,h0,?_⟩;rw[akW];exact Int.tmod_eq_emod_of_nonneg (h.la 0).1
theorem ahi {i k:Nat} {x r G:Int} (hik:i<k) (hr:r=2*x+0) (h0:0<x) (h:x*((2^(k-i):Nat):Int)=G):0<r∧r*((2^(k-(i+1)):Nat):Int)=G:=by
 rw[show k-i=(k-(i+1))+1 by omega,Nat.pow_succ]at h
 refine⟨by omega,?_⟩;rw[← h,hr,Int.add_zero,Int.natCast_mul];rw[Int.mul_comm 2 x,Int.mul_assoc,Int.mul_comm (2:Int)];rfl
theorem akX {K m:Nat} {r:List Int} {G:Nat} (hG:(G:Int)<B^K) (h0:0<lv r) (h:lv r*((2^m:Nat):Int)=(G:Int)) (ht:Tr r) (hl:aJ r):r.length≤K:=by
 refine gO ht hl (Int.lt_of_le_of_lt ?_ hG);have h1:0<2^m:=Nat.pow_pos (by decide);rw[← h];have h2:lv r*1≤lv r*((2^m:Nat):Int):=Int.mul_le_mul_of_nonneg_left (by omega) (by omega);omega
theorem Aw (x:Int):x%2=0∨x%2=1:=by omega
def ao6 (G:Nat) (w:World) (e:Ending) (w':World):Prop:=∃ x r,e = .returned x∧oT w' x r∧aJ r∧Tr r∧lv r=(G:Int)∧Below w.heap.size w w'
theorem alL (K:Nat) (hK:K≤1000) (A0 A1:Option Addr) (n m c0 c1:Nat) (a b:List Int) (hn:a.length=n) (hm:b.length=m) (gp:n≤K) (jU:m≤K) (hc0:n≤c0) (hc1:m≤c1) (w:World) (ha:RL w A0 a) (hb:RL w A1 b) (hla:aJ a) (hlb:aJ b) (Ed:Tr a) (htb:Tr b) :
  Calls Tryz.prog 101 #[.slice A0 n c0,.slice A1 m c1] w (ao6 (Nat.gcd (lv a).toNat (lv b).toNat) w):=by
 obtain⟨G,hG⟩:∃ G,Nat.gcd (lv a).toNat (lv b).toNat=G:=⟨_,rfl⟩
 rw[hG];have HS:=Lib.hid (show GS K w w A0 a n c0 A1 b m c1 from ⟨ha,hb,hla,hlb,Ed,htb,hn,hm,hc0,hc1,gp,jU,Below.refl _ _⟩);have Bz:=Lib.hid (show GV 0 (lv a) (lv b) G by unfold GV;rw[hG];omega);have rW:=Lib.hid hK;have HG:=Lib.hid hG;have VT:=(dG hla).1;have By:=(dG hlb).1;have uk:=Lib.hid (And.intro VT By);clear hG ha hb hla hlb Ed htb hn hm hc0 hc1 gp jU hK;by_cases hz:lv a=0
 ·have h0:=HS.out.VS hz
  subst h0;have HE:=Lib.hid (show lv b=(G:Int) by have:=SB hz By Bz.out;rw[← this];simp);clear hz VT By;go_enter Tryz.func101,Tryz.ntmps101;go_wp2
  go_ret
  exact⟨_,b,rfl,⟨A1,c1,by rw[HS.out.eb];rfl,by rw[HS.out.eb];exact HS.out.cb,HS.out.rb⟩,HS.out.lb,HS.out.tb,HE.out,HS.out.ez⟩
 ·have hap:0<lv a:=by omega
  have K1:=Lib.hid hap;have zn:=HS.out.pos hap;have zn2:((n:Int)==0)=false:=beq_eq_false_iff_ne.mpr (by omega);have zn3:(n=0)=False:=eq_false (by omega);have zn4:((n:Int)=0)=False:=eq_false (by omega);clear VT hz hap;by_cases hy:lv b=0
  ·have h0:=HS.out.swap.VS hy
   subst h0;have HE:=Lib.hid (show lv a=(G:Int) by have:=SB hy uk.out.1 (Mt Bz.out);rw[← this];simp);clear hy By zn;go_enter Tryz.func101,Tryz.ntmps101;go_wp2
   go_ret
   exact⟨_,a,rfl,⟨A0,c0,by rw[HS.out.ea];rfl,by rw[HS.out.ea];exact HS.out.ca,HS.out.ra⟩,HS.out.la,HS.out.ta,HE.out,HS.out.ez⟩
  ·have VU:0<lv b:=by omega
   have HBP:=Lib.hid VU;have zm:=HS.out.swap.pos VU;have zm2:((m:Int)==0)=false:=beq_eq_false_iff_ne.mpr (by omega);have zm3:(m=0)=False:=eq_false (by omega);have zm4:((m:Int)=0)=False:=eq_false (by omega);have y8:=Lib.hid (show 0<G∧(G:Int)<B^K by
    rw[← HG.out];refine⟨Nat.gcd_pos_of_pos_left _ (by have:=K1.out;omega),?_⟩;have h1:=Nat.gcd_le_left (lv b).toNat (show 0<(lv a).toNat by have:=K1.out;omega);have h2:=(dG HS.out.la).2;have h3:=ku (show a.length≤K by rw[HS.out.ea];exact HS.out.sa);have h4:=K1.out;omega)
   clear hy By VU zn zm;go_enter Tryz.func101,Tryz.ntmps101;go_wp2
   clear zn2 zn3 zn4 zm2 zm3 zm4;go_loopg [0,1,5] (lv a).toNat (fun gk x y t w1=>∃ A a na c A' b nb c' k,Hid (gk=(lv a).toNat)∧x = .slice A na c∧y = .slice A' nb c'∧t = .int .i64 (k:Nat)∧Hid (GS K w w1 A a na c A' b nb c')∧Hid (0<lv a∧0<lv b∧GV k (lv a) (lv b) G))
   case atStart=>exact⟨_,a,_,_,_,b,_,_,0,rfl,rfl,rfl,by simp,HS,Lib.hid ⟨K1.out,HBP.out,Bz.out⟩⟩
   case round =>
    clear HS Bz HG uk K1 HBP;obtain⟨A,a,na,c,A',b,nb,c',k,HM,rfl,rfl,rfl,HS,HV⟩:=hrel;obtain⟨ad,x,rfl,xa,xb,z1,x2⟩:=HS.out.fst HV.out.1;obtain⟨bd,y,rfl,ya,yb,z2,y2⟩:=HS.out.swap.fst HV.out.2.1;have z3:(0:Int)<(na:Int):=by omega
    have z4:(0:Int)<(nb:Int):=by omega
    have HT:=Lib.hid (show(k:Int)+1<100000 by have:=akV y8.out.1 y8.out.2 HV.out.2.2;have:=rW.out;omega);go_upto_region 6 with fail
    go_cut [27] (fun a9 wx=>wx=wr∧∃ e:Bool,a9 = .bool e∧Hid (e=(decide (lv a%2=0)&&decide (lv b%2=0))))
    case first =>
     rcases Aw (lv a) with h|h
     ·rcases Aw (lv b) with h'|h'
      ·have hx:=x2.trans h
       have hy:=y2.trans h';have HH:=Lib.hid (And.intro h h');clear x2 y2 h h';go_wp2
       go_meet
       exact⟨rfl,_,rfl,Lib.hid (by rw[HH.out.1,HH.out.2];rfl)⟩
      ·have hx:=x2.trans h
       have hy:=y2.trans h';have HH:=Lib.hid (And.intro h h');clear x2 y2 h h';go_wp2
       go_meet
       exact⟨rfl,_,rfl,Lib.hid (by rw[HH.out.1,HH.out.2];rfl)⟩
     ·have hx:=x2.trans h
      have HH:=Lib.hid h;clear x2 y2 h;go_wp2
      go_meet
      exact⟨rfl,_,rfl,Lib.hid (by rw[HH.out];rfl)⟩
    case rest =>
     obtain⟨rfl,e,rfl,HE⟩:=hcut;clear xa xb x2 ya yb y2 z1 z2 z3 z4;cases e
     ·have HO:=Lib.hid (show lv a%2=1∨lv b%2=1 by
       have:=HE.out;rcases Aw (lv a) with h|h <;> rcases Aw (lv b) with h'|h' <;> simp[h,h']at this ⊢)
      clear HE HM;go_wp2
      go_loopg [0,1,6] (lv a+lv b).toNat (fun gk x y cc w1=>∃ A a na c A' b nb c',Hid (gk=(lv a+lv b).toNat)∧x = .slice A na c∧y = .slice A' nb c'∧Hid (GS K w w1 A a na c A' b nb c')∧Hid (0≤lv a∧0<lv b∧GV k (lv a) (lv b) G∧(lv a%2=1∨lv b%2=1)))
      case atStart=>exact⟨_,a,_,_,_,b,_,_,rfl,rfl,rfl,HS,Lib.hid ⟨by have:=HV.out.1;omega,HV.out.2.1,HV.out.2.2,HO.out⟩⟩
      case round =>
       clear HS HV HO;obtain⟨A,a,na,c,A',b,nb,c',HM,rfl,rfl,HS,HV⟩:=hrel;by_cases hz:lv a=0
       ·have h0:=HS.out.VS hz
        subst h0;have HZ:=Lib.hid (show lv b*((2^(k-0):Nat):Int)=(G:Int) from SB hz (by have:=HV.out.2.1;omega) HV.out.2.2.1);have HD:=Lib.hid (show GS K w wr A' b nb c' A' b nb c' from ⟨HS.out.rb,HS.out.rb,HS.out.lb,HS.out.lb,HS.out.tb,HS.out.tb,HS.out.eb,HS.out.eb,HS.out.cb,HS.out.cb,HS.out.sb,HS.out.sb,HS.out.ez⟩);have um:=Lib.hid HV.out.2.1;clear HS HV HM hz;go_wp2
        go_loopg [1,7] k (fun gk y t w1=>∃ A' b nb c' i,Hid (gk+i=k∧i≤k)∧y = .slice A' nb c'∧t = .int .i64 (i:Nat)∧Hid (GS K w w1 A' b nb c' A' b nb c')∧Hid (0<lv b∧lv b*((2^(k-i):Nat):Int)=(G:Int)))
        case atStart=>exact⟨_,b,_,_,0,Lib.hid ⟨by omega,by omega⟩,rfl,by simp,HD,Lib.hid ⟨um.out,HZ.out⟩⟩
        case round =>
         clear HD um HZ;obtain⟨A',b,nb,c',i,HM,rfl,rfl,HS,HV⟩:=hrel;by_cases hik:i<k
         ·have t1:decide (i<k)=true:=decide_eq_true hik
          have t2:(i:Int)<(k:Int):=by omega
          have t3:(i:Int)+1<100000:=by have:=HT.out;omega
          have G5:=Lib.hid hik;clear hik;go_wp2_with fail
          refine(X9 A' nb c' b 0 (.inl rfl) HS.out.eb (by have:=HS.out.sb;have:=rW.out;omega) _ HS.out.rb HS.out.lb).mono ?_;rintro e w5 ⟨x5,r5,rfl,⟨g5,c5,rfl,kQ,lI,fO⟩,kF,k6,kH,cH⟩;have kg:=Lib.hid (show 0<lv r5∧lv r5*((2^(k-(i+1)):Nat):Int)=(G:Int) from ahi G5.out kH HV.out.1 HV.out.2);have lG:=Lib.hid (akX y8.out.2 kg.out.1 kg.out.2 k6 kF);have qR:=Lib.hid (show GS K w w5 (some ⟨g5,0,none⟩) r5 r5.length c5 (some ⟨g5,0,none⟩) r5 r5.length c5 from ⟨fO,fO,kF,kF,k6,k6,rfl,rfl,lI,lI,lG.out,lG.out,HS.out.ez.trans (cH.mono HS.out.ez.size)⟩);clear kQ lI fO kF k6 kH cH;go_wp2
          go_roundg (k-(i+1))
          case measure=>have:=HM.out;have:=G5.out;omega
          case rel=>exact⟨_,r5,_,_,i+1,Lib.hid ⟨by have:=G5.out;omega,G5.out⟩,rfl,by simp,qR,kg⟩
         ·have t1:decide (i<k)=false:=decide_eq_false hik
          have t2:¬ (i:Int)<(k:Int):=by omega
          have G5:=Lib.hid (show i=k by have:=HM.out.2;omega);clear hik;go_wp2
          go_ret
          exact⟨_,b,rfl,⟨A',c',by rw[HS.out.eb];rfl,by rw[HS.out.eb];exact HS.out.cb,HS.out.rb⟩,HS.out.lb,HS.out.tb,by have h9:=HV.out.2;rw[G5.out,Nat.sub_self]at h9;omega,HS.out.ez⟩
       ·have hap:0<lv a:=by have:=HV.out.1;omega
        have z1:=HS.out.pos hap;have z3:(0:Int)<(na:Int):=by omega
        obtain⟨N,hN⟩:∃ N,lv a+lv b=N:=⟨_,rfl⟩
        have fA:=Lib.hid (show gk=N.toNat by rw[← hN];exact HM.out);have um:=Lib.hid (show 0<lv a∧lv a+lv b≤N∧0<lv b∧GV k (lv a) (lv b) G∧(lv a%2=1∨lv b%2=1) from ⟨hap,by omega,HV.out.2.1,HV.out.2.2.1,HV.out.2.2.2⟩);clear hap hN HM HV hz;go_wp2
        clear z1 z3;go_loopg [0] (lv a).toNat (fun gk2 x w1=>∃ A a na c,Hid (gk2=(lv a).toNat)∧x = .slice A na c∧Hid (GS K w w1 A a na c A' b nb c')∧Hid (0<lv a∧lv a+lv b≤N∧0<lv b∧GV k (lv a) (lv b) G∧(lv a%2=1∨lv b%2=1)))
        case atStart=>exact⟨_,a,_,_,rfl,rfl,HS,um⟩
        case round =>
         clear HS um;obtain⟨A,a,na,c,HM,rfl,HS,HV⟩:=hrel;obtain⟨ad,x,rfl,xa,xb,z1,x2⟩:=HS.out.fst HV.out.1;have z3:(0:Int)<(na:Int):=by omega
         rcases Aw (lv a) with h|h
         ·have hx:=x2.trans h
          have HH:=Lib.hid h;have HO:=Lib.hid (show lv b%2=1 by have:=HV.out.2.2.2.2;omega);clear x2 h;go_wp2_with fail
          refine(M_ (some ad) na c a HS.out.ea (by have:=HS.out.sa;have:=rW.out;omega) _ HS.out.ra HS.out.la).mono ?_;rintro e w5 ⟨x5,r5,bo,rfl,⟨g5,c5,rfl,kQ,lI,fO⟩,kF,k6,kH,cH⟩;have qR:=Lib.hid (HS.out.J1 cH fO kF k6 lI (by have:=HV.out.1;omega));have kg:=Lib.hid (show 0<lv r5∧lv r5+lv b≤N∧0<lv b∧GV k (lv r5) (lv b) G∧(lv r5%2=1∨lv b%2=1) from by
           have q1:=HV.out;have q2:=HH.out;refine⟨by omega,by omega,q1.2.2.1,?_,.inr HO.out⟩;rw[kH];exact ada q2 (by omega) HO.out q1.2.2.2.1)
          have pS:=Lib.hid (show(lv r5).toNat<(lv a).toNat by have:=HV.out.1;omega);clear kQ lI fO kF k6 kH cH xa xb hx z1 z3;go_wp2
          go_roundg (lv r5).toNat
          case measure=>have:=HM.out;have:=pS.out;omega
          case rel=>exact⟨_,r5,_,_,rfl,rfl,qR,kg⟩
         ·have hx:=x2.trans h
          have um:=Lib.hid (show(0<lv a∧lv a%2=1)∧lv a+lv b≤N∧0<lv b∧GV k (lv a) (lv b) G from ⟨⟨HV.out.1,h⟩,HV.out.2.1,HV.out.2.2.1,HV.out.2.2.2.1⟩);clear x2 h HV HM;go_wp2
          clear hx xa xb z1 z3;go_loopg [1] (lv b).toNat (fun gk3 y w1=>∃ A' b nb c',Hid (gk3=(lv b).toNat)∧y = .slice A' nb c'∧Hid (GS K w w1 (some ad) a na c A' b nb c')∧Hid ((0<lv a∧lv a%2=1)∧lv a+lv b≤N∧0<lv b∧GV k (lv a) (lv b) G))
          case atStart=>exact⟨_,b,_,_,rfl,rfl,HS,um⟩
          case round =>
           clear HS um;obtain⟨A',b,nb,c',HM,rfl,HS,HV⟩:=hrel;obtain⟨bd,y,rfl,ya,yb,z2,y2⟩:=HS.out.swap.fst HV.out.2.2.1;have z4:(0:Int)<(nb:Int):=by omega
           rcases Aw (lv b) with h|h
           ·have hy:=y2.trans h
            have HH:=Lib.hid h;clear y2 h;go_wp2_with fail
            refine(M_ (some bd) nb c' b HS.out.eb (by have:=HS.out.sb;have:=rW.out;omega) _ HS.out.rb HS.out.lb).mono ?_;rintro e w5 ⟨x5,r5,bo,rfl,⟨g5,c5,rfl,kQ,lI,fO⟩,kF,k6,kH,cH⟩;have qR:=Lib.hid (HS.out.adb cH fO kF k6 lI (by have:=HV.out.2.2.1;omega));have kg:=Lib.hid (show(0<lv a∧lv a%2=1)∧lv a+lv r5≤N∧0<lv r5∧GV k (lv a) (lv r5) G from by
             have q1:=HV.out;have q2:=HH.out;refine⟨q1.1,by omega,by omega,?_⟩;rw[kH];exact ao5 q2 (by omega) q1.1.2 q1.2.2.2)
            have pS:=Lib.hid (show(lv r5).toNat<(lv b).toNat by have:=HV.out.2.2.1;omega);clear kQ lI fO kF k6 kH cH ya yb hy z2 z4;go_wp2
            go_roundg (lv r5).toNat
            case measure=>have:=HM.out;have:=pS.out;omega
            case rel=>exact⟨_,r5,_,_,rfl,rfl,qR,kg⟩
           ·have hy:=y2.trans h
            have HH:=Lib.hid h;clear y2 h;by_cases hlt:lv a<lv b
            ·have tc:decide (dX (lv a) (lv b)<0)=true:=by unfold dX;rw[if_pos hlt];rfl
             have dV:=Lib.hid hlt;clear hlt;go_wp2_with fail
             refine(Nz (some ad) (some bd) na nb c c' a b HS.out.ea HS.out.eb (by have:=HS.out.sa;have:=rW.out;omega) (by have:=HS.out.sb;have:=rW.out;omega) _ HS.out.ra HS.out.rb HS.out.la HS.out.lb HS.out.ta HS.out.tb).mono ?_;rintro e w4 ⟨rfl,hb4⟩;have jM:=Lib.hid (show GS K w w4 (some ad) a na c (some bd) b nb c' from ⟨iO hb4 HS.out.ra (Nat.le_refl _),iO hb4 HS.out.rb (Nat.le_refl _),HS.out.la,HS.out.lb,HS.out.ta,HS.out.tb,HS.out.ea,HS.out.eb,HS.out.ca,HS.out.cb,HS.out.sa,HS.out.sb,HS.out.ez.trans (hb4.mono HS.out.ez.size)⟩);clear HS hb4 ya yb hy z2 z4;go_wp2_with fail
             refine(JB (some bd) (some ad) nb na c' c b a jM.out.eb jM.out.ea (by have:=jM.out.sb;have:=rW.out;omega) (by have:=jM.out.sa;have:=rW.out;omega) _ jM.out.rb jM.out.ra jM.out.lb jM.out.la jM.out.ta (by have:=dV.out;omega)).mono ?_;rintro e w5 ⟨x5,r5,rfl,⟨g5,c5,rfl,kQ,lI,fO⟩,kF,k6,kH,cH⟩;have qR:=Lib.hid (jM.out.swap.J1 cH fO kF k6 lI (by have:=HV.out;omega));have kg:=Lib.hid (show 0≤lv r5∧0<lv a∧GV k (lv r5) (lv a) G∧(lv r5%2=1∨lv a%2=1) from by
              have q1:=HV.out;have q2:=dV.out;refine⟨by omega,q1.1.1,?_,.inr q1.1.2⟩;rw[kH];exact aab (by omega) (by omega) (Mt q1.2.2.2))
             have pS:=Lib.hid (show(lv r5+lv a).toNat<N.toNat by have:=HV.out;have:=dV.out;omega);clear kQ lI fO kF k6 kH cH tc;go_wp2
             go_roundg (lv r5+lv a).toNat
             case measure=>have:=fA.out;have:=pS.out;omega
             case rel=>exact⟨_,r5,_,_,_,a,_,_,rfl,rfl,rfl,qR,kg⟩
            ·have tc:decide (dX (lv a) (lv b)<0)=false:=by unfold dX;rw[if_neg hlt];split <;> rfl
             have dV:=Lib.hid hlt;clear hlt;go_wp2_with fail
             refine(Nz (some ad) (some bd) na nb c c' a b HS.out.ea HS.out.eb (by have:=HS.out.sa;have:=rW.out;omega) (by have:=HS.out.sb;have:=rW.out;omega) _ HS.out.ra HS.out.rb HS.out.la HS.out.lb HS.out.ta HS.out.tb).mono ?_;rintro e w4 ⟨rfl,hb4⟩;have jM:=Lib.hid (show GS K w w4 (some ad) a na c (some bd) b nb c' from ⟨iO hb4 HS.out.ra (Nat.le_refl _),iO hb4 HS.out.rb (Nat.le_refl _),HS.out.la,HS.out.lb,HS.out.ta,HS.out.tb,HS.out.ea,HS.out.eb,HS.out.ca,HS.out.cb,HS.out.sa,HS.out.sb,HS.out.ez.trans (hb4.mono HS.out.ez.size)⟩);clear HS hb4 ya yb hy z2 z4;go_wp2_with fail
             refine(JB (some ad) (some bd) na nb c c' a b jM.out.ea jM.out.eb (by have:=jM.out.sa;have:=rW.out;omega) (by have:=jM.out.sb;have:=rW.out;omega) _ jM.out.ra jM.out.rb jM.out.la jM.out.lb jM.out.tb (by have:=dV.out;omega)).mono ?_;rintro e w5 ⟨x5,r5,rfl,⟨g5,c5,rfl,kQ,lI,fO⟩,kF,k6,kH,cH⟩;have qR:=Lib.hid (jM.out.J1 cH fO kF k6 lI (by have:=HV.out;omega));have kg:=Lib.hid (show 0≤lv r5∧0<lv b∧GV k (lv r5) (lv b) G∧(lv r5%2=1∨lv b%2=1) from by
              have q1:=HV.out;have q2:=dV.out;refine⟨by omega,q1.2.2.1,?_,.inr HH.out⟩;rw[kH];exact aab (by omega) (by omega) q1.2.2.2)
             have pS:=Lib.hid (show(lv r5+lv b).toNat<N.toNat by have:=HV.out;have:=dV.out;omega);clear kQ lI fO kF k6 kH cH tc;go_wp2
             go_roundg (lv r5+lv b).toNat
             case measure=>have:=fA.out;have:=pS.out;omega
             case rel=>exact⟨_,r5,_,_,_,b,_,_,rfl,rfl,rfl,qR,kg⟩
     ·have HH:=Lib.hid (show lv a%2=0∧lv b%2=0 by
       have:=HE.out;rcases Aw (lv a) with h|h <;> rcases Aw (lv b) with h'|h' <;> simp[h,h']at this ⊢)
      clear HE;go_wp2_with fail
      refine(M_ (some ad) na c a HS.out.ea (by have:=HS.out.sa;have:=rW.out;omega) _ HS.out.ra HS.out.la).mono ?_;rintro e w5 ⟨x5,r5,bo,rfl,⟨g5,c5,rfl,kQ,lI,fO⟩,kF,k6,kH,cH⟩;have qR:=Lib.hid (HS.out.J1 cH fO kF k6 lI (by have:=HV.out.1;omega));have kg:=Lib.hid kH;clear kQ lI fO kF k6 kH cH HS;go_wp2_with fail
      refine(M_ (some bd) nb c' b qR.out.eb (by have:=qR.out.sb;have:=rW.out;omega) _ qR.out.rb qR.out.lb).mono ?_;rintro e w6 ⟨x6,r6,bo,rfl,⟨g6,c6,rfl,Ei,hc6,KO⟩,KP,K2,hv6,kP⟩;have HS6:=Lib.hid (qR.out.adb kP KO KP K2 hc6 (by have:=HV.out.2.1;omega));have y9:=Lib.hid (show 0<lv r5∧0<lv r6∧GV (k+1) (lv r5) (lv r6) G from by
       have q1:=HV.out;have q2:=HH.out;have q3:=kg.out;refine⟨by omega,by omega,?_⟩;rw[q3,hv6];exact ahh q2.1 q2.2 q1.2.2)
      have HM6:=Lib.hid (show(lv r5).toNat<(lv a).toNat by have:=HV.out.1;have:=kg.out;omega);have t3:(k:Int)+1<100000:=HT.out;clear Ei hc6 KO KP K2 hv6 kP;go_wp2
      go_roundg (lv r5).toNat
      case measure=>have:=HM.out;have:=HM6.out;omega
      case rel=>exact⟨_,r5,_,_,_,r6,_,_,k+1,rfl,rfl,rfl,by simp,HS6,y9⟩
theorem akY {a b:Nat} {M:Int} (ha:(a:Int)<M) (hb:(b:Int)<M):((Nat.gcd a b:Nat):Int)<M:=by
 by_cases h:a=0
 ·rw[h,Nat.gcd_zero_left];exact hb
 ·have:=Nat.gcd_le_left b (Nat.pos_of_ne_zero h);omega
theorem Ya (n1:Bool) (s1:ByteArray) (n2:Bool) (s2:ByteArray) (h1:s1.size≤4000) (h2:s2.size≤4000) (w:World) :
  Calls Tryz.prog 86 #[.agg #[.bool n1,.string s1],.agg #[.bool n2,.string s2]] w fun e w'=>e = .returned (oU (Nat.gcd (nv s1).toNat (nv s2).toNat:Nat))∧Below w.heap.size w w':=by
 obtain⟨w3,hw3⟩:∃ w3,w3=((w.alloc (.cells #[.bool n1,.string s1] 38)).alloc (.cells #[.bool n2,.string s2] 38)).alloc (.cells #[.bool false,.string ⟨#[]⟩] 38):=⟨_,rfl⟩
 have hb3:Below w.heap.size w w3:=by rw[hw3];exact(((Below.refl _ _).alloc (Nat.le_refl _) _).alloc (by simp) _).alloc (by simp;omega) _
 have d0:w3.cell? ⟨w.heap.size,0,none⟩=some (.bool n1):=by rw[hw3];simp[go_sem]
 have d1:w3.cell? ⟨w.heap.size,1,none⟩=some (.string s1):=by rw[hw3];simp[go_sem]
 have d2:w3.cell? ⟨w.heap.size+1,0,none⟩=some (.bool n2):=by rw[hw3];simp[go_sem]
 have d3:w3.cell? ⟨w.heap.size+1,1,none⟩=some (.string s2):=by rw[hw3];simp[go_sem]
 have d4:w3.cell? ⟨w.heap.size+2,0,none⟩=some (.bool false):=by rw[hw3];simp[go_sem]
 have d5:w3.cell? ⟨w.heap.size+2,1,none⟩=some (.string ⟨#[]⟩):=by rw[hw3];simp[go_sem]
 have d6:w3.frozen? ⟨w.heap.size+2,0,none⟩=false:=by rw[hw3];simp[go_sem]
 have d7:w3.frozen? ⟨w.heap.size+2,1,none⟩=false:=by rw[hw3];simp[go_sem]
 have hsz:w3.heap.size=w.heap.size+3:=by rw[hw3];simp
 have HW:=Lib.hid hw3;have HS:=Lib.hid hb3;have eR:=Lib.hid hsz
 have HK:=Lib.hid (show ∀ (w':World) (h:Below w3.heap.size w3 w'),w'.cell? ⟨w.heap.size,0,none⟩=some (.bool n1)∧w'.cell? ⟨w.heap.size,1,none⟩=some (.string s1)∧w'.cell? ⟨w.heap.size+1,0,none⟩=some (.bool n2)∧w'.cell? ⟨w.heap.size+1,1,none⟩=some (.string s2)∧w'.cell? ⟨w.heap.size+2,0,none⟩=some (.bool false)∧w'.cell? ⟨w.heap.size+2,1,none⟩=some (.string ⟨#[]⟩)∧w'.frozen? ⟨w.heap.size+2,0,none⟩=false∧w'.frozen? ⟨w.heap.size+2,1,none⟩=false from
  fun w' h=>⟨(h.cell (by simp[hsz];try omega)).trans d0,(h.cell (by simp[hsz];try omega)).trans d1,(h.cell (by simp[hsz];try omega)).trans d2,(h.cell (by simp[hsz];try omega)).trans d3,(h.cell (by simp[hsz];try omega)).trans d4,(h.cell (by simp[hsz];try omega)).trans d5,(h.frozen (by simp[hsz];try omega)).trans d6,(h.frozen (by simp[hsz];try omega)).trans d7⟩)
 have yV:=Lib.hid (tC s1 (by omega));have yX:=Lib.hid (tC s2 (by omega));have HZ:=Lib.hid (And.intro h1 h2);have rK:=Lib.hid (show bl false ((Nat.gcd (nv s1).toNat (nv s2).toNat:Nat):Int)=((Nat.gcd (nv s1).toNat (nv s2).toNat:Nat):Int) from rfl);have uk:=Lib.hid (show((((((Nat.gcd (nv s1).toNat (nv s2).toNat:Nat):Int)).natAbs:Nat):Int)<256^(4*1000)) from by
  rw[Int.natAbs_natCast];exact akY (by have:=nD h1;have:=(jw s1).1;omega) (by have:=nD h2;have:=(jw s2).1;omega))
 clear h1 h2;have L0:w.heap.size<w3.heap.size:=by rw[hsz];omega
 have L1:w.heap.size+1<w3.heap.size:=by rw[hsz];omega
 have L2:w.heap.size+2<w3.heap.size:=by rw[hsz];omega
 have hne:¬ w.heap.size=w.heap.size+1+1:=by omega
 have gT:¬ w.heap.size+1=w.heap.size+1+1:=by omega
 have KZ:=HS.out;clear HK hw3 hb3 hsz;go_enter Tryz.func86,Tryz.ntmps86;go_upto_region 1 with fail
 rw[← HW.out];clear HW;go_region_held3 (fun w'=>w'.cell? ⟨w.heap.size,0,none⟩=some (.bool n1)∧w'.cell? ⟨w.heap.size,1,none⟩=some (.string s1)∧w'.cell? ⟨w.heap.size+1,0,none⟩=some (.bool n2)∧w'.cell? ⟨w.heap.size+1,1,none⟩=some (.string s2)) (first|exact⟨v0,v1,v2,v3⟩|exact⟨x0,x1,x2,x3⟩|exact⟨y0,y1,y2,y3⟩|exact⟨z0,z1,z2,z3⟩|exact⟨d0,d1,d2,d3⟩|exact⟨(cell_far _ _ _ _ _ _ hne).trans ((cell_far _ _ _ _ _ _ hne).trans v0),(cell_far _ _ _ _ _ _ hne).trans ((cell_far _ _ _ _ _ _ hne).trans v1),(cell_far _ _ _ _ _ _ gT).trans ((cell_far _ _ _ _ _ _ gT).trans v2),(cell_far _ _ _ _ _ _ gT).trans ((cell_far _ _ _ _ _ _ gT).trans v3)⟩|(refine⟨?_,?_,?_,?_⟩;go_keep;go_keep;go_keep;go_keep)) (first|(go_at_call 92;have gz:=z0;clear gz;go_must (refine(yX.out _).mono ?_;rintro e wy ⟨_,r2,rfl,⟨g2,c2,rfl,hg2,hc2,hr2⟩,hl2,gM,hv2,hbr⟩;have y0:=(hbr.cell (p:=⟨w.heap.size,0,none⟩) (lV)).trans z0;have y1:=(hbr.cell (p:=⟨w.heap.size,1,none⟩) (lV)).trans z1;have y2:=(hbr.cell (p:=⟨w.heap.size+1,0,none⟩) (lW)).trans z2;have y3:=(hbr.cell (p:=⟨w.heap.size+1,1,none⟩) (lW)).trans z3;have y4:=(hbr.cell (p:=⟨w.heap.size+2,0,none⟩) (vW)).trans z4;have y5:=(hbr.cell (p:=⟨w.heap.size+2,1,none⟩) (vW)).trans z5;have y6:=(hbr.frozen (p:=⟨w.heap.size+2,0,none⟩) (vW)).trans z6;have y7:=(hbr.frozen (p:=⟨w.heap.size+2,1,none⟩) (vW)).trans z7;have lX:=Nat.lt_of_lt_of_le lV hbr.size;have lY:=Nat.lt_of_lt_of_le lW hbr.size;have vX:=Nat.lt_of_lt_of_le vW hbr.size;have qE:=iO hbr hr1 (Nat.le_refl _);have kE:=fB ni hbr ni.size rfl rfl rfl rfl;clear hbr))|(go_at_call 92;go_must (refine(yV.out _).mono ?_;rintro e wz ⟨_,r1,rfl,⟨g1,c1,rfl,j5,hc1,hr1⟩,fy,j7,j9,hbr⟩;have z0:=(hbr.cell (p:=⟨w.heap.size,0,none⟩) (L0)).trans d0;have z1:=(hbr.cell (p:=⟨w.heap.size,1,none⟩) (L0)).trans d1;have z2:=(hbr.cell (p:=⟨w.heap.size+1,0,none⟩) (L1)).trans d2;have z3:=(hbr.cell (p:=⟨w.heap.size+1,1,none⟩) (L1)).trans d3;have z4:=(hbr.cell (p:=⟨w.heap.size+2,0,none⟩) (L2)).trans d4;have z5:=(hbr.cell (p:=⟨w.heap.size+2,1,none⟩) (L2)).trans d5;have z6:=(hbr.frozen (p:=⟨w.heap.size+2,0,none⟩) (L2)).trans d6;have z7:=(hbr.frozen (p:=⟨w.heap.size+2,1,none⟩) (L2)).trans d7;have lV:=Nat.lt_of_lt_of_le L0 hbr.size;have lW:=Nat.lt_of_lt_of_le L1 hbr.size;have vW:=Nat.lt_of_lt_of_le L2 hbr.size;have ni:=fB KZ hbr KZ.size rfl rfl rfl rfl;clear hbr))|(go_at_call 101;go_must (refine(alL 1000 (Nat.le_refl _) (some ⟨g1,0,none⟩) (some ⟨g2,0,none⟩) _ _ c1 c2 r1 r2 rfl rfl (rz (k:=1000) fy j7 j9 HZ.out.1) (rz (k:=1000) hl2 gM hv2 HZ.out.2) hc1 hc2 _ (by exact qE) (by exact hr2) fy hl2 j7 gM).mono ?_;rintro e wx ⟨_,r3,rfl,⟨A3,c3,rfl,hc3,hr3⟩,iE,o7,hv3,hbr⟩;have x0:=(hbr.cell (p:=⟨w.heap.size,0,none⟩) (lX)).trans y0;have x1:=(hbr.cell (p:=⟨w.heap.size,1,none⟩) (lX)).trans y1;have x2:=(hbr.cell (p:=⟨w.heap.size+1,0,none⟩) (lY)).trans y2;have x3:=(hbr.cell (p:=⟨w.heap.size+1,1,none⟩) (lY)).trans y3;have x4:=(hbr.cell (p:=⟨w.heap.size+2,0,none⟩) (vX)).trans y4;have x5:=(hbr.cell (p:=⟨w.heap.size+2,1,none⟩) (vX)).trans y5;have x6:=(hbr.frozen (p:=⟨w.heap.size+2,0,none⟩) (vX)).trans y6;have x7:=(hbr.frozen (p:=⟨w.heap.size+2,1,none⟩) (vX)).trans y7;have nj:=Nat.lt_of_lt_of_le lX hbr.size;have nk:=Nat.lt_of_lt_of_le lY hbr.size;have yY:=Nat.lt_of_lt_of_le vX hbr.size;have jz:=fB kE hbr kE.size rfl rfl rfl rfl;rw[j9,hv2]at hv3;have vM:=Nat.le_trans (Hy iE o7 hv3 uk.out) (by decide:1000≤20000);clear hbr))|(go_at_call 87;go_must (refine(IA _ _ _ _ r3 rfl vM hc3 _ (by exact hr3) iE).mono ?_;rintro e wv ⟨rfl,hbr⟩;have v0:=(hbr.cell (p:=⟨w.heap.size,0,none⟩) (nj)).trans x0;have v1:=(hbr.cell (p:=⟨w.heap.size,1,none⟩) (nj)).trans x1;have v2:=(hbr.cell (p:=⟨w.heap.size+1,0,none⟩) (nk)).trans x2;have v3:=(hbr.cell (p:=⟨w.heap.size+1,1,none⟩) (nk)).trans x3;have v4:=(hbr.cell (p:=⟨w.heap.size+2,0,none⟩) (yY)).trans x4;have v5:=(hbr.cell (p:=⟨w.heap.size+2,1,none⟩) (yY)).trans x5;have v6:=(hbr.frozen (p:=⟨w.heap.size+2,0,none⟩) (yY)).trans x6;have v7:=(hbr.frozen (p:=⟨w.heap.size+2,1,none⟩) (yY)).trans x7;have k5:=fB jz hbr jz.size rfl rfl rfl rfl;clear hbr)))
 all_goals go_wp2
 all_goals refine bodyPost_ret (by simp[results,Tryz.results86,go_sem,v4,v5];try rfl) rfl ?_
 all_goals exact⟨by first|(rw[← rK.out];rfl)|(rw[hv3,← rK.out];rfl),(k5.setCell (by simp;try omega) _).setCell (by simp;try omega) _⟩
theorem Q9 (n:Bool) (s:ByteArray) (w:World) :
  Calls Tryz.prog 90 #[.agg #[.bool n,.string s]] w fun e w'=>e = .returned (.agg #[.bool (!n&&decide (0<s.size)),.string s])∧Below w.heap.size w w':=by
 have hb:Below w.heap.size w ((w.alloc (.cells #[.bool n,.string s] 38)).alloc (.cells #[.bool false,.string ⟨#[]⟩] 38)):=((Below.refl _ _).alloc (Nat.le_refl _) _).alloc (by simp) _;have HB:=Lib.hid hb;clear hb;cases n with
 | true =>
  go_enter Tryz.func90,Tryz.ntmps90;go_wp2
  repeat(go_quiet (fail);try go_wp2)
  refine bodyPost_ret (by simp[results,Tryz.results90,go_sem];try rfl) rfl ?_;exact⟨rfl,by first|exact HB.out|exact((Below.refl _ _).alloc (Nat.le_refl _) _).alloc (by simp) _|exact(((Below.refl _ _).alloc (Nat.le_refl _) _).alloc (by simp) _).drew⟩
 | false =>
  by_cases h:s.size=0
  ·obtain⟨t1,t2⟩:=toList_nil h
   have HZ:=Lib.hid (show decide (0<s.size)=false from decide_eq_false (by omega));clear h;go_enter Tryz.func90,Tryz.ntmps90;go_wp2
   repeat(go_quiet (fail);try go_wp2)
   refine bodyPost_ret (by simp[results,Tryz.results90,go_sem];try rfl) rfl ?_;exact⟨by rw[HZ.out] <;> rfl,by first|exact HB.out|exact((Below.refl _ _).alloc (Nat.le_refl _) _).alloc (by simp) _|exact(((Below.refl _ _).alloc (Nat.le_refl _) _).alloc (by simp) _).drew⟩
  ·obtain⟨t1,t2⟩:=xE (by omega:0<s.size)
   have HZ:=Lib.hid (show decide (0<s.size)=true from decide_eq_true (by omega));clear h;go_enter Tryz.func90,Tryz.ntmps90;go_wp2
   repeat(go_quiet (fail);try go_wp2)
   refine bodyPost_ret (by simp[results,Tryz.results90,go_sem];try rfl) rfl ?_;exact⟨by rw[HZ.out] <;> rfl,by first|exact HB.out|exact((Below.refl _ _).alloc (Nat.le_refl _) _).alloc (by simp) _|exact(((Below.refl _ _).alloc (Nat.le_refl _) _).alloc (by simp) _).drew⟩
end Go.Proofs.YtfcjnhkkfmgmpaaGreat
