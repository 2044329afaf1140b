import Derived.Test.YtcmepkhjggpmeaaGreatZuG19
set_option linter.all false
set_option maxRecDepth 100000
set_option maxHeartbeats 8000000
namespace Go.Proofs.YtcmepkhjggpmeaaGreat
open Go.RowKit
open aP hiding B B_eq aG aK win jD Bp Bs ig fA eU sub_one fE iK add_one ez fH nC mul_one mL lv jc jR dw mX eo iI eH mR j3 mW gH mS kH kI mU gO mV jF jQ l8 YB l_ gM mY
open lG
structure q_ (g n:Nat) (a:List Int) (w:World) (p:Nat) (c:Int) (L:List Int) (w1:World):Prop where
 blk:cO w1 g L
 len:L.length=n
 lim:aG L
 bit:c=0\/c=1
 val:2*win L p (n-p)+c=win a p (n-p)
 only:bN g w w1
theorem Mf {L a:List Int} {n i:Nat} {c:Int} (hi:i<n) (hn:L.length=n) (hL:aG L) (ha:aG a) (hc:c=0\/c=1)
  (hv:2*win L (i+1) (n-(i+1))+c=win a (i+1) (n-(i+1))) {T:Int} (hT:T=c*4294967296+lg a i) :
  let L2:=L.set i (T / 2);let c2:=T%2
  aG L2/\(c2=0\/c2=1)/\2*win L2 i (n-i)+c2=win a i (n-i):=by
 intro L2 c2;have hB:(B:Int)=4294967296:=rfl;have h1:=ha i;rw[hB]at h1
 have pz:0<=T/\T<8589934592:=by rcases hc with h|h <;> rw[h]at hT <;> omega
 refine⟨hL.set _ (by rw[hB];omega),by show T%2=0\/T%2=1;omega,?_⟩;obtain⟨m,hm⟩:∃ m,n-(i+1)=m:=⟨_,rfl⟩
 rw[hm]at hv
 rw[show n-i=m+1 by omega,jF,jF];have e1:win L2 (i+1) m=win L (i+1) m:=fH fun j hj=>by
  show lg (L.set i _) _=_;rw[cK,if_neg (by omega)]
 have e2:lg L2 i=T / 2:=by
  show lg (L.set i _) _=_;rw[cK,if_pos ⟨rfl,by omega⟩]
 rw[e1,e2,<- hv,hB];show 2*(T / 2+4294967296*win L (i+1) m)+T%2=_;generalize win L (i+1) m=u;have h3:T / 2*2+T%2=T:=by omega
 omega
theorem ahG {L a:List Int} {n:Nat} {c:Int} (hL:L.length=n) (ha:a.length=n) (hc:c=0\/c=1) (hv:2*win L 0 (n-0)+c=win a 0 (n-0)):lv L=lv a / 2:=by
 have e1:=eH L;have e2:=eH a;rw[hL]at e1
 rw[ha]at e2
 rw[Nat.sub_zero,e1,e2]at hv
 rcases hc with h|h <;> omega
def am2 (v:Int) (w:World) (e:Ending) (w':World):Prop:=∃ x r bo,e = .returned (.tuple #[x,.bool bo])/\acQ w.heap.size w' x r/\aG r/\Tr r/\lv r=v/\Below w.heap.size w w'
theorem Nq (A0:Option Addr) (n c0:Nat) (a:List Int) (hn:a.length=n) (fW:n<=60000) (w:World) (ha:RL w A0 a) (hla:aG a) :
  Calls Tryz.prog 171 #[.slice A0 n c0] w (am2 (lv a / 2) w):=by
 have hmk:=qX n (by omega);have HA:=Lib.hid (And.intro ha (And.intro hn hla));have uZ:=Lib.hid fW;clear ha hn hla;go_enter Tryz.func171,Tryz.ntmps171;go_wp2
 have hb1:Below w.heap.size w (w.alloc (.cells (madeCells #[.int .u64 0] n) 140)):=(Below.refl _ _).alloc (Nat.le_refl _) _;have dn:=qY w n;have hx1:=HA.out.1.below hb1 (Nat.le_refl _);have iM:0<a.length->∀ ad,A0=some ad->ad.block≠w.heap.size:=fun h ad e=>Nat.ne_of_lt (HA.out.1.lt h ad e);generalize hw3:w.alloc (.cells (madeCells #[.int .u64 0] n) 140)=w3 at *;obtain⟨g,hg⟩:∃ g,w.heap.size=g:=⟨_,rfl⟩
 have bu:=Lib.hid (And.intro hb1 hg);rw[hg]at dn iM ⊢
 have jw:=Lib.hid (show q_ g n a w3 n 0 (List.replicate n 0) w3 from ⟨dn,by simp,iI _,.inl rfl,by simp[win,aK],bN.refl _ _⟩);have HX:=Lib.hid hx1;have pg:=Lib.hid iM;clear dn hx1 iM hb1 hw3 hmk hg;go_loopg [5,6] n (fun gk cv t w4=>∃ (p:Nat) (c:Int) (L:List Int),Hid (gk=p/\p<=n)/\cv = .int .u64 c/\t = .int .i64 ((p:Int)-1)/\Hid (q_ g n a w3 p c L w4))
 case atStart=>exact⟨n,0,_,Lib.hid ⟨rfl,Nat.le_refl _⟩,rfl,rfl,jw⟩
 case round =>
  obtain⟨p,c,L,nW,rfl,rfl,HI⟩:=hrel;cases p with
  | zero =>
   have h1:decide ((0:Int)<=((0:Nat):Int)-1)=false:=by simp
   have wM:=Lib.hid (FP (w:=w) (N:=n) (Nat.le_of_eq bu.out.2) HI.out.blk HI.out.len (by have:=uZ.out;omega) HI.out.lim (ahG HI.out.len HA.out.2.1 HI.out.bit HI.out.val) (bN.below bu.out.1 HI.out.only (by rw[bu.out.2];exact Nat.le_refl _)));go_wp2_with fail
   refine(wM.out).mono ?_;rintro e w4 ⟨x,r,rfl,hr⟩;have HR:=Lib.hid hr;clear hr;go_wp2
   go_ret2
   exact⟨x,r,_,rfl,HR.out⟩
  | succ i =>
   have hlt:i<n:=by have:=nW.out.2;omega
   have hsub:((i+1:Nat):Int)-1=(i:Int):=by omega
   rw[hsub];have h1:decide ((0:Int)<=(i:Int))=true:=by simp
   have rF:0<=c/\c<=1:=by rcases HI.out.bit with h|h <;> omega
   have hce:=HI.out.blk.cell i (by rw[HI.out.len];omega);have hfr:=HI.out.blk.free i;have lx:=HA.out.2.2 i;rw[show(B:Int)=4294967296 from rfl]at lx
   obtain⟨x,hx⟩:∃ x,lg a i=x:=⟨_,rfl⟩
   rw[hx]at lx
   obtain⟨ad,rfl,bW⟩:=(HX.out.only HI.out.only pg.out).2 (by rw[HA.out.2.1];omega);have ca:=bW i (by rw[HA.out.2.1];omega);rw[hx]at ca
   obtain⟨s1,s2,s3⟩:=Mf (T:=c*4294967296+x) hlt HI.out.len HI.out.lim HA.out.2.2 HI.out.bit HI.out.val (by rw[hx]);have HS:=Lib.hid (show q_ g n a w3 i ((c*4294967296+x)%2) (L.set i ((c*4294967296+x) / 2)) (wr.setCell ⟨g,i,none⟩ (.int .u64 ((c*4294967296+x) / 2))) from ⟨HI.out.blk.set _ _,by rw[List.length_set];exact HI.out.len,s1,s2,s3,HI.out.only.set _ _⟩);have a0:IntKind.u64.wrap (c*4294967296)=c*4294967296:=bR _ ⟨by omega,by rw[aP.B_eq];omega⟩;have a1:IntKind.u64.wrap (c*4294967296+x)=c*4294967296+x:=bR _ ⟨by omega,by rw[aP.B_eq];omega⟩;have a3:(c*4294967296+x).tmod 2=(c*4294967296+x)%2:=Int.tmod_eq_emod_of_nonneg (by omega);have a4:(c*4294967296+x).tdiv 2=(c*4294967296+x) / 2:=Int.tdiv_eq_ediv_of_nonneg (by omega);have a5:IntKind.u64.wrap ((c*4294967296+x)%2)=(c*4294967296+x)%2:=bR _ ⟨by omega,by rw[aP.B_eq];omega⟩;have a6:IntKind.u64.wrap ((c*4294967296+x) / 2)=(c*4294967296+x) / 2:=bR _ ⟨by omega,by rw[aP.B_eq];omega⟩;have z1:i<n:=hlt;have z3:(i:Int)<(n:Int):=by omega
   have dM:=Lib.hid hlt;have HBT:=Lib.hid rF;clear bW hx s1 s2 s3 hlt rF lx;go_wp2
   go_roundg i
   case measure=>have:=nW.out.1;omega
   case rel=>exact⟨i,_,_,Lib.hid ⟨rfl,Nat.le_of_lt dM.out⟩,rfl,by simp,HS⟩
def GV (t:Nat) (x y:Int) (G:Nat):Prop:=2^t*Nat.gcd x.toNat y.toNat=G
theorem air {t:Nat} {x y:Int} {G:Nat} (hx:x%2=0) (hy:y%2=0) (h:GV t x y G):GV (t+1) (x / 2) (y / 2) G:=by
 unfold GV at *;rw[<- h,show x.toNat=2*(x / 2).toNat by omega,show y.toNat=2*(y / 2).toNat by omega,Nat.gcd_mul_left,Nat.pow_succ,Nat.mul_assoc]
theorem ahH {a b:Nat} (hb:b%2=1):Nat.gcd (2*a) b=Nat.gcd a b:=by
 apply Nat.Coprime.gcd_mul_left_cancel;show Nat.gcd 2 b=1;rw[Nat.gcd_rec,hb];exact Nat.gcd_one_left 2
theorem acW {t:Nat} {x y:Int} {G:Nat} (hx:x%2=0) (h0:0<=y) (hy:y%2=1) (h:GV t x y G):GV t (x / 2) y G:=by
 unfold GV at *;rw[<- h,show x.toNat=2*(x / 2).toNat by omega,ahH (by omega)]
theorem MC {t:Nat} {x y:Int} {G:Nat} (h:GV t x y G):GV t y x G:=by
 unfold GV at *;rw[<- h,Nat.gcd_comm]
theorem aqw {t:Nat} {x y:Int} {G:Nat} (hy:y%2=0) (h0:0<=x) (hx:x%2=1) (h:GV t x y G):GV t x (y / 2) G:=MC (acW hy h0 hx (MC h))
theorem aac {t:Nat} {x y:Int} {G:Nat} (h0:0<=y) (hxy:y<=x) (h:GV t x y G):GV t (x-y) y G:=by
 unfold GV at *;rw[<- h,show(x-y).toNat=x.toNat-y.toNat by omega,Nat.gcd_sub_self_left (by omega)]
theorem S6 {t:Nat} {x y:Int} {G:Nat} (hx:x=0) (h0:0<=y) (h:GV t x y G):y*((2^t:Nat):Int)=(G:Int):=by
 unfold GV at *;rw[<- h,hx,Int.toNat_zero,Nat.gcd_zero_left];push_cast
 rw[Int.toNat_of_nonneg h0,Int.mul_comm]
theorem am3 (k:Nat):(B:Int)^k=((2^(32*k):Nat):Int):=by
 rw[show(B:Int)=((2^32:Nat):Int) from rfl,<- Int.natCast_pow,<- Nat.pow_mul]
theorem al_ {t K:Nat} {x y:Int} {G:Nat} (hG:0<G) (hK:(G:Int)<B^K) (h:GV t x y G):t<32*K:=by
 unfold GV at h;have h1:2^t<=G:=by rw[<- h]at hG ⊢;exact Nat.le_mul_of_pos_right _ (Nat.pos_of_mul_pos_left hG)
 rw[am3]at hK
 have h2:2^t<2^(32*K):=by omega
 exact(Nat.pow_lt_pow_iff_right (by decide)).1 h2
theorem al' (a:List Int):lv a%2=lg a 0%2:=by
 cases h:a.length with
 | zero =>
  have:a=[]:=List.eq_nil_of_length_eq_zero h;subst this;rfl
 | succ n =>
  have e:=eH a;rw[h,jF]at e
  rw[<- e,show(B:Int)=4294967296 from rfl];omega
structure GS (K:Nat) (w w1:World) (A:Option Addr) (a:List Int) (na c:Nat) (A':Option Addr) (b:List Int) (nb c':Nat):Prop where
 ra:RL w1 A a
 rb:RL w1 A' b
 la:aG a
 lb:aG b
 ta:Tr a
 tb:Tr b
 ea:a.length=na
 eb:b.length=nb
 ca:na<=c
 cb:nb<=c'
 sa:na<=K
 sb:nb<=K
 ey:Below w.heap.size w w1
theorem GS.swap {K:Nat} {w w1:World} {A:Option Addr} {a:List Int} {na c:Nat} {A':Option Addr} {b:List Int} {nb c':Nat} (h:GS K w w1 A a na c A' b nb c'):GS K w w1 A' b nb c' A a na c :=
 ⟨h.rb,h.ra,h.lb,h.la,h.tb,h.ta,h.eb,h.ea,h.cb,h.ca,h.sb,h.sa,h.ey⟩
theorem GS.Kf {K:Nat} {w w1 w2:World} {A:Option Addr} {a:List Int} {na c:Nat} {A':Option Addr} {b:List Int} {nb c':Nat} (h:GS K w w1 A a na c A' b nb c') (hbr:Below w1.heap.size w1 w2) {A2:Option Addr} {r:List Int} {c2:Nat} (hr:RL w2 A2 r) (hl:aG r) (ht:Tr r) (hc:r.length<=c2) (hv:lv r<=lv a):GS K w w2 A2 r r.length c2 A' b nb c' :=
 ⟨hr,iJ hbr h.rb (Nat.le_refl _),hl,h.lb,ht,h.tb,rfl,h.eb,hc,h.cb,Nat.le_trans (gH ht hl (Int.lt_of_le_of_lt hv (dw h.la).2)) (by rw[h.ea];exact h.sa),h.sb,h.ey.trans (hbr.mono h.ey.size)⟩
theorem GS.acX {K:Nat} {w w1 w2:World} {A:Option Addr} {a:List Int} {na c:Nat} {A':Option Addr} {b:List Int} {nb c':Nat} (h:GS K w w1 A a na c A' b nb c') (hbr:Below w1.heap.size w1 w2) {A2:Option Addr} {r:List Int} {c2:Nat} (hr:RL w2 A2 r) (hl:aG r) (ht:Tr r) (hc:r.length<=c2) (hv:lv r<=lv b):GS K w w2 A a na c A2 r r.length c2 :=
 (h.swap.Kf hbr hr hl ht hc hv).swap
theorem GS.pos {K:Nat} {w w1:World} {A:Option Addr} {a:List Int} {na c:Nat} {A':Option Addr} {b:List Int} {nb c':Nat} (h:GS K w w1 A a na c A' b nb c') (hp:0<lv a):0<na:=by
 apply Nat.pos_of_ne_zero;intro h0;have h1:lv a=0:=by unfold lv;rw[h.ea,h0];rfl
 omega
theorem GS.We {K:Nat} {w w1:World} {A:Option Addr} {a:List Int} {na c:Nat} {A':Option Addr} {b:List Int} {nb c':Nat} (h:GS K w w1 A a na c A' b nb c') (hp:lv a=0):na=0:=by
 rw[<- h.ea];exact(by have:=gH h.ta h.la (k:=0) (by rw[hp];decide);omega)
theorem GS.fst {K:Nat} {w w1:World} {A:Option Addr} {a:List Int} {na c:Nat} {A':Option Addr} {b:List Int} {nb c':Nat} (h:GS K w w1 A a na c A' b nb c') (hp:0<lv a):∃ ad x,A=some ad/\w1.cell? ad=some (.int .u64 x)/\w1.cell? (ad.add 0)=some (.int .u64 x)/\0<na/\x.tmod 2=lv a%2:=by
 have h0:=h.pos hp;obtain⟨ad,e,hc⟩:=h.ra.2 (by rw[h.ea];exact h0);have h1:=hc 0 (by rw[h.ea];exact h0);have h2:ad.add 0=ad:=by simp[Addr.add]
 refine⟨ad,lg a 0,e,by rw[h2]at h1;exact h1,h1,h0,?_⟩;rw[al'];exact Int.tmod_eq_emod_of_nonneg (h.la 0).1
theorem ais {i k:Nat} {x r G:Int} (hik:i<k) (hr:r=2*x+0) (h0:0<x) (h:x*((2^(k-i):Nat):Int)=G):0<r/\r*((2^(k-(i+1)):Nat):Int)=G:=by
 rw[show k-i=(k-(i+1))+1 by omega,Nat.pow_succ]at h
 refine⟨by omega,?_⟩;rw[<- h,hr,Int.add_zero,Int.natCast_mul];rw[Int.mul_comm 2 x,Int.mul_assoc,Int.mul_comm (2:Int)];rfl
theorem ama {K m:Nat} {r:List Int} {G:Nat} (hG:(G:Int)<B^K) (h0:0<lv r) (h:lv r*((2^m:Nat):Int)=(G:Int)) (ht:Tr r) (hl:aG r):r.length<=K:=by
 refine gH ht hl (Int.lt_of_le_of_lt ?_ hG);have h1:0<2^m:=Nat.pow_pos (by decide);rw[<- h];have h2:lv r*1<=lv r*((2^m:Nat):Int):=Int.mul_le_mul_of_nonneg_left (by omega) (by omega);omega
theorem BN (x:Int):x%2=0\/x%2=1:=by omega
def aqx (G:Nat) (w:World) (e:Ending) (w':World):Prop:=∃ x r,e = .returned x/\pO w' x r/\aG r/\Tr r/\lv r=(G:Int)/\Below w.heap.size w w'
theorem am4 (K:Nat) (hK:K<=1000) (A0 A1:Option Addr) (n m c0 c1:Nat) (a b:List Int) (hn:a.length=n) (hm:b.length=m) (fW:n<=K) (jL:m<=K) (hc0:n<=c0) (hc1:m<=c1) (w:World) (ha:RL w A0 a) (hb:RL w A1 b) (hla:aG a) (hlb:aG b) (EI:Tr a) (htb:Tr b) :
  Calls Tryz.prog 144 #[.slice A0 n c0,.slice A1 m c1] w (aqx (Nat.gcd (lv a).toNat (lv b).toNat) w):=by
 obtain⟨G,hG⟩:∃ G,Nat.gcd (lv a).toNat (lv b).toNat=G:=⟨_,rfl⟩
 rw[hG];have HS:=Lib.hid (show GS K w w A0 a n c0 A1 b m c1 from ⟨ha,hb,hla,hlb,EI,htb,hn,hm,hc0,hc1,fW,jL,Below.refl _ _⟩);have CD:=Lib.hid (show GV 0 (lv a) (lv b) G by unfold GV;rw[hG];omega);have s7:=Lib.hid hK;have HG:=Lib.hid hG;have wP:=(dw hla).1;have CC:=(dw hlb).1;have vn:=Lib.hid (And.intro wP CC);clear hG ha hb hla hlb EI htb hn hm hc0 hc1 fW jL hK;by_cases hz:lv a=0
 ·have h0:=HS.out.We hz
  subst h0;have HE:=Lib.hid (show lv b=(G:Int) by have:=S6 hz CC CD.out;rw[<- this];simp);clear hz wP CC;go_enter Tryz.func144,Tryz.ntmps144;go_wp2
  go_ret
  exact⟨_,b,rfl,⟨A1,c1,by rw[HS.out.eb];rfl,by rw[HS.out.eb];exact HS.out.cb,HS.out.rb⟩,HS.out.lb,HS.out.tb,HE.out,HS.out.ey⟩
 ·have hap:0<lv a:=by omega
  have Lc:=Lib.hid hap;have zn:=HS.out.pos hap;have zn2:((n:Int)==0)=false:=beq_eq_false_iff_ne.mpr (by omega);have zn3:(n=0)=False:=eq_false (by omega);have zn4:((n:Int)=0)=False:=eq_false (by omega);clear wP hz hap;by_cases hy:lv b=0
  ·have h0:=HS.out.swap.We hy
   subst h0;have HE:=Lib.hid (show lv a=(G:Int) by have:=S6 hy vn.out.1 (MC CD.out);rw[<- this];simp);clear hy CC zn;go_enter Tryz.func144,Tryz.ntmps144;go_wp2
   go_ret
   exact⟨_,a,rfl,⟨A0,c0,by rw[HS.out.ea];rfl,by rw[HS.out.ea];exact HS.out.ca,HS.out.ra⟩,HS.out.la,HS.out.ta,HE.out,HS.out.ey⟩
  ·have Wf:0<lv b:=by omega
   have HBP:=Lib.hid Wf;have zm:=HS.out.swap.pos Wf;have zm2:((m:Int)==0)=false:=beq_eq_false_iff_ne.mpr (by omega);have zm3:(m=0)=False:=eq_false (by omega);have zm4:((m:Int)=0)=False:=eq_false (by omega);have Av:=Lib.hid (show 0<G/\(G:Int)<B^K by
    rw[<- HG.out];refine⟨Nat.gcd_pos_of_pos_left _ (by have:=Lc.out;omega),?_⟩;have h1:=Nat.gcd_le_left (lv b).toNat (show 0<(lv a).toNat by have:=Lc.out;omega);have h2:=(dw HS.out.la).2;have h3:=j3 (show a.length<=K by rw[HS.out.ea];exact HS.out.sa);have h4:=Lc.out;omega)
   clear hy CC Wf zn zm;go_enter Tryz.func144,Tryz.ntmps144;go_wp2
   clear zn2 zn3 zn4 zm2 zm3 zm4;go_loopg [0,1,5] (lv a).toNat (fun gk x y t w1=>∃ A a na c A' b nb c' k,Hid (gk=(lv a).toNat)/\x = .slice A na c/\y = .slice A' nb c'/\t = .int .i64 (k:Nat)/\Hid (GS K w w1 A a na c A' b nb c')/\Hid (0<lv a/\0<lv b/\GV k (lv a) (lv b) G))
   case atStart=>exact⟨_,a,_,_,_,b,_,_,0,rfl,rfl,rfl,by simp,HS,Lib.hid ⟨Lc.out,HBP.out,CD.out⟩⟩
   case round =>
    clear HS CD HG vn Lc HBP;obtain⟨A,a,na,c,A',b,nb,c',k,HM,rfl,rfl,rfl,HS,HV⟩:=hrel;obtain⟨ad,x,rfl,xa,xb,z1,x2⟩:=HS.out.fst HV.out.1;obtain⟨bd,y,rfl,ya,yb,z2,y2⟩:=HS.out.swap.fst HV.out.2.1;have z3:(0:Int)<(na:Int):=by omega
    have z4:(0:Int)<(nb:Int):=by omega
    have HT:=Lib.hid (show(k:Int)+1<100000 by have:=al_ Av.out.1 Av.out.2 HV.out.2.2;have:=s7.out;omega);go_upto_region 6 with fail
    go_cut [27] (fun a9 wx=>wx=wr/\∃ e:Bool,a9 = .bool e/\Hid (e=(decide (lv a%2=0)&&decide (lv b%2=0))))
    case first =>
     rcases BN (lv a) with h|h
     ·rcases BN (lv b) with h'|h'
      ·have hx:=x2.trans h
       have hy:=y2.trans h';have HH:=Lib.hid (And.intro h h');clear x2 y2 h h';go_wp2
       go_meet
       exact⟨rfl,_,rfl,Lib.hid (by rw[HH.out.1,HH.out.2];rfl)⟩
      ·have hx:=x2.trans h
       have hy:=y2.trans h';have HH:=Lib.hid (And.intro h h');clear x2 y2 h h';go_wp2
       go_meet
       exact⟨rfl,_,rfl,Lib.hid (by rw[HH.out.1,HH.out.2];rfl)⟩
     ·have hx:=x2.trans h
      have HH:=Lib.hid h;clear x2 y2 h;go_wp2
      go_meet
      exact⟨rfl,_,rfl,Lib.hid (by rw[HH.out];rfl)⟩
    case rest =>
     obtain⟨rfl,e,rfl,HE⟩:=hcut;clear xa xb x2 ya yb y2 z1 z2 z3 z4;cases e
     ·have HO:=Lib.hid (show lv a%2=1\/lv b%2=1 by
       have:=HE.out;rcases BN (lv a) with h|h <;> rcases BN (lv b) with h'|h' <;> simp[h,h']at this ⊢)
      clear HE HM;go_wp2
      go_loopg [0,1,6] (lv a+lv b).toNat (fun gk x y cc w1=>∃ A a na c A' b nb c',Hid (gk=(lv a+lv b).toNat)/\x = .slice A na c/\y = .slice A' nb c'/\Hid (GS K w w1 A a na c A' b nb c')/\Hid (0<=lv a/\0<lv b/\GV k (lv a) (lv b) G/\(lv a%2=1\/lv b%2=1)))
      case atStart=>exact⟨_,a,_,_,_,b,_,_,rfl,rfl,rfl,HS,Lib.hid ⟨by have:=HV.out.1;omega,HV.out.2.1,HV.out.2.2,HO.out⟩⟩
      case round =>
       clear HS HV HO;obtain⟨A,a,na,c,A',b,nb,c',HM,rfl,rfl,HS,HV⟩:=hrel;by_cases hz:lv a=0
       ·have h0:=HS.out.We hz
        subst h0;have HZ:=Lib.hid (show lv b*((2^(k-0):Nat):Int)=(G:Int) from S6 hz (by have:=HV.out.2.1;omega) HV.out.2.2.1);have HD:=Lib.hid (show GS K w wr A' b nb c' A' b nb c' from ⟨HS.out.rb,HS.out.rb,HS.out.lb,HS.out.lb,HS.out.tb,HS.out.tb,HS.out.eb,HS.out.eb,HS.out.cb,HS.out.cb,HS.out.sb,HS.out.sb,HS.out.ey⟩);have mF:=Lib.hid HV.out.2.1;clear HS HV HM hz;go_wp2
        go_loopg [1,7] k (fun gk y t w1=>∃ A' b nb c' i,Hid (gk+i=k/\i<=k)/\y = .slice A' nb c'/\t = .int .i64 (i:Nat)/\Hid (GS K w w1 A' b nb c' A' b nb c')/\Hid (0<lv b/\lv b*((2^(k-i):Nat):Int)=(G:Int)))
        case atStart=>exact⟨_,b,_,_,0,Lib.hid ⟨by omega,by omega⟩,rfl,by simp,HD,Lib.hid ⟨mF.out,HZ.out⟩⟩
        case round =>
         clear HD mF HZ;obtain⟨A',b,nb,c',i,HM,rfl,rfl,HS,HV⟩:=hrel;by_cases hik:i<k
         ·have t1:decide (i<k)=true:=decide_eq_true hik
          have t2:(i:Int)<(k:Int):=by omega
          have t3:(i:Int)+1<100000:=by have:=HT.out;omega
          have Ie:=Lib.hid hik;clear hik;go_wp2_with fail
          refine(Ye A' nb c' b 0 (.inl rfl) HS.out.eb (by have:=HS.out.sb;have:=s7.out;omega) _ HS.out.rb HS.out.lb).mono ?_;rintro e w5 ⟨x5,r5,rfl,⟨g5,c5,rfl,jN,lC,fB⟩,j9,kQ,j_,cL⟩;have mG:=Lib.hid (show 0<lv r5/\lv r5*((2^(k-(i+1)):Nat):Int)=(G:Int) from ais Ie.out j_ HV.out.1 HV.out.2);have pQ:=Lib.hid (ama Av.out.2 mG.out.1 mG.out.2 kQ j9);have r_:=Lib.hid (show GS K w w5 (some ⟨g5,0,none⟩) r5 r5.length c5 (some ⟨g5,0,none⟩) r5 r5.length c5 from ⟨fB,fB,j9,j9,kQ,kQ,rfl,rfl,lC,lC,pQ.out,pQ.out,HS.out.ey.trans (cL.mono HS.out.ey.size)⟩);clear jN lC fB j9 kQ j_ cL;go_wp2
          go_roundg (k-(i+1))
          case measure=>have:=HM.out;have:=Ie.out;omega
          case rel=>exact⟨_,r5,_,_,i+1,Lib.hid ⟨by have:=Ie.out;omega,Ie.out⟩,rfl,by simp,r_,mG⟩
         ·have t1:decide (i<k)=false:=decide_eq_false hik
          have t2:¬ (i:Int)<(k:Int):=by omega
          have Ie:=Lib.hid (show i=k by have:=HM.out.2;omega);clear hik;go_wp2
          go_ret
          exact⟨_,b,rfl,⟨A',c',by rw[HS.out.eb];rfl,by rw[HS.out.eb];exact HS.out.cb,HS.out.rb⟩,HS.out.lb,HS.out.tb,by have h9:=HV.out.2;rw[Ie.out,Nat.sub_self]at h9;omega,HS.out.ey⟩
       ·have hap:0<lv a:=by have:=HV.out.1;omega
        have z1:=HS.out.pos hap;have z3:(0:Int)<(na:Int):=by omega
        obtain⟨N,hN⟩:∃ N,lv a+lv b=N:=⟨_,rfl⟩
        have eE:=Lib.hid (show gk=N.toNat by rw[<- hN];exact HM.out);have mF:=Lib.hid (show 0<lv a/\lv a+lv b<=N/\0<lv b/\GV k (lv a) (lv b) G/\(lv a%2=1\/lv b%2=1) from ⟨hap,by omega,HV.out.2.1,HV.out.2.2.1,HV.out.2.2.2⟩);clear hap hN HM HV hz;go_wp2
        clear z1 z3;go_loopg [0] (lv a).toNat (fun gk2 x w1=>∃ A a na c,Hid (gk2=(lv a).toNat)/\x = .slice A na c/\Hid (GS K w w1 A a na c A' b nb c')/\Hid (0<lv a/\lv a+lv b<=N/\0<lv b/\GV k (lv a) (lv b) G/\(lv a%2=1\/lv b%2=1)))
        case atStart=>exact⟨_,a,_,_,rfl,rfl,HS,mF⟩
        case round =>
         clear HS mF;obtain⟨A,a,na,c,HM,rfl,HS,HV⟩:=hrel;obtain⟨ad,x,rfl,xa,xb,z1,x2⟩:=HS.out.fst HV.out.1;have z3:(0:Int)<(na:Int):=by omega
         rcases BN (lv a) with h|h
         ·have hx:=x2.trans h
          have HH:=Lib.hid h;have HO:=Lib.hid (show lv b%2=1 by have:=HV.out.2.2.2.2;omega);clear x2 h;go_wp2_with fail
          refine(Nq (some ad) na c a HS.out.ea (by have:=HS.out.sa;have:=s7.out;omega) _ HS.out.ra HS.out.la).mono ?_;rintro e w5 ⟨x5,r5,bo,rfl,⟨g5,c5,rfl,jN,lC,fB⟩,j9,kQ,j_,cL⟩;have r_:=Lib.hid (HS.out.Kf cL fB j9 kQ lC (by have:=HV.out.1;omega));have mG:=Lib.hid (show 0<lv r5/\lv r5+lv b<=N/\0<lv b/\GV k (lv r5) (lv b) G/\(lv r5%2=1\/lv b%2=1) from by
           have q1:=HV.out;have q2:=HH.out;refine⟨by omega,by omega,q1.2.2.1,?_,.inr HO.out⟩;rw[j_];exact acW q2 (by omega) HO.out q1.2.2.2.1)
          have qL:=Lib.hid (show(lv r5).toNat<(lv a).toNat by have:=HV.out.1;omega);clear jN lC fB j9 kQ j_ cL xa xb hx z1 z3;go_wp2
          go_roundg (lv r5).toNat
          case measure=>have:=HM.out;have:=qL.out;omega
          case rel=>exact⟨_,r5,_,_,rfl,rfl,r_,mG⟩
         ·have hx:=x2.trans h
          have mF:=Lib.hid (show(0<lv a/\lv a%2=1)/\lv a+lv b<=N/\0<lv b/\GV k (lv a) (lv b) G from ⟨⟨HV.out.1,h⟩,HV.out.2.1,HV.out.2.2.1,HV.out.2.2.2.1⟩);clear x2 h HV HM;go_wp2
          clear hx xa xb z1 z3;go_loopg [1] (lv b).toNat (fun gk3 y w1=>∃ A' b nb c',Hid (gk3=(lv b).toNat)/\y = .slice A' nb c'/\Hid (GS K w w1 (some ad) a na c A' b nb c')/\Hid ((0<lv a/\lv a%2=1)/\lv a+lv b<=N/\0<lv b/\GV k (lv a) (lv b) G))
          case atStart=>exact⟨_,b,_,_,rfl,rfl,HS,mF⟩
          case round =>
           clear HS mF;obtain⟨A',b,nb,c',HM,rfl,HS,HV⟩:=hrel;obtain⟨bd,y,rfl,ya,yb,z2,y2⟩:=HS.out.swap.fst HV.out.2.2.1;have z4:(0:Int)<(nb:Int):=by omega
           rcases BN (lv b) with h|h
           ·have hy:=y2.trans h
            have HH:=Lib.hid h;clear y2 h;go_wp2_with fail
            refine(Nq (some bd) nb c' b HS.out.eb (by have:=HS.out.sb;have:=s7.out;omega) _ HS.out.rb HS.out.lb).mono ?_;rintro e w5 ⟨x5,r5,bo,rfl,⟨g5,c5,rfl,jN,lC,fB⟩,j9,kQ,j_,cL⟩;have r_:=Lib.hid (HS.out.acX cL fB j9 kQ lC (by have:=HV.out.2.2.1;omega));have mG:=Lib.hid (show(0<lv a/\lv a%2=1)/\lv a+lv r5<=N/\0<lv r5/\GV k (lv a) (lv r5) G from by
             have q1:=HV.out;have q2:=HH.out;refine⟨q1.1,by omega,by omega,?_⟩;rw[j_];exact aqw q2 (by omega) q1.1.2 q1.2.2.2)
            have qL:=Lib.hid (show(lv r5).toNat<(lv b).toNat by have:=HV.out.2.2.1;omega);clear jN lC fB j9 kQ j_ cL ya yb hy z2 z4;go_wp2
            go_roundg (lv r5).toNat
            case measure=>have:=HM.out;have:=qL.out;omega
            case rel=>exact⟨_,r5,_,_,rfl,rfl,r_,mG⟩
           ·have hy:=y2.trans h
            have HH:=Lib.hid h;clear y2 h;by_cases hlt:lv a<lv b
            ·have tc:decide (dN (lv a) (lv b)<0)=true:=by unfold dN;rw[if_pos hlt];rfl
             have dM:=Lib.hid hlt;clear hlt;go_wp2_with fail
             refine(N0 (some ad) (some bd) na nb c c' a b HS.out.ea HS.out.eb (by have:=HS.out.sa;have:=s7.out;omega) (by have:=HS.out.sb;have:=s7.out;omega) _ HS.out.ra HS.out.rb HS.out.la HS.out.lb HS.out.ta HS.out.tb).mono ?_;rintro e w4 ⟨rfl,hb4⟩;have jB:=Lib.hid (show GS K w w4 (some ad) a na c (some bd) b nb c' from ⟨iJ hb4 HS.out.ra (Nat.le_refl _),iJ hb4 HS.out.rb (Nat.le_refl _),HS.out.la,HS.out.lb,HS.out.ta,HS.out.tb,HS.out.ea,HS.out.eb,HS.out.ca,HS.out.cb,HS.out.sa,HS.out.sb,HS.out.ey.trans (hb4.mono HS.out.ey.size)⟩);clear HS hb4 ya yb hy z2 z4;go_wp2_with fail
             refine(JS (some bd) (some ad) nb na c' c b a jB.out.eb jB.out.ea (by have:=jB.out.sb;have:=s7.out;omega) (by have:=jB.out.sa;have:=s7.out;omega) _ jB.out.rb jB.out.ra jB.out.lb jB.out.la jB.out.ta (by have:=dM.out;omega)).mono ?_;rintro e w5 ⟨x5,r5,rfl,⟨g5,c5,rfl,jN,lC,fB⟩,j9,kQ,j_,cL⟩;have r_:=Lib.hid (jB.out.swap.Kf cL fB j9 kQ lC (by have:=HV.out;omega));have mG:=Lib.hid (show 0<=lv r5/\0<lv a/\GV k (lv r5) (lv a) G/\(lv r5%2=1\/lv a%2=1) from by
              have q1:=HV.out;have q2:=dM.out;refine⟨by omega,q1.1.1,?_,.inr q1.1.2⟩;rw[j_];exact aac (by omega) (by omega) (MC q1.2.2.2))
             have qL:=Lib.hid (show(lv r5+lv a).toNat<N.toNat by have:=HV.out;have:=dM.out;omega);clear jN lC fB j9 kQ j_ cL tc;go_wp2
             go_roundg (lv r5+lv a).toNat
             case measure=>have:=eE.out;have:=qL.out;omega
             case rel=>exact⟨_,r5,_,_,_,a,_,_,rfl,rfl,rfl,r_,mG⟩
            ·have tc:decide (dN (lv a) (lv b)<0)=false:=by unfold dN;rw[if_neg hlt];split <;> rfl
             have dM:=Lib.hid hlt;clear hlt;go_wp2_with fail
             refine(N0 (some ad) (some bd) na nb c c' a b HS.out.ea HS.out.eb (by have:=HS.out.sa;have:=s7.out;omega) (by have:=HS.out.sb;have:=s7.out;omega) _ HS.out.ra HS.out.rb HS.out.la HS.out.lb HS.out.ta HS.out.tb).mono ?_;rintro e w4 ⟨rfl,hb4⟩;have jB:=Lib.hid (show GS K w w4 (some ad) a na c (some bd) b nb c' from ⟨iJ hb4 HS.out.ra (Nat.le_refl _),iJ hb4 HS.out.rb (Nat.le_refl _),HS.out.la,HS.out.lb,HS.out.ta,HS.out.tb,HS.out.ea,HS.out.eb,HS.out.ca,HS.out.cb,HS.out.sa,HS.out.sb,HS.out.ey.trans (hb4.mono HS.out.ey.size)⟩);clear HS hb4 ya yb hy z2 z4;go_wp2_with fail
             refine(JS (some ad) (some bd) na nb c c' a b jB.out.ea jB.out.eb (by have:=jB.out.sa;have:=s7.out;omega) (by have:=jB.out.sb;have:=s7.out;omega) _ jB.out.ra jB.out.rb jB.out.la jB.out.lb jB.out.tb (by have:=dM.out;omega)).mono ?_;rintro e w5 ⟨x5,r5,rfl,⟨g5,c5,rfl,jN,lC,fB⟩,j9,kQ,j_,cL⟩;have r_:=Lib.hid (jB.out.Kf cL fB j9 kQ lC (by have:=HV.out;omega));have mG:=Lib.hid (show 0<=lv r5/\0<lv b/\GV k (lv r5) (lv b) G/\(lv r5%2=1\/lv b%2=1) from by
              have q1:=HV.out;have q2:=dM.out;refine⟨by omega,q1.2.2.1,?_,.inr HH.out⟩;rw[j_];exact aac (by omega) (by omega) q1.2.2.2)
             have qL:=Lib.hid (show(lv r5+lv b).toNat<N.toNat by have:=HV.out;have:=dM.out;omega);clear jN lC fB j9 kQ j_ cL tc;go_wp2
             go_roundg (lv r5+lv b).toNat
             case measure=>have:=eE.out;have:=qL.out;omega
             case rel=>exact⟨_,r5,_,_,_,b,_,_,rfl,rfl,rfl,r_,mG⟩
     ·have HH:=Lib.hid (show lv a%2=0/\lv b%2=0 by
       have:=HE.out;rcases BN (lv a) with h|h <;> rcases BN (lv b) with h'|h' <;> simp[h,h']at this ⊢)
      clear HE;go_wp2_with fail
      refine(Nq (some ad) na c a HS.out.ea (by have:=HS.out.sa;have:=s7.out;omega) _ HS.out.ra HS.out.la).mono ?_;rintro e w5 ⟨x5,r5,bo,rfl,⟨g5,c5,rfl,jN,lC,fB⟩,j9,kQ,j_,cL⟩;have r_:=Lib.hid (HS.out.Kf cL fB j9 kQ lC (by have:=HV.out.1;omega));have mG:=Lib.hid j_;clear jN lC fB j9 kQ j_ cL HS;go_wp2_with fail
      refine(Nq (some bd) nb c' b r_.out.eb (by have:=r_.out.sb;have:=s7.out;omega) _ r_.out.rb r_.out.lb).mono ?_;rintro e w6 ⟨x6,r6,bo,rfl,⟨g6,c6,rfl,EP,hc6,K0⟩,K1,Le,hv6,kD⟩;have HS6:=Lib.hid (r_.out.acX kD K0 K1 Le hc6 (by have:=HV.out.2.1;omega));have HV6:=Lib.hid (show 0<lv r5/\0<lv r6/\GV (k+1) (lv r5) (lv r6) G from by
       have q1:=HV.out;have q2:=HH.out;have q3:=mG.out;refine⟨by omega,by omega,?_⟩;rw[q3,hv6];exact air q2.1 q2.2 q1.2.2)
      have EW:=Lib.hid (show(lv r5).toNat<(lv a).toNat by have:=HV.out.1;have:=mG.out;omega);have t3:(k:Int)+1<100000:=HT.out;clear EP hc6 K0 K1 Le hv6 kD;go_wp2
      go_roundg (lv r5).toNat
      case measure=>have:=HM.out;have:=EW.out;omega
      case rel=>exact⟨_,r5,_,_,_,r6,_,_,k+1,rfl,rfl,rfl,by simp,HS6,HV6⟩
theorem amb {a b:Nat} {M:Int} (ha:(a:Int)<M) (hb:(b:Int)<M):((Nat.gcd a b:Nat):Int)<M:=by
 by_cases h:a=0
 ·rw[h,Nat.gcd_zero_left];exact hb
 ·have:=Nat.gcd_le_left b (Nat.pos_of_ne_zero h);omega
theorem Yg (n1:Bool) (s1:ByteArray) (n2:Bool) (s2:ByteArray) (h1:s1.size<=4000) (h2:s2.size<=4000) (w:World) :
  Calls Tryz.prog 112 #[.agg #[.bool n1,.string s1],.agg #[.bool n2,.string s2]] w fun e w'=>e = .returned (o_ (Nat.gcd (nv s1).toNat (nv s2).toNat:Nat))/\Below w.heap.size w w':=by
 obtain⟨w3,hw3⟩:∃ w3,w3=((w.alloc (.cells #[.bool n1,.string s1] 38)).alloc (.cells #[.bool n2,.string s2] 38)).alloc (.cells #[.bool false,.string ⟨#[]⟩] 38):=⟨_,rfl⟩
 have hb3:Below w.heap.size w w3:=by rw[hw3];exact(((Below.refl _ _).alloc (Nat.le_refl _) _).alloc (by simp) _).alloc (by simp;omega) _
 have d0:w3.cell? ⟨w.heap.size,0,none⟩=some (.bool n1):=by rw[hw3];simp[go_sem]
 have d1:w3.cell? ⟨w.heap.size,1,none⟩=some (.string s1):=by rw[hw3];simp[go_sem]
 have d2:w3.cell? ⟨w.heap.size+1,0,none⟩=some (.bool n2):=by rw[hw3];simp[go_sem]
 have d3:w3.cell? ⟨w.heap.size+1,1,none⟩=some (.string s2):=by rw[hw3];simp[go_sem]
 have d4:w3.cell? ⟨w.heap.size+2,0,none⟩=some (.bool false):=by rw[hw3];simp[go_sem]
 have d5:w3.cell? ⟨w.heap.size+2,1,none⟩=some (.string ⟨#[]⟩):=by rw[hw3];simp[go_sem]
 have d6:w3.frozen? ⟨w.heap.size+2,0,none⟩=false:=by rw[hw3];simp[go_sem]
 have d7:w3.frozen? ⟨w.heap.size+2,1,none⟩=false:=by rw[hw3];simp[go_sem]
 have hsz:w3.heap.size=w.heap.size+3:=by rw[hw3];simp
 have HW:=Lib.hid hw3;have HS:=Lib.hid hb3;have dP:=Lib.hid hsz
 have HK:=Lib.hid (show ∀ (w':World) (h:Below w3.heap.size w3 w'),w'.cell? ⟨w.heap.size,0,none⟩=some (.bool n1)/\w'.cell? ⟨w.heap.size,1,none⟩=some (.string s1)/\w'.cell? ⟨w.heap.size+1,0,none⟩=some (.bool n2)/\w'.cell? ⟨w.heap.size+1,1,none⟩=some (.string s2)/\w'.cell? ⟨w.heap.size+2,0,none⟩=some (.bool false)/\w'.cell? ⟨w.heap.size+2,1,none⟩=some (.string ⟨#[]⟩)/\w'.frozen? ⟨w.heap.size+2,0,none⟩=false/\w'.frozen? ⟨w.heap.size+2,1,none⟩=false from
  fun w' h=>⟨(h.cell (by simp[hsz];try omega)).trans d0,(h.cell (by simp[hsz];try omega)).trans d1,(h.cell (by simp[hsz];try omega)).trans d2,(h.cell (by simp[hsz];try omega)).trans d3,(h.cell (by simp[hsz];try omega)).trans d4,(h.cell (by simp[hsz];try omega)).trans d5,(h.frozen (by simp[hsz];try omega)).trans d6,(h.frozen (by simp[hsz];try omega)).trans d7⟩)
 have Ap:=Lib.hid (uw s1 (by omega));have Aq:=Lib.hid (uw s2 (by omega));have HZ:=Lib.hid (And.intro h1 h2);have sV:=Lib.hid (show bk false ((Nat.gcd (nv s1).toNat (nv s2).toNat:Nat):Int)=((Nat.gcd (nv s1).toNat (nv s2).toNat:Nat):Int) from rfl);have vn:=Lib.hid (show((((((Nat.gcd (nv s1).toNat (nv s2).toNat:Nat):Int)).natAbs:Nat):Int)<256^(4*1000)) from by
  rw[Int.natAbs_natCast];exact amb (by have:=nE h1;have:=(jg s1).1;omega) (by have:=nE h2;have:=(jg s2).1;omega))
 clear h1 h2;have L0:w.heap.size<w3.heap.size:=by rw[hsz];omega
 have L1:w.heap.size+1<w3.heap.size:=by rw[hsz];omega
 have L2:w.heap.size+2<w3.heap.size:=by rw[hsz];omega
 have hne:¬ w.heap.size=w.heap.size+1+1:=by omega
 have gK:¬ w.heap.size+1=w.heap.size+1+1:=by omega
 have La:=HS.out;clear HK hw3 hb3 hsz;go_enter Tryz.func112,Tryz.ntmps112;go_upto_region 1 with fail
 rw[<- HW.out];clear HW;go_region_held3 (fun w'=>w'.cell? ⟨w.heap.size,0,none⟩=some (.bool n1)/\w'.cell? ⟨w.heap.size,1,none⟩=some (.string s1)/\w'.cell? ⟨w.heap.size+1,0,none⟩=some (.bool n2)/\w'.cell? ⟨w.heap.size+1,1,none⟩=some (.string s2)) (first|exact⟨v0,v1,v2,v3⟩|exact⟨x0,x1,x2,x3⟩|exact⟨y0,y1,y2,y3⟩|exact⟨z0,z1,z2,z3⟩|exact⟨d0,d1,d2,d3⟩|exact⟨(cell_far _ _ _ _ _ _ hne).trans ((cell_far _ _ _ _ _ _ hne).trans v0),(cell_far _ _ _ _ _ _ hne).trans ((cell_far _ _ _ _ _ _ hne).trans v1),(cell_far _ _ _ _ _ _ gK).trans ((cell_far _ _ _ _ _ _ gK).trans v2),(cell_far _ _ _ _ _ _ gK).trans ((cell_far _ _ _ _ _ _ gK).trans v3)⟩|(refine⟨?_,?_,?_,?_⟩;go_keep;go_keep;go_keep;go_keep)) (first|(go_at_call 107;have gz:=z0;clear gz;go_must (refine(Aq.out _).mono ?_;rintro e wy ⟨_,r2,rfl,⟨g2,c2,rfl,hg2,hc2,hr2⟩,hl2,ht2,hv2,hbr⟩;have y0:=(hbr.cell (p:=⟨w.heap.size,0,none⟩) (lT)).trans z0;have y1:=(hbr.cell (p:=⟨w.heap.size,1,none⟩) (lT)).trans z1;have y2:=(hbr.cell (p:=⟨w.heap.size+1,0,none⟩) (lU)).trans z2;have y3:=(hbr.cell (p:=⟨w.heap.size+1,1,none⟩) (lU)).trans z3;have y4:=(hbr.cell (p:=⟨w.heap.size+2,0,none⟩) (wN)).trans z4;have y5:=(hbr.cell (p:=⟨w.heap.size+2,1,none⟩) (wN)).trans z5;have y6:=(hbr.frozen (p:=⟨w.heap.size+2,0,none⟩) (wN)).trans z6;have y7:=(hbr.frozen (p:=⟨w.heap.size+2,1,none⟩) (wN)).trans z7;have lV:=Nat.lt_of_lt_of_le lT hbr.size;have lW:=Nat.lt_of_lt_of_le lU hbr.size;have wO:=Nat.lt_of_lt_of_le wN hbr.size;have rH:=iJ hbr hr1 (Nat.le_refl _);have j8:=eL nu hbr nu.size rfl rfl rfl rfl;clear hbr))|(go_at_call 107;go_must (refine(Ap.out _).mono ?_;rintro e wz ⟨_,r1,rfl,⟨g1,c1,rfl,hg1,hc1,hr1⟩,f_,ht1,jV,hbr⟩;have z0:=(hbr.cell (p:=⟨w.heap.size,0,none⟩) (L0)).trans d0;have z1:=(hbr.cell (p:=⟨w.heap.size,1,none⟩) (L0)).trans d1;have z2:=(hbr.cell (p:=⟨w.heap.size+1,0,none⟩) (L1)).trans d2;have z3:=(hbr.cell (p:=⟨w.heap.size+1,1,none⟩) (L1)).trans d3;have z4:=(hbr.cell (p:=⟨w.heap.size+2,0,none⟩) (L2)).trans d4;have z5:=(hbr.cell (p:=⟨w.heap.size+2,1,none⟩) (L2)).trans d5;have z6:=(hbr.frozen (p:=⟨w.heap.size+2,0,none⟩) (L2)).trans d6;have z7:=(hbr.frozen (p:=⟨w.heap.size+2,1,none⟩) (L2)).trans d7;have lT:=Nat.lt_of_lt_of_le L0 hbr.size;have lU:=Nat.lt_of_lt_of_le L1 hbr.size;have wN:=Nat.lt_of_lt_of_le L2 hbr.size;have nu:=eL La hbr La.size rfl rfl rfl rfl;clear hbr))|(go_at_call 144;go_must (refine(am4 1000 (Nat.le_refl _) (some ⟨g1,0,none⟩) (some ⟨g2,0,none⟩) _ _ c1 c2 r1 r2 rfl rfl (sL (k:=1000) f_ ht1 jV HZ.out.1) (sL (k:=1000) hl2 ht2 hv2 HZ.out.2) hc1 hc2 _ (by exact rH) (by exact hr2) f_ hl2 ht1 ht2).mono ?_;rintro e wx ⟨_,r3,rfl,⟨A3,c3,rfl,hc3,hr3⟩,gw,ht3,hv3,hbr⟩;have x0:=(hbr.cell (p:=⟨w.heap.size,0,none⟩) (lV)).trans y0;have x1:=(hbr.cell (p:=⟨w.heap.size,1,none⟩) (lV)).trans y1;have x2:=(hbr.cell (p:=⟨w.heap.size+1,0,none⟩) (lW)).trans y2;have x3:=(hbr.cell (p:=⟨w.heap.size+1,1,none⟩) (lW)).trans y3;have x4:=(hbr.cell (p:=⟨w.heap.size+2,0,none⟩) (wO)).trans y4;have x5:=(hbr.cell (p:=⟨w.heap.size+2,1,none⟩) (wO)).trans y5;have x6:=(hbr.frozen (p:=⟨w.heap.size+2,0,none⟩) (wO)).trans y6;have x7:=(hbr.frozen (p:=⟨w.heap.size+2,1,none⟩) (wO)).trans y7;have nw:=Nat.lt_of_lt_of_le lV hbr.size;have ny:=Nat.lt_of_lt_of_le lW hbr.size;have Ar:=Nat.lt_of_lt_of_le wO hbr.size;have ji:=eL j8 hbr j8.size rfl rfl rfl rfl;rw[jV,hv2]at hv3;have wC:=Nat.le_trans (IE gw ht3 hv3 vn.out) (by decide:1000<=20000);clear hbr))|(go_at_call 105;go_must (refine(I2 _ _ _ _ r3 rfl wC hc3 _ (by exact hr3) gw).mono ?_;rintro e wv ⟨rfl,hbr⟩;have v0:=(hbr.cell (p:=⟨w.heap.size,0,none⟩) (nw)).trans x0;have v1:=(hbr.cell (p:=⟨w.heap.size,1,none⟩) (nw)).trans x1;have v2:=(hbr.cell (p:=⟨w.heap.size+1,0,none⟩) (ny)).trans x2;have v3:=(hbr.cell (p:=⟨w.heap.size+1,1,none⟩) (ny)).trans x3;have v4:=(hbr.cell (p:=⟨w.heap.size+2,0,none⟩) (Ar)).trans x4;have v5:=(hbr.cell (p:=⟨w.heap.size+2,1,none⟩) (Ar)).trans x5;have v6:=(hbr.frozen (p:=⟨w.heap.size+2,0,none⟩) (Ar)).trans x6;have v7:=(hbr.frozen (p:=⟨w.heap.size+2,1,none⟩) (Ar)).trans x7;have kP:=eL ji hbr ji.size rfl rfl rfl rfl;clear hbr)))
 all_goals go_wp2
 all_goals refine bodyPost_ret (by simp[results,Tryz.results112,go_sem,v4,v5];try rfl) rfl ?_
 all_goals exact⟨by first|(rw[<- sV.out];rfl)|(rw[hv3,<- sV.out];rfl),(kP.setCell (by simp;try omega) _).setCell (by simp;try omega) _⟩
theorem RF (n:Bool) (s:ByteArray) (w:World) :
  Calls Tryz.prog 113 #[.agg #[.bool n,.string s]] w fun e w'=>e = .returned (.agg #[.bool (!n&&decide (0<s.size)),.string s])/\Below w.heap.size w w':=by
 have hb:Below w.heap.size w ((w.alloc (.cells #[.bool n,.string s] 38)).alloc (.cells #[.bool false,.string ⟨#[]⟩] 38)):=((Below.refl _ _).alloc (Nat.le_refl _) _).alloc (by simp) _;have HB:=Lib.hid hb;clear hb;cases n with
 | true =>
  go_enter Tryz.func113,Tryz.ntmps113;go_wp2
  repeat(go_quiet (fail);try go_wp2)
  refine bodyPost_ret (by simp[results,Tryz.results113,go_sem];try rfl) rfl ?_;exact⟨rfl,by first|exact HB.out|exact((Below.refl _ _).alloc (Nat.le_refl _) _).alloc (by simp) _|exact(((Below.refl _ _).alloc (Nat.le_refl _) _).alloc (by simp) _).drew⟩
 | false =>
  by_cases h:s.size=0
  ·obtain⟨t1,t2⟩:=toList_nil h
   have HZ:=Lib.hid (show decide (0<s.size)=false from decide_eq_false (by omega));clear h;go_enter Tryz.func113,Tryz.ntmps113;go_wp2
   repeat(go_quiet (fail);try go_wp2)
   refine bodyPost_ret (by simp[results,Tryz.results113,go_sem];try rfl) rfl ?_;exact⟨by rw[HZ.out] <;> rfl,by first|exact HB.out|exact((Below.refl _ _).alloc (Nat.le_refl _) _).alloc (by simp) _|exact(((Below.refl _ _).alloc (Nat.le_refl _) _).alloc (by simp) _).drew⟩
  ·obtain⟨t1,t2⟩:=yt (by omega:0<s.size)
   have HZ:=Lib.hid (show decide (0<s.size)=true from decide_eq_true (by omega));clear h;go_enter Tryz.func113,Tryz.ntmps113;go_wp2
   repeat(go_quiet (fail);try go_wp2)
   refine bodyPost_ret (by simp[results,Tryz.results113,go_sem];try rfl) rfl ?_;exact⟨by rw[HZ.out] <;> rfl,by first|exact HB.out|exact((Below.refl _ _).alloc (Nat.le_refl _) _).alloc (by simp) _|exact(((Below.refl _ _).alloc (Nat.le_refl _) _).alloc (by simp) _).drew⟩
end Go.Proofs.YtcmepkhjggpmeaaGreat
