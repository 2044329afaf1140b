import Derived.Test.YtcmepkhjggpmeaaGreatZuG15
set_option linter.all false
set_option maxRecDepth 100000
set_option maxHeartbeats 8000000
namespace Go.Proofs.YtcmepkhjggpmeaaGreat
open Go.RowKit
open aP hiding B B_eq aG aK win jD Bp Bs ig fA eU sub_one fE iK add_one ez fH nC mul_one mL lv jc jR dw mX eo iI eH mR j3 mW gH mS kH kI mU gO mV jF jQ l8 YB l_ gM mY
open lG
def acQ (M:Nat) (w:World) (v:Value) (r:List Int):Prop:=∃ g c,v = .slice (some ⟨g,0,none⟩) r.length c/\M<=g/\r.length<=c/\RL w (some ⟨g,0,none⟩) r
def Em (v:Int) (w:World) (e:Ending) (w':World):Prop:=∃ x r,e = .returned x/\acQ w.heap.size w' x r/\aG r/\Tr r/\lv r=v/\Below w.heap.size w w'
theorem ahC {w wr:World} {g N:Nat} {L:List Int} {v:Int} (hg:w.heap.size<=g) (hb:cO wr g L) (hN:L.length=N) (hn:N<=100000) (hL:aG L) (hv:lv L=v) (zl:Below w.heap.size w wr) (nd:Nat):Em v w (.returned (.slice (some ⟨g,0,none⟩) (bl L N) N)) (wr.drewN nd):=by
 subst hN;have h1:=fO L;exact⟨_,L.take (bl L L.length),rfl,⟨_,L.length,by rw[h1],hg,by rw[h1];exact qb _ _,((hb.RL (by omega)).take _).dI _⟩,hL.take _,kA L,(eo L).trans hv,gI zl _⟩
theorem FP {w wr:World} {g N:Nat} {L:List Int} {v:Int} (hg:w.heap.size<=g) (hb:cO wr g L) (hN:L.length=N) (hn:N<=100000) (hL:aG L) (hv:lv L=v) (zl:Below w.heap.size w wr) :
  Calls Tryz.prog 143 #[.slice (some ⟨g,0,none⟩) N N] wr (Em v w) :=
 (Nl (some ⟨g,0,none⟩) N N L hN (Nat.le_refl _) wr (hb.RL (by omega))).mono fun e w' ⟨he,⟨nd,hd⟩⟩=>by
  subst hd
  rw[he]
  exact ahC hg hb hN hn hL hv zl nd
structure aaU (g N8:Nat) (s:ByteArray) (w:World) (k:Nat) (L:List Int) (w1:World):Prop where
 blk:cO w1 g L
 inv:gM (fF s) N8 k L
 only:bN g w w1
theorem uw (s:ByteArray) (h:s.size<=32000) (w:World):Calls Tryz.prog 107 #[.string s] w (Em (nv s) w):=by
 have hb1:Below w.heap.size w (w.alloc (.cells (madeCells #[.int .u64 0] ((s.size+3) / 4)) 140)):=(Below.refl _ _).alloc (Nat.le_refl _) _;have dn:=qY w ((s.size+3) / 4);have hmk:=qX ((s.size+3) / 4) (by omega);rw[show(((s.size+3) / 4:Nat):Int)=((s.size:Int)+3) / 4 by omega]at hmk
 have hs4:s.size<=32000:=h;go_enter Tryz.func107,Tryz.ntmps107;go_wp2
 obtain⟨N8,EK⟩:∃ N8,(s.size+3) / 4=N8:=⟨_,rfl⟩
 rw[EK]at hb1 dn ⊢
 have Aj:=Lib.hid EK;generalize hw3:w.alloc (.cells (madeCells #[.int .u64 0] N8) 140)=w3 at *;obtain⟨g,hg⟩:∃ g,w.heap.size=g:=⟨_,rfl⟩
 have bu:=Lib.hid (And.intro hb1 hg);rw[hg]at dn ⊢
 have H0:=Lib.hid (show aaU g N8 s w3 0 (List.replicate N8 0) w3 from ⟨dn,gM.start _ _,bN.refl _ _⟩);clear EK hmk dn hb1 hg hw3 h;go_loopw [4] (fun t w1=>∃ (k:Nat) (L:List Int),k<=s.size/\t = .int .i64 k/\aaU g N8 s w3 k L w1) (fun t _=>s.size-(intOf t).toNat)
 case atStart=>exact⟨0,_,Nat.zero_le _,rfl,H0.out⟩
 case round =>
  obtain⟨k,L,hk,rfl,hI⟩:=hrel;by_cases hlt:k<s.size
  ·have h1:decide ((k:Int)<(s.size:Int))=true:=by simp;omega
   have ho:=hI.only;have Ak:k / 4<N8:=by have:=Aj.out;omega
   obtain⟨⟨s1,s2,s3⟩,s4⟩:=hI.inv.step (q7 s) Ak;have hblk:=hI.blk;have hce:=hblk.cell (k / 4) (by rw[hI.inv.len];exact Ak);have hfr:=hblk.free (k / 4);obtain⟨j,hj⟩:∃ j,j=s.size-1-k:=⟨_,rfl⟩
   have hx:∀ h:j<s.size,((s[j]'h).toNat:Int)=fF s k:=fun h=>by
    unfold fF;rw[dif_pos hlt];subst hj;rfl
   obtain⟨q8,rZ⟩:∃ q8,k / 4=q8:=⟨_,rfl⟩
   obtain⟨e8,tW⟩:∃ e8,8*(k%4)=e8:=⟨_,rfl⟩
   obtain⟨X,hX⟩:∃ X,fF s k*256^(k%4)=X:=⟨_,rfl⟩
   rw[rZ]at Ak s3 s4 hce hfr
   rw[hX]at s1 s2 s3 s4
   have KO:fF s k*2^e8=X:=by rw[<- tW,<- Y2,hX]
   have hB:(B:Int)=4294967296:=rfl;rw[hB]at s2 s3
   have hl0:=(hI.inv.lim q8).1;have a4:IntKind.u64.wrap (fF s k*2^e8)=X:=by rw[KO];exact bR _ ⟨s1,by rw[aP.B_eq];omega⟩
   have a7:IntKind.u64.wrap (fF s k*2^min e8 64)=X:=by rw[Nat.min_eq_left (by omega),a4]
   have a5:IntKind.u64.wrap (lg L q8+X)=lg L q8+X:=bR _ ⟨by omega,by rw[aP.B_eq];omega⟩;have a6:IntKind.u64.wrap (fF s k)=fF s k:=bR _ ⟨(q7 s k).1,by have:=(q7 s k).2;rw[aP.B_eq];omega⟩;have a8:IntKind.u64.wrap X=X:=bR _ ⟨s1,by rw[aP.B_eq];omega⟩;have b0:=(q7 s k).1;have HI:=Lib.hid (And.intro hblk ho);have HS:=Lib.hid s4;have HJ:=Lib.hid (And.intro hj hk);have c1:=eq_true (show(q8:Int)<(N8:Int) by omega);have c2:=eq_true (show(0:Int)<=(q8:Int) by omega);have c3:=eq_true (show(j:Int)<(s.size:Int) by omega);have c4:=eq_true (show(0:Int)<=(j:Int) by omega);have c5:=eq_true (show j<s.size by omega);have c6:=eq_true (show(0:Int)<=(e8:Int) by omega);have c7:=eq_true (show q8<N8 from Ak);have a0:IntKind.i64.wrap ((k:Int) / 4)=(q8:Int):=by rw[show(k:Int) / 4=(q8:Int) by omega];exact IntWalk.i64_in _ (by omega)
   have a1:=IntWalk.i64_in ((s.size:Int)-1) (by omega);have a2:IntKind.i64.wrap ((s.size:Int)-1-(k:Int))=(j:Int):=by rw[show(s.size:Int)-1-(k:Int)=(j:Int) by omega];exact IntWalk.i64_in _ (by omega)
   have a3:IntKind.i64.wrap (((k:Int)%4)*8)=(e8:Int):=by rw[show((k:Int)%4)*8=(e8:Int) by omega];exact IntWalk.i64_in _ (by omega)
   have d0:(k:Int) / 4=(q8:Int):=by omega
   have d2:(s.size:Int)-1-(k:Int)=(j:Int):=by omega
   have d3:((k:Int)%4)*8=(e8:Int):=by omega
   have hmd:(k:Int).tmod 4=(k:Int)%4:=Int.tmod_eq_emod_of_nonneg (by omega);have hdv:(k:Int).tdiv 4=(k:Int) / 4:=Int.tdiv_eq_ediv_of_nonneg (by omega);clear hj hk hI s1 s2 s3 s4 hblk ho rZ tW hX KO hB hl0;go_wp2
   go_region
   go_wp2
   obtain⟨i1,i2⟩:=HI.out;obtain⟨hj,hk⟩:=HJ.out;exact⟨⟨k+1,_,by omega,by simp,⟨i1.set _ _,HS.out,(i2.set _ _).dr⟩⟩,by simp[intOf];omega⟩
  ·have he:k=s.size:=by omega
   subst he;have h1:decide ((s.size:Int)<(s.size:Int))=false:=by simp
   have HI:=Lib.hid hI;have HT:=Lib.hid (FP (w:=w) (Nat.le_of_eq bu.out.2) hI.blk hI.inv.len (by have:=Aj.out;omega) hI.inv.lim hI.inv.val (bN.below bu.out.1 hI.only (by rw[bu.out.2];exact Nat.le_refl _)));clear hI hlt hk;go_wp2_with fail
   refine(HT.out).mono ?_;rintro e w4 ⟨x,r,rfl,hr⟩;have HR:=Lib.hid hr;clear hr;go_wp2
   go_ret
   exact⟨x,r,rfl,HR.out⟩
theorem N0 (A0 A1:Option Addr) (n m c0 c1:Nat) (a b:List Int) (hn:a.length=n) (hm:b.length=m) (fW:n<=100000) (jL:m<=100000) (w:World) (ha:RL w A0 a) (hb:RL w A1 b) (hla:aG a) (hlb:aG b) (EI:Tr a) (htb:Tr b) :
  Calls Tryz.prog 109 #[.slice A0 n c0,.slice A1 m c1] w fun e w'=>e = .returned (.int .i64 (dN (lv a) (lv b)))/\Below w.heap.size w w':=by
 have HV:=Lib.hid (show sQ a b n m=dN (lv a) (lv b) by rw[<- hn,<- hm];exact kI hla hlb EI htb);rw[<- HV.out];clear HV;unfold sQ;by_cases hnm:n=m
 ·subst hnm
  rw[if_pos (Mt _)];have HA:=Lib.hid ha;have HB:=Lib.hid hb;have HN:=Lib.hid (And.intro hn hm);have h1:((n:Int) != (n:Int))=false:=by simp
  clear ha hb hn hm;go_enter Tryz.func109,Tryz.ntmps109;go_wp2
  repeat(go_quiet (fail);try go_wp2)
  go_loopw [5] (fun t w1=>∃ (k:Nat),k<=n/\t = .int .i64 ((k:Int)-1)/\Hid (o9 a b k=o9 a b n)/\Dr w w1) (fun t _=>(intOf t+1).toNat)
  case atStart=>exact⟨n,Nat.le_refl _,by first|rfl|simp,Lib.hid rfl,by repeat(first|exact Dr.refl _|apply Dr.step)⟩
  case round =>
   obtain⟨k,hk,rfl,HO,⟨nd,rfl⟩⟩:=hrel;cases k with
   | zero =>
    have h0:decide ((0:Int)<=((0:Nat):Int)-1)=false:=by simp
    go_wp2
    repeat(go_quiet (fail);try go_wp2)
    go_ret
    exact⟨by rw[<- HO.out];rfl,by repeat(first|exact Below.refl _ _|apply gI)⟩
   | succ k =>
    have h0:decide ((0:Int)<=((k+1:Nat):Int)-1)=true:=by simp
    have hsub:((k+1:Nat):Int)-1=(k:Int):=by omega
    rw[hsub];have hkn:k<n:=by omega
    obtain⟨ad,rfl,hca⟩:=HA.out.2 (by rw[HN.out.1];omega);obtain⟨Ac,rfl,hcb⟩:=HB.out.2 (by rw[HN.out.2];omega);have ca:=hca k (by rw[HN.out.1];omega);have cb:=hcb k (by rw[HN.out.2];omega);clear hca hcb;have u_:=HO.out;obtain⟨x,hx⟩:∃ x,lg a k=x:=⟨_,rfl⟩
    obtain⟨y,hy⟩:∃ y,lg b k=y:=⟨_,rfl⟩
    rw[hx]at ca
    rw[hy]at cb
    have hk1:(0:Int)<=(k:Int):=by omega
    rcases sA x y with ⟨hl,hc⟩|⟨hl,hc⟩|⟨hl,hc⟩
    ·have t1:decide (x<y)=true:=decide_eq_true hl
     have HR:=Lib.hid (show o9 a b n = -1 by rw[<- u_,Bb (by rw[hx,hy,hc];decide),hx,hy,hc]);clear hx hy hl hc u_;go_wp2
     repeat(go_quiet (fail);try go_wp2)
     go_ret
     exact⟨by rw[HR.out] <;> rfl,by repeat(first|exact Below.refl _ _|apply gI)⟩
    ·subst hl
     have t1:decide (x<x)=false:=by simp
     have HR:=Lib.hid (show o9 a b k=o9 a b n by rw[<- u_,IX (by rw[hx,hy];exact Mt x)]);clear hx hy hc u_;go_wp2
     repeat(go_quiet (fail);try go_wp2)
     exact⟨⟨k,by omega,by first|rfl|simp,HR,by repeat(first|exact Dr.refl _|apply Dr.step)⟩,by simp[intOf] <;> omega⟩
    ·have t1:decide (x<y)=false:=decide_eq_false (by omega)
     have t2:decide (y<x)=true:=decide_eq_true hl;have HR:=Lib.hid (show o9 a b n=1 by rw[<- u_,Bb (by rw[hx,hy,hc];decide),hx,hy,hc]);clear hx hy hl hc u_;go_wp2
     repeat(go_quiet (fail);try go_wp2)
     go_ret
     exact⟨by rw[HR.out] <;> rfl,by repeat(first|exact Below.refl _ _|apply gI)⟩
 ·have h1:((n:Int) != (m:Int))=true:=bne_iff_ne.mpr (by omega)
  have h2:((n:Int)==(m:Int))=false:=beq_eq_false_iff_ne.mpr (by omega);have hne:dN (n:Int) (m:Int)≠0:=fun h=>hnm (Qp h);rw[if_neg hne];rcases sA (n:Int) (m:Int) with ⟨hl,hc⟩|⟨hl,hc⟩|⟨hl,hc⟩
  ·rw[hc]
   have t1:decide ((n:Int)<(m:Int))=true:=decide_eq_true hl;have t2:(n<m)=True:=eq_true (by omega);have t3:decide (n<m)=true:=decide_eq_true (by omega);clear ha hb hn hm hne hl hc;go_enter Tryz.func109,Tryz.ntmps109;go_wp2
   repeat(go_quiet (fail);try go_wp2)
   go_ret
   exact⟨rfl,by repeat(first|exact Below.refl _ _|apply gI)⟩
  ·exact absurd (by omega) hnm
  ·rw[hc]
   have t1:decide ((n:Int)<(m:Int))=false:=decide_eq_false (by omega);have t2:(n<m)=False:=eq_false (by omega);have t3:decide (n<m)=false:=decide_eq_false (by omega);clear ha hb hn hm hne hl hc;go_enter Tryz.func109,Tryz.ntmps109;go_wp2
   repeat(go_quiet (fail);try go_wp2)
   go_ret
   exact⟨rfl,by repeat(first|exact Below.refl _ _|apply gI)⟩
structure DR (g N:Nat) (x y:List Int) (w:World) (k:Nat) (c:Int) (L':List Int) (w1:World):Prop where
 blk:cO w1 g L'
 len:L'.length=N
 lim:aG L'
 bit:c=0\/c=1
 val:win L' 0 k+c*B^k=aK (lg x) k+aK (lg y) k
 only:bN g w w1
theorem DR.step {g N k:Nat} {x y L':List Int} {w w1:World} {c:Int} (h:DR g N x y w k c L' w1) (hk:k<N) (hx:aG x) (hy:aG y) {T:Int} (hT:T=lg x k+lg y k+c) :
  DR g N x y w (k+1) (T / 4294967296) (L'.set k (T%4294967296)) (w1.setCell ⟨g,k,none⟩ (.int .u64 (T%4294967296))):=by
 obtain⟨s1,s2,s3⟩:=mR (by rw[h.len];exact hk) h.lim hx hy h.bit h.val;subst hT;exact⟨h.blk.set _ _,by rw[List.length_set];exact h.len,s1,s2,s3,h.only.set _ _⟩
theorem DR.cell {g N k:Nat} {x y L':List Int} {w w1:World} {c:Int} (h:DR g N x y w k c L' w1) (hk:k<N):w1.cell? ⟨g,k,none⟩=some (.int .u64 (lg L' k)):=h.blk.cell k (by rw[h.len];exact hk)
theorem amZ (A0 A1:Option Addr) (n m c0 c1:Nat) (a b:List Int) (hn:a.length=n) (hm:b.length=m) (fW:n<=30000) (jL:m<=30000) (w:World) (ha:RL w A0 a) (hb:RL w A1 b) (hla:aG a) (hlb:aG b) :
  Calls Tryz.prog 108 #[.slice A0 n c0,.slice A1 m c1] w (Em (lv a+lv b) w):=by
 obtain⟨M,hM⟩:∃ M,max n m=M:=⟨_,rfl⟩
 have hmk:=qX (M+1) (by omega);rw[show((M+1:Nat):Int)=(M:Int)+1 by omega]at hmk
 have hmx:max (n:Int) (m:Int)=(M:Int):=by omega
 have aqt:(if (n:Int)<=(m:Int) then (m:Int) else (n:Int))=(M:Int):=by split <;> omega
 have aqu:(if (n:Int)<(m:Int) then (m:Int) else (n:Int))=(M:Int):=by split <;> omega
 have HA:=Lib.hid (And.intro ha (And.intro hn hla));have HB:=Lib.hid (And.intro hb (And.intro hm hlb));have HM:=Lib.hid (show n<=M/\m<=M/\M<=30000 by omega);have vk:M<=30000:=by omega
 clear ha hb hn hm hla hlb hM;go_enter Tryz.func108,Tryz.ntmps108;go_wp2
 have hb1:Below w.heap.size w (w.alloc (.cells (madeCells #[.int .u64 0] (M+1)) 140)):=(Below.refl _ _).alloc (Nat.le_refl _) _;have dn:=qY w (M+1);have hx1:=HA.out.1.below hb1 (Nat.le_refl _);have hy1:=HB.out.1.below hb1 (Nat.le_refl _);have iM:0<a.length->∀ ad,A0=some ad->ad.block≠w.heap.size:=fun h ad e=>Nat.ne_of_lt (HA.out.1.lt h ad e);have s6:0<b.length->∀ ad,A1=some ad->ad.block≠w.heap.size:=fun h ad e=>Nat.ne_of_lt (HB.out.1.lt h ad e);generalize hw3:w.alloc (.cells (madeCells #[.int .u64 0] (M+1)) 140)=w3 at *;obtain⟨g,hg⟩:∃ g,w.heap.size=g:=⟨_,rfl⟩
 have bu:=Lib.hid (And.intro hb1 hg);rw[hg]at dn iM s6 ⊢
 have jw:=Lib.hid (show DR g (M+1) a b w3 0 0 (List.replicate (M+1) 0) w3 from ⟨dn,by simp,iI _,.inl rfl,by simp[win,aK],bN.refl _ _⟩);have HX:=Lib.hid hx1;have HY:=Lib.hid hy1;have pg:=Lib.hid iM;have Co:=Lib.hid s6;clear dn hx1 hy1 iM s6 hb1 hw3 hmk hg hmx aqt aqu;go_loopw [6,7] (fun cv t w4=>∃ (k:Nat) (c:Int) (L':List Int),k<=M+1/\t = .int .i64 k/\cv = .int .u64 c/\DR g (M+1) a b w3 k c L' w4) (fun _ t _=>M+1-(intOf t).toNat)
 case atStart=>exact⟨0,0,_,Nat.zero_le _,rfl,rfl,jw.out⟩
 case round =>
  obtain⟨k,c,L',hk,rfl,rfl,hI⟩:=hrel;by_cases hlt:k<M+1
  ·have h1:decide ((k:Int)<(M:Int)+1)=true:=by simp;omega
   have rF:0<=c/\c<=1:=by rcases hI.bit with h|h <;> omega
   have hce:=hI.cell hlt;have hfr:=hI.blk.free k;have sZ:=Lib.hid (HX.out.only hI.only pg.out);have Af:=Lib.hid (HY.out.only hI.only Co.out);have lx:=HA.out.2.2 k;have ly:=HB.out.2.2 k;rw[show(B:Int)=4294967296 from rfl]at lx ly
   obtain⟨x,hx⟩:∃ x,lg a k=x:=⟨_,rfl⟩
   obtain⟨y,hy⟩:∃ y,lg b k=y:=⟨_,rfl⟩
   rw[hx]at lx
   rw[hy]at ly
   have gN:=Lib.hid (And.intro hx hy);have HI:=Lib.hid hI;have dM:=Lib.hid hlt;have z1:(k:Int)<(M:Int)+1:=by omega
   have z2:k<M+1:=hlt;clear hI hlt hk;by_cases hka:k<n
   ·by_cases hkb:k<m
    ·skip
     have t1:decide ((k:Int)<(n:Int))=true:=by simp;omega
     obtain⟨ad,rfl,bW⟩:=sZ.out.2 (by rw[HA.out.2.1];omega);have ca:=bW k (by rw[HA.out.2.1];omega);rw[gN.out.1]at ca
     clear bW;have t2:decide ((k:Int)<(m:Int))=true:=by simp;omega
     obtain⟨K7,rfl,bW⟩:=Af.out.2 (by rw[HB.out.2.1];omega);have cb:=bW k (by rw[HB.out.2.1];omega);rw[gN.out.2]at cb
     clear bW;have a1:IntKind.u64.wrap (c+x)=c+x:=bR _ ⟨by omega,by rw[aP.B_eq];omega⟩;have a2:IntKind.u64.wrap (c+x+y)=c+x+y:=bR _ ⟨by omega,by rw[aP.B_eq];omega⟩;have a3:(c+x+y).tmod 4294967296=(c+x+y)%4294967296:=Int.tmod_eq_emod_of_nonneg (by omega);have a4:(c+x+y).tdiv 4294967296=(c+x+y) / 4294967296:=Int.tdiv_eq_ediv_of_nonneg (by omega);have a5:IntKind.u64.wrap ((c+x+y)%4294967296)=(c+x+y)%4294967296:=bR _ ⟨by omega,by rw[aP.B_eq];omega⟩;have a6:IntKind.u64.wrap ((c+x+y) / 4294967296)=(c+x+y) / 4294967296:=bR _ ⟨by omega,by rw[aP.B_eq];omega⟩;have HS:=Lib.hid (HI.out.step dM.out HA.out.2.2 HB.out.2.2 (T:=c+x+y) (by rw[gN.out.1,gN.out.2];omega));go_wp2
     exact⟨⟨k+1,_,_,dM.out,by simp,rfl,HS.out⟩,by have:=dM.out;simp[intOf];omega⟩
    ·skip
     have t1:decide ((k:Int)<(n:Int))=true:=by simp;omega
     obtain⟨ad,rfl,bW⟩:=sZ.out.2 (by rw[HA.out.2.1];omega);have ca:=bW k (by rw[HA.out.2.1];omega);rw[gN.out.1]at ca
     clear bW;have t2:decide ((k:Int)<(m:Int))=false:=by simp;omega
     have hy0:y=0:=by rw[<- gN.out.2];exact nK (by rw[HB.out.2.1];omega)
     have a1:IntKind.u64.wrap (c+x)=c+x:=bR _ ⟨by omega,by rw[aP.B_eq];omega⟩;have a3:(c+x).tmod 4294967296=(c+x)%4294967296:=Int.tmod_eq_emod_of_nonneg (by omega);have a4:(c+x).tdiv 4294967296=(c+x) / 4294967296:=Int.tdiv_eq_ediv_of_nonneg (by omega);have a5:IntKind.u64.wrap ((c+x)%4294967296)=(c+x)%4294967296:=bR _ ⟨by omega,by rw[aP.B_eq];omega⟩;have a6:IntKind.u64.wrap ((c+x) / 4294967296)=(c+x) / 4294967296:=bR _ ⟨by omega,by rw[aP.B_eq];omega⟩;have HS:=Lib.hid (HI.out.step dM.out HA.out.2.2 HB.out.2.2 (T:=c+x) (by rw[gN.out.1,gN.out.2];omega));clear hy0;go_wp2
     exact⟨⟨k+1,_,_,dM.out,by simp,rfl,HS.out⟩,by have:=dM.out;simp[intOf];omega⟩
   ·by_cases hkb:k<m
    ·skip
     have t1:decide ((k:Int)<(n:Int))=false:=by simp;omega
     have hx0:x=0:=by rw[<- gN.out.1];exact nK (by rw[HA.out.2.1];omega)
     have t2:decide ((k:Int)<(m:Int))=true:=by simp;omega
     obtain⟨K7,rfl,bW⟩:=Af.out.2 (by rw[HB.out.2.1];omega);have cb:=bW k (by rw[HB.out.2.1];omega);rw[gN.out.2]at cb
     clear bW;have a2:IntKind.u64.wrap (c+y)=c+y:=bR _ ⟨by omega,by rw[aP.B_eq];omega⟩;have a3:(c+y).tmod 4294967296=(c+y)%4294967296:=Int.tmod_eq_emod_of_nonneg (by omega);have a4:(c+y).tdiv 4294967296=(c+y) / 4294967296:=Int.tdiv_eq_ediv_of_nonneg (by omega);have a5:IntKind.u64.wrap ((c+y)%4294967296)=(c+y)%4294967296:=bR _ ⟨by omega,by rw[aP.B_eq];omega⟩;have a6:IntKind.u64.wrap ((c+y) / 4294967296)=(c+y) / 4294967296:=bR _ ⟨by omega,by rw[aP.B_eq];omega⟩;have HS:=Lib.hid (HI.out.step dM.out HA.out.2.2 HB.out.2.2 (T:=c+y) (by rw[gN.out.1,gN.out.2];omega));clear hx0;go_wp2
     exact⟨⟨k+1,_,_,dM.out,by simp,rfl,HS.out⟩,by have:=dM.out;simp[intOf];omega⟩
    ·skip
     have t1:decide ((k:Int)<(n:Int))=false:=by simp;omega
     have hx0:x=0:=by rw[<- gN.out.1];exact nK (by rw[HA.out.2.1];omega)
     have t2:decide ((k:Int)<(m:Int))=false:=by simp;omega
     have hy0:y=0:=by rw[<- gN.out.2];exact nK (by rw[HB.out.2.1];omega)
     have a3:(c).tmod 4294967296=(c)%4294967296:=Int.tmod_eq_emod_of_nonneg (by omega);have a4:(c).tdiv 4294967296=(c) / 4294967296:=Int.tdiv_eq_ediv_of_nonneg (by omega);have a5:IntKind.u64.wrap ((c)%4294967296)=(c)%4294967296:=bR _ ⟨by omega,by rw[aP.B_eq];omega⟩;have a6:IntKind.u64.wrap ((c) / 4294967296)=(c) / 4294967296:=bR _ ⟨by omega,by rw[aP.B_eq];omega⟩;have HS:=Lib.hid (HI.out.step dM.out HA.out.2.2 HB.out.2.2 (T:=c) (by rw[gN.out.1,gN.out.2];omega));clear hx0;clear hy0;go_wp2
     exact⟨⟨k+1,_,_,dM.out,by simp,rfl,HS.out⟩,by have:=dM.out;simp[intOf];omega⟩
  ·have he:k=M+1:=by omega
   subst he;have h1:decide (((M+1:Nat):Int)<(M:Int)+1)=false:=by simp
   have HT:=Lib.hid (FP (w:=w) (Nat.le_of_eq bu.out.2) hI.blk hI.len (by omega) hI.lim (mW hI.len hI.lim HA.out.2.2 HB.out.2.2 (by rw[HA.out.2.1];exact HM.out.1) (by rw[HB.out.2.1];exact HM.out.2.1) hI.bit hI.val) (bN.below bu.out.1 hI.only (by rw[bu.out.2];exact Nat.le_refl _)));have hlen:=hI.len;clear hI hlt hk;go_wp2_with fail
   refine(HT.out).mono ?_;rintro e w4 ⟨x,r,rfl,hr⟩;have HR:=Lib.hid hr;clear hr;go_wp2
   go_ret
   exact⟨x,r,rfl,HR.out⟩
end Go.Proofs.YtcmepkhjggpmeaaGreat
