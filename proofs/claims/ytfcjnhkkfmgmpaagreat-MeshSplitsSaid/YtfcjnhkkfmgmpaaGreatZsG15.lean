import Derived.Test.YtfcjnhkkfmgmpaaGreatZsG33
set_option linter.all false
set_option maxRecDepth 100000
set_option maxHeartbeats 8000000
namespace Go.Proofs.YtfcjnhkkfmgmpaaGreat
open Go.RowKit
open aR hiding B B_eq aJ aL win jO Bp Bs ij fH fq sub_one fL iQ add_one eH fS nB mul_one mN lv jm jX dG mW eB iN eW mQ ku mV gO mR kS kU mS gY mU jP jW l9 YB mg gV mX
open lM
def ac5 (M:Nat) (w:World) (v:Value) (r:List Int):Prop:=∃ g c,v = .slice (some ⟨g,0,none⟩) r.length c∧M≤g∧r.length≤c∧RL w (some ⟨g,0,none⟩) r
def Dy (v:Int) (w:World) (e:Ending) (w':World):Prop:=∃ x r,e = .returned x∧ac5 w.heap.size w' x r∧aJ r∧Tr r∧lv r=v∧Below w.heap.size w w'
theorem agv {w wr:World} {g N:Nat} {L:List Int} {v:Int} (hg:w.heap.size≤g) (hb:cK wr g L) (hN:L.length=N) (hn:N≤100000) (hL:aJ L) (hv:lv L=v) (tX:Below w.heap.size w wr) (nd:Nat):Dy v w (.returned (.slice (some ⟨g,0,none⟩) (bn L N) N)) (wr.drewN nd):=by
 subst hN;have h1:=f_ L;exact⟨_,L.take (bn L L.length),rfl,⟨_,L.length,by rw[h1],hg,by rw[h1];exact pH _ _,((hb.RL (by omega)).take _).dO _⟩,hL.take _,kM L,(eB L).trans hv,gR tX _⟩
theorem Fj {w wr:World} {g N:Nat} {L:List Int} {v:Int} (hg:w.heap.size≤g) (hb:cK wr g L) (hN:L.length=N) (hn:N≤100000) (hL:aJ L) (hv:lv L=v) (tX:Below w.heap.size w wr) :
  Calls Tryz.prog 102 #[.slice (some ⟨g,0,none⟩) N N] wr (Dy v w) :=
 (MY (some ⟨g,0,none⟩) N N L hN (Nat.le_refl _) wr (hb.RL (by omega))).mono fun e w' ⟨he,⟨nd,hd⟩⟩=>by
  subst hd
  rw[he]
  exact agv hg hb hN hn hL hv tX nd
structure aa7 (g N8:Nat) (s:ByteArray) (w:World) (k:Nat) (L:List Int) (w1:World):Prop where
 blk:cK w1 g L
 inv:gV (fP s) N8 k L
 only:bU g w w1
theorem tC (s:ByteArray) (h:s.size≤32000) (w:World):Calls Tryz.prog 92 #[.string s] w (Dy (nv s) w):=by
 have hb1:Below w.heap.size w (w.alloc (.cells (madeCells #[.int .u64 0] ((s.size+3) / 4)) 122)):=(Below.refl _ _).alloc (Nat.le_refl _) _;have dA:=qo w ((s.size+3) / 4);have hmk:=qm ((s.size+3) / 4) (by omega);rw[show(((s.size+3) / 4:Nat):Int)=((s.size:Int)+3) / 4 by omega]at hmk
 have hs4:s.size≤32000:=h;go_enter Tryz.func92,Tryz.ntmps92;go_wp2
 obtain⟨N8,Ef⟩:∃ N8,(s.size+3) / 4=N8:=⟨_,rfl⟩
 rw[Ef]at hb1 dA ⊢
 have yO:=Lib.hid Ef;generalize hw3:w.alloc (.cells (madeCells #[.int .u64 0] N8) 122)=w3 at *;obtain⟨g,hg⟩:∃ g,w.heap.size=g:=⟨_,rfl⟩
 have bD:=Lib.hid (And.intro hb1 hg);rw[hg]at dA ⊢
 have H0:=Lib.hid (show aa7 g N8 s w3 0 (List.replicate N8 0) w3 from ⟨dA,gV.start _ _,bU.refl _ _⟩);clear Ef hmk dA hb1 hg hw3 h;go_loopw [4] (fun t w1=>∃ (k:Nat) (L:List Int),k≤s.size∧t = .int .i64 k∧aa7 g N8 s w3 k L w1) (fun t _=>s.size-(intOf t).toNat)
 case atStart=>exact⟨0,_,Nat.zero_le _,rfl,H0.out⟩
 case round =>
  obtain⟨k,L,hk,rfl,hI⟩:=hrel;by_cases hlt:k<s.size
  ·have h1:decide ((k:Int)<(s.size:Int))=true:=by simp;omega
   have ho:=hI.only;have yP:k / 4<N8:=by have:=yO.out;omega
   obtain⟨⟨s1,s2,s3⟩,s4⟩:=hI.inv.step (qu s) yP;have hblk:=hI.blk;have hce:=hblk.cell (k / 4) (by rw[hI.inv.len];exact yP);have hfr:=hblk.free (k / 4);obtain⟨j,hj⟩:∃ j,j=s.size-1-k:=⟨_,rfl⟩
   have hx:∀ h:j<s.size,((s[j]'h).toNat:Int)=fP s k:=fun h=>by
    unfold fP;rw[dif_pos hlt];subst hj;rfl
   obtain⟨q8,ug⟩:∃ q8,k / 4=q8:=⟨_,rfl⟩
   obtain⟨e8,sX⟩:∃ e8,8*(k%4)=e8:=⟨_,rfl⟩
   obtain⟨X,hX⟩:∃ X,fP s k*256^(k%4)=X:=⟨_,rfl⟩
   rw[ug]at yP s3 s4 hce hfr
   rw[hX]at s1 s2 s3 s4
   have KA:fP s k*2^e8=X:=by rw[← sX,← Y2,hX]
   have hB:(B:Int)=4294967296:=rfl;rw[hB]at s2 s3
   have hl0:=(hI.inv.bF q8).1;have a4:IntKind.u64.wrap (fP s k*2^e8)=X:=by rw[KA];exact cm _ ⟨s1,by rw[aR.B_eq];omega⟩
   have a7:IntKind.u64.wrap (fP s k*2^min e8 64)=X:=by rw[Nat.min_eq_left (by omega),a4]
   have a5:IntKind.u64.wrap (lg L q8+X)=lg L q8+X:=cm _ ⟨by omega,by rw[aR.B_eq];omega⟩;have a6:IntKind.u64.wrap (fP s k)=fP s k:=cm _ ⟨(qu s k).1,by have:=(qu s k).2;rw[aR.B_eq];omega⟩;have a8:IntKind.u64.wrap X=X:=cm _ ⟨s1,by rw[aR.B_eq];omega⟩;have b0:=(qu s k).1;have HI:=Lib.hid (And.intro hblk ho);have HS:=Lib.hid s4;have HJ:=Lib.hid (And.intro hj hk);have c1:=eq_true (show(q8:Int)<(N8:Int) by omega);have c2:=eq_true (show(0:Int)≤(q8:Int) by omega);have c3:=eq_true (show(j:Int)<(s.size:Int) by omega);have c4:=eq_true (show(0:Int)≤(j:Int) by omega);have c5:=eq_true (show j<s.size by omega);have c6:=eq_true (show(0:Int)≤(e8:Int) by omega);have c7:=eq_true (show q8<N8 from yP);have a0:IntKind.i64.wrap ((k:Int) / 4)=(q8:Int):=by rw[show(k:Int) / 4=(q8:Int) by omega];exact IntWalk.i64_in _ (by omega)
   have a1:=IntWalk.i64_in ((s.size:Int)-1) (by omega);have a2:IntKind.i64.wrap ((s.size:Int)-1-(k:Int))=(j:Int):=by rw[show(s.size:Int)-1-(k:Int)=(j:Int) by omega];exact IntWalk.i64_in _ (by omega)
   have a3:IntKind.i64.wrap (((k:Int)%4)*8)=(e8:Int):=by rw[show((k:Int)%4)*8=(e8:Int) by omega];exact IntWalk.i64_in _ (by omega)
   have d0:(k:Int) / 4=(q8:Int):=by omega
   have d2:(s.size:Int)-1-(k:Int)=(j:Int):=by omega
   have d3:((k:Int)%4)*8=(e8:Int):=by omega
   have hmd:(k:Int).tmod 4=(k:Int)%4:=Int.tmod_eq_emod_of_nonneg (by omega);have hdv:(k:Int).tdiv 4=(k:Int) / 4:=Int.tdiv_eq_ediv_of_nonneg (by omega);clear hj hk hI s1 s2 s3 s4 hblk ho ug sX hX KA hB hl0;go_wp2
   go_region
   go_wp2
   obtain⟨i1,i2⟩:=HI.out;obtain⟨hj,hk⟩:=HJ.out;exact⟨⟨k+1,_,by omega,by simp,⟨i1.set _ _,HS.out,(i2.set _ _).dr⟩⟩,by simp[intOf];omega⟩
  ·have he:k=s.size:=by omega
   subst he;have h1:decide ((s.size:Int)<(s.size:Int))=false:=by simp
   have HI:=Lib.hid hI;have HT:=Lib.hid (Fj (w:=w) (Nat.le_of_eq bD.out.2) hI.blk hI.inv.len (by have:=yO.out;omega) hI.inv.bF hI.inv.val (bU.below bD.out.1 hI.only (by rw[bD.out.2];exact Nat.le_refl _)));clear hI hlt hk;go_wp2_with fail
   refine(HT.out).mono ?_;rintro e w4 ⟨x,r,rfl,hr⟩;have HR:=Lib.hid hr;clear hr;go_wp2
   go_ret
   exact⟨x,r,rfl,HR.out⟩
theorem Nz (A0 A1:Option Addr) (n m c0 c1:Nat) (a b:List Int) (hn:a.length=n) (hm:b.length=m) (gp:n≤100000) (jU:m≤100000) (w:World) (ha:RL w A0 a) (hb:RL w A1 b) (hla:aJ a) (hlb:aJ b) (Ed:Tr a) (htb:Tr b) :
  Calls Tryz.prog 104 #[.slice A0 n c0,.slice A1 m c1] w fun e w'=>e = .returned (.int .i64 (dX (lv a) (lv b)))∧Below w.heap.size w w':=by
 have HV:=Lib.hid (show rH a b n m=dX (lv a) (lv b) by rw[← hn,← hm];exact kU hla hlb Ed htb);rw[← HV.out];clear HV;unfold rH;by_cases hnm:n=m
 ·subst hnm
  rw[if_pos (Ml _)];have HA:=Lib.hid ha;have HB:=Lib.hid hb;have HN:=Lib.hid (And.intro hn hm);have h1:((n:Int) != (n:Int))=false:=by simp
  clear ha hb hn hm;go_enter Tryz.func104,Tryz.ntmps104;go_wp2
  repeat(go_quiet (fail);try go_wp2)
  go_loopw [5] (fun t w1=>∃ (k:Nat),k≤n∧t = .int .i64 ((k:Int)-1)∧Hid (oH a b k=oH a b n)∧Dr w w1) (fun t _=>(intOf t+1).toNat)
  case atStart=>exact⟨n,Nat.le_refl _,by first|rfl|simp,Lib.hid rfl,by repeat(first|exact Dr.refl _|apply Dr.step)⟩
  case round =>
   obtain⟨k,hk,rfl,HO,⟨nd,rfl⟩⟩:=hrel;cases k with
   | zero =>
    have h0:decide ((0:Int)≤((0:Nat):Int)-1)=false:=by simp
    go_wp2
    repeat(go_quiet (fail);try go_wp2)
    go_ret
    exact⟨by rw[← HO.out];rfl,by repeat(first|exact Below.refl _ _|apply gR)⟩
   | succ k =>
    have h0:decide ((0:Int)≤((k+1:Nat):Int)-1)=true:=by simp
    have hsub:((k+1:Nat):Int)-1=(k:Int):=by omega
    rw[hsub];have hkn:k<n:=by omega
    obtain⟨ad,rfl,hca⟩:=HA.out.2 (by rw[HN.out.1];omega);obtain⟨yG,rfl,hcb⟩:=HB.out.2 (by rw[HN.out.2];omega);have ca:=hca k (by rw[HN.out.1];omega);have cb:=hcb k (by rw[HN.out.2];omega);clear hca hcb;have oO:=HO.out;obtain⟨x,hx⟩:∃ x,lg a k=x:=⟨_,rfl⟩
    obtain⟨y,hy⟩:∃ y,lg b k=y:=⟨_,rfl⟩
    rw[hx]at ca
    rw[hy]at cb
    have hk1:(0:Int)≤(k:Int):=by omega
    rcases qY x y with ⟨hl,hc⟩|⟨hl,hc⟩|⟨hl,hc⟩
    ·have t1:decide (x<y)=true:=decide_eq_true hl
     have HR:=Lib.hid (show oH a b n = -1 by rw[← oO,zE (by rw[hx,hy,hc];decide),hx,hy,hc]);clear hx hy hl hc oO;go_wp2
     repeat(go_quiet (fail);try go_wp2)
     go_ret
     exact⟨by rw[HR.out] <;> rfl,by repeat(first|exact Below.refl _ _|apply gR)⟩
    ·subst hl
     have t1:decide (x<x)=false:=by simp
     have HR:=Lib.hid (show oH a b k=oH a b n by rw[← oO,Iw (by rw[hx,hy];exact Ml x)]);clear hx hy hc oO;go_wp2
     repeat(go_quiet (fail);try go_wp2)
     exact⟨⟨k,by omega,by first|rfl|simp,HR,by repeat(first|exact Dr.refl _|apply Dr.step)⟩,by simp[intOf] <;> omega⟩
    ·have t1:decide (x<y)=false:=decide_eq_false (by omega)
     have t2:decide (y<x)=true:=decide_eq_true hl;have HR:=Lib.hid (show oH a b n=1 by rw[← oO,zE (by rw[hx,hy,hc];decide),hx,hy,hc]);clear hx hy hl hc oO;go_wp2
     repeat(go_quiet (fail);try go_wp2)
     go_ret
     exact⟨by rw[HR.out] <;> rfl,by repeat(first|exact Below.refl _ _|apply gR)⟩
 ·have h1:((n:Int) != (m:Int))=true:=bne_iff_ne.mpr (by omega)
  have h2:((n:Int)==(m:Int))=false:=beq_eq_false_iff_ne.mpr (by omega);have hne:dX (n:Int) (m:Int)≠0:=fun h=>hnm (Qa h);rw[if_neg hne];rcases qY (n:Int) (m:Int) with ⟨hl,hc⟩|⟨hl,hc⟩|⟨hl,hc⟩
  ·rw[hc]
   have t1:decide ((n:Int)<(m:Int))=true:=decide_eq_true hl;have t2:(n<m)=True:=eq_true (by omega);have t3:decide (n<m)=true:=decide_eq_true (by omega);clear ha hb hn hm hne hl hc;go_enter Tryz.func104,Tryz.ntmps104;go_wp2
   repeat(go_quiet (fail);try go_wp2)
   go_ret
   exact⟨rfl,by repeat(first|exact Below.refl _ _|apply gR)⟩
  ·exact absurd (by omega) hnm
  ·rw[hc]
   have t1:decide ((n:Int)<(m:Int))=false:=decide_eq_false (by omega);have t2:(n<m)=False:=eq_false (by omega);have t3:decide (n<m)=false:=decide_eq_false (by omega);clear ha hb hn hm hne hl hc;go_enter Tryz.func104,Tryz.ntmps104;go_wp2
   repeat(go_quiet (fail);try go_wp2)
   go_ret
   exact⟨rfl,by repeat(first|exact Below.refl _ _|apply gR)⟩
structure C9 (g N:Nat) (x y:List Int) (w:World) (k:Nat) (c:Int) (L':List Int) (w1:World):Prop where
 blk:cK w1 g L'
 len:L'.length=N
 bF:aJ L'
 bit:c=0∨c=1
 val:win L' 0 k+c*B^k=aL (lg x) k+aL (lg y) k
 only:bU g w w1
theorem C9.step {g N k:Nat} {x y L':List Int} {w w1:World} {c:Int} (h:C9 g N x y w k c L' w1) (hk:k<N) (hx:aJ x) (hy:aJ y) {T:Int} (hT:T=lg x k+lg y k+c) :
  C9 g N x y w (k+1) (T / 4294967296) (L'.set k (T%4294967296)) (w1.setCell ⟨g,k,none⟩ (.int .u64 (T%4294967296))):=by
 obtain⟨s1,s2,s3⟩:=mQ (by rw[h.len];exact hk) h.bF hx hy h.bit h.val;subst hT;exact⟨h.blk.set _ _,by rw[List.length_set];exact h.len,s1,s2,s3,h.only.set _ _⟩
theorem C9.cell {g N k:Nat} {x y L':List Int} {w w1:World} {c:Int} (h:C9 g N x y w k c L' w1) (hk:k<N):w1.cell? ⟨g,k,none⟩=some (.int .u64 (lg L' k)):=h.blk.cell k (by rw[h.len];exact hk)
theorem alG (A0 A1:Option Addr) (n m c0 c1:Nat) (a b:List Int) (hn:a.length=n) (hm:b.length=m) (gp:n≤30000) (jU:m≤30000) (w:World) (ha:RL w A0 a) (hb:RL w A1 b) (hla:aJ a) (hlb:aJ b) :
  Calls Tryz.prog 103 #[.slice A0 n c0,.slice A1 m c1] w (Dy (lv a+lv b) w):=by
 obtain⟨M,hM⟩:∃ M,max n m=M:=⟨_,rfl⟩
 have hmk:=qm (M+1) (by omega);rw[show((M+1:Nat):Int)=(M:Int)+1 by omega]at hmk
 have hmx:max (n:Int) (m:Int)=(M:Int):=by omega
 have ao2:(if (n:Int)≤(m:Int) then (m:Int) else (n:Int))=(M:Int):=by split <;> omega
 have ao3:(if (n:Int)<(m:Int) then (m:Int) else (n:Int))=(M:Int):=by split <;> omega
 have HA:=Lib.hid (And.intro ha (And.intro hn hla));have HB:=Lib.hid (And.intro hb (And.intro hm hlb));have HM:=Lib.hid (show n≤M∧m≤M∧M≤30000 by omega);have uj:M≤30000:=by omega
 clear ha hb hn hm hla hlb hM;go_enter Tryz.func103,Tryz.ntmps103;go_wp2
 have hb1:Below w.heap.size w (w.alloc (.cells (madeCells #[.int .u64 0] (M+1)) 122)):=(Below.refl _ _).alloc (Nat.le_refl _) _;have dA:=qo w (M+1);have hx1:=HA.out.1.below hb1 (Nat.le_refl _);have hy1:=HB.out.1.below hb1 (Nat.le_refl _);have iR:0<a.length→∀ ad,A0=some ad→ad.block≠w.heap.size:=fun h ad e=>Nat.ne_of_lt (HA.out.1.lt h ad e);have rU:0<b.length→∀ ad,A1=some ad→ad.block≠w.heap.size:=fun h ad e=>Nat.ne_of_lt (HB.out.1.lt h ad e);generalize hw3:w.alloc (.cells (madeCells #[.int .u64 0] (M+1)) 122)=w3 at *;obtain⟨g,hg⟩:∃ g,w.heap.size=g:=⟨_,rfl⟩
 have bD:=Lib.hid (And.intro hb1 hg);rw[hg]at dA iR rU ⊢
 have jK:=Lib.hid (show C9 g (M+1) a b w3 0 0 (List.replicate (M+1) 0) w3 from ⟨dA,by simp,iN _,.inl rfl,by simp[win,aL],bU.refl _ _⟩);have HX:=Lib.hid hx1;have HY:=Lib.hid hy1;have oK:=Lib.hid iR;have Bh:=Lib.hid rU;clear dA hx1 hy1 iR rU hb1 hw3 hmk hg hmx ao2 ao3;go_loopw [6,7] (fun cv t w4=>∃ (k:Nat) (c:Int) (L':List Int),k≤M+1∧t = .int .i64 k∧cv = .int .u64 c∧C9 g (M+1) a b w3 k c L' w4) (fun _ t _=>M+1-(intOf t).toNat)
 case atStart=>exact⟨0,0,_,Nat.zero_le _,rfl,rfl,jK.out⟩
 case round =>
  obtain⟨k,c,L',hk,rfl,rfl,hI⟩:=hrel;by_cases hlt:k<M+1
  ·have h1:decide ((k:Int)<(M:Int)+1)=true:=by simp;omega
   have qC:0≤c∧c≤1:=by rcases hI.bit with h|h <;> omega
   have hce:=hI.cell hlt;have hfr:=hI.blk.free k;have vO:=Lib.hid (HX.out.only hI.only oK.out);have yK:=Lib.hid (HY.out.only hI.only Bh.out);have lx:=HA.out.2.2 k;have ly:=HB.out.2.2 k;rw[show(B:Int)=4294967296 from rfl]at lx ly
   obtain⟨x,hx⟩:∃ x,lg a k=x:=⟨_,rfl⟩
   obtain⟨y,hy⟩:∃ y,lg b k=y:=⟨_,rfl⟩
   rw[hx]at lx
   rw[hy]at ly
   have gW:=Lib.hid (And.intro hx hy);have HI:=Lib.hid hI;have dV:=Lib.hid hlt;have z1:(k:Int)<(M:Int)+1:=by omega
   have z2:k<M+1:=hlt;clear hI hlt hk;by_cases hka:k<n
   ·by_cases hkb:k<m
    ·skip
     have t1:decide ((k:Int)<(n:Int))=true:=by simp;omega
     obtain⟨ad,rfl,cj⟩:=vO.out.2 (by rw[HA.out.2.1];omega);have ca:=cj k (by rw[HA.out.2.1];omega);rw[gW.out.1]at ca
     clear cj;have t2:decide ((k:Int)<(m:Int))=true:=by simp;omega
     obtain⟨KV,rfl,cj⟩:=yK.out.2 (by rw[HB.out.2.1];omega);have cb:=cj k (by rw[HB.out.2.1];omega);rw[gW.out.2]at cb
     clear cj;have a1:IntKind.u64.wrap (c+x)=c+x:=cm _ ⟨by omega,by rw[aR.B_eq];omega⟩;have a2:IntKind.u64.wrap (c+x+y)=c+x+y:=cm _ ⟨by omega,by rw[aR.B_eq];omega⟩;have a3:(c+x+y).tmod 4294967296=(c+x+y)%4294967296:=Int.tmod_eq_emod_of_nonneg (by omega);have a4:(c+x+y).tdiv 4294967296=(c+x+y) / 4294967296:=Int.tdiv_eq_ediv_of_nonneg (by omega);have a5:IntKind.u64.wrap ((c+x+y)%4294967296)=(c+x+y)%4294967296:=cm _ ⟨by omega,by rw[aR.B_eq];omega⟩;have a6:IntKind.u64.wrap ((c+x+y) / 4294967296)=(c+x+y) / 4294967296:=cm _ ⟨by omega,by rw[aR.B_eq];omega⟩;have HS:=Lib.hid (HI.out.step dV.out HA.out.2.2 HB.out.2.2 (T:=c+x+y) (by rw[gW.out.1,gW.out.2];omega));go_wp2
     exact⟨⟨k+1,_,_,dV.out,by simp,rfl,HS.out⟩,by have:=dV.out;simp[intOf];omega⟩
    ·skip
     have t1:decide ((k:Int)<(n:Int))=true:=by simp;omega
     obtain⟨ad,rfl,cj⟩:=vO.out.2 (by rw[HA.out.2.1];omega);have ca:=cj k (by rw[HA.out.2.1];omega);rw[gW.out.1]at ca
     clear cj;have t2:decide ((k:Int)<(m:Int))=false:=by simp;omega
     have hy0:y=0:=by rw[← gW.out.2];exact nH (by rw[HB.out.2.1];omega)
     have a1:IntKind.u64.wrap (c+x)=c+x:=cm _ ⟨by omega,by rw[aR.B_eq];omega⟩;have a3:(c+x).tmod 4294967296=(c+x)%4294967296:=Int.tmod_eq_emod_of_nonneg (by omega);have a4:(c+x).tdiv 4294967296=(c+x) / 4294967296:=Int.tdiv_eq_ediv_of_nonneg (by omega);have a5:IntKind.u64.wrap ((c+x)%4294967296)=(c+x)%4294967296:=cm _ ⟨by omega,by rw[aR.B_eq];omega⟩;have a6:IntKind.u64.wrap ((c+x) / 4294967296)=(c+x) / 4294967296:=cm _ ⟨by omega,by rw[aR.B_eq];omega⟩;have HS:=Lib.hid (HI.out.step dV.out HA.out.2.2 HB.out.2.2 (T:=c+x) (by rw[gW.out.1,gW.out.2];omega));clear hy0;go_wp2
     exact⟨⟨k+1,_,_,dV.out,by simp,rfl,HS.out⟩,by have:=dV.out;simp[intOf];omega⟩
   ·by_cases hkb:k<m
    ·skip
     have t1:decide ((k:Int)<(n:Int))=false:=by simp;omega
     have hx0:x=0:=by rw[← gW.out.1];exact nH (by rw[HA.out.2.1];omega)
     have t2:decide ((k:Int)<(m:Int))=true:=by simp;omega
     obtain⟨KV,rfl,cj⟩:=yK.out.2 (by rw[HB.out.2.1];omega);have cb:=cj k (by rw[HB.out.2.1];omega);rw[gW.out.2]at cb
     clear cj;have a2:IntKind.u64.wrap (c+y)=c+y:=cm _ ⟨by omega,by rw[aR.B_eq];omega⟩;have a3:(c+y).tmod 4294967296=(c+y)%4294967296:=Int.tmod_eq_emod_of_nonneg (by omega);have a4:(c+y).tdiv 4294967296=(c+y) / 4294967296:=Int.tdiv_eq_ediv_of_nonneg (by omega);have a5:IntKind.u64.wrap ((c+y)%4294967296)=(c+y)%4294967296:=cm _ ⟨by omega,by rw[aR.B_eq];omega⟩;have a6:IntKind.u64.wrap ((c+y) / 4294967296)=(c+y) / 4294967296:=cm _ ⟨by omega,by rw[aR.B_eq];omega⟩;have HS:=Lib.hid (HI.out.step dV.out HA.out.2.2 HB.out.2.2 (T:=c+y) (by rw[gW.out.1,gW.out.2];omega));clear hx0;go_wp2
     exact⟨⟨k+1,_,_,dV.out,by simp,rfl,HS.out⟩,by have:=dV.out;simp[intOf];omega⟩
    ·skip
     have t1:decide ((k:Int)<(n:Int))=false:=by simp;omega
     have hx0:x=0:=by rw[← gW.out.1];exact nH (by rw[HA.out.2.1];omega)
     have t2:decide ((k:Int)<(m:Int))=false:=by simp;omega
     have hy0:y=0:=by rw[← gW.out.2];exact nH (by rw[HB.out.2.1];omega)
     have a3:(c).tmod 4294967296=(c)%4294967296:=Int.tmod_eq_emod_of_nonneg (by omega);have a4:(c).tdiv 4294967296=(c) / 4294967296:=Int.tdiv_eq_ediv_of_nonneg (by omega);have a5:IntKind.u64.wrap ((c)%4294967296)=(c)%4294967296:=cm _ ⟨by omega,by rw[aR.B_eq];omega⟩;have a6:IntKind.u64.wrap ((c) / 4294967296)=(c) / 4294967296:=cm _ ⟨by omega,by rw[aR.B_eq];omega⟩;have HS:=Lib.hid (HI.out.step dV.out HA.out.2.2 HB.out.2.2 (T:=c) (by rw[gW.out.1,gW.out.2];omega));clear hx0;clear hy0;go_wp2
     exact⟨⟨k+1,_,_,dV.out,by simp,rfl,HS.out⟩,by have:=dV.out;simp[intOf];omega⟩
  ·have he:k=M+1:=by omega
   subst he;have h1:decide (((M+1:Nat):Int)<(M:Int)+1)=false:=by simp
   have HT:=Lib.hid (Fj (w:=w) (Nat.le_of_eq bD.out.2) hI.blk hI.len (by omega) hI.bF (mV hI.len hI.bF HA.out.2.2 HB.out.2.2 (by rw[HA.out.2.1];exact HM.out.1) (by rw[HB.out.2.1];exact HM.out.2.1) hI.bit hI.val) (bU.below bD.out.1 hI.only (by rw[bD.out.2];exact Nat.le_refl _)));have hlen:=hI.len;clear hI hlt hk;go_wp2_with fail
   refine(HT.out).mono ?_;rintro e w4 ⟨x,r,rfl,hr⟩;have HR:=Lib.hid hr;clear hr;go_wp2
   go_ret
   exact⟨x,r,rfl,HR.out⟩
end Go.Proofs.YtfcjnhkkfmgmpaaGreat
