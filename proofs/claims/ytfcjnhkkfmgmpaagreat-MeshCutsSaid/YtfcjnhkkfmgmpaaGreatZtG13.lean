import Derived.Test.YtfcjnhkkfmgmpaaGreatZtG32
set_option linter.all false
set_option maxRecDepth 100000
set_option maxHeartbeats 8000000
namespace Go.Proofs.YtfcjnhkkfmgmpaaGreat
open Go.RowKit
open aS hiding B B_eq aH aQ win kg Bp Bs iX fV fG sub_one gp jg add_one eO gB ot mul_one nP lv jH kM dF nZ eH jd fj nU kY nY iu nV lM lN nW iO nX kj kL mY YB nj iH n7
open mG
def agx (M:Nat) (w:World) (v:Value) (r:List Int):Prop:=∃ g c,v = .slice (some ⟨g,0,none⟩) r.length c/\M<=g/\r.length<=c/\RL w (some ⟨g,0,none⟩) r
def F7 (v:Int) (w:World) (e:Ending) (w':World):Prop:=∃ x r,e = .returned x/\agx w.heap.size w' x r/\aH r/\Tr r/\lv r=v/\Below w.heap.size w w'
theorem akY {w wr:World} {g N:Nat} {L:List Int} {v:Int} (hg:w.heap.size<=g) (hb:cV wr g L) (hN:L.length=N) (hn:N<=100000) (hL:aH L) (hv:lv L=v) (wD:Below w.heap.size w wr) (nd:Nat):F7 v w (.returned (.slice (some ⟨g,0,none⟩) (bG L N) N)) (wr.drewN nd):=by
 subst hN;have h1:=gK L;exact⟨_,L.take (bG L L.length),rfl,⟨_,L.length,by rw[h1],hg,by rw[h1];exact qU _ _,((hb.RL (by omega)).take _).dP _⟩,hL.take _,lF L,(eH L).trans hv,iy wD _⟩
theorem Ix {w wr:World} {g N:Nat} {L:List Int} {v:Int} (hg:w.heap.size<=g) (hb:cV wr g L) (hN:L.length=N) (hn:N<=100000) (hL:aH L) (hv:lv L=v) (wD:Below w.heap.size w wr) :
  Calls Tryz.prog 102 #[.slice (some ⟨g,0,none⟩) N N] wr (F7 v w) :=
 (P7 (some ⟨g,0,none⟩) N N L hN (Nat.le_refl _) wr (hb.RL (by omega))).mono fun e w' ⟨he,⟨nd,hd⟩⟩=>by
  subst hd
  rw[he]
  exact akY hg hb hN hn hL hv wD nd
structure aeh (g N8:Nat) (s:ByteArray) (w:World) (k:Nat) (L:List Int) (w1:World):Prop where
 blk:cV w1 g L
 inv:iH (gw s) N8 k L
 only:bW g w w1
theorem vX (s:ByteArray) (h:s.size<=32000) (w:World):Calls Tryz.prog 92 #[.string s] w (F7 (nv s) w):=by
 have hb1:Below w.heap.size w (w.alloc (.cells (madeCells #[.int .u64 0] ((s.size+3) / 4)) 122)):=(Below.refl _ _).alloc (Nat.le_refl _) _;have dz:=sj w ((s.size+3) / 4);have hmk:=r_ ((s.size+3) / 4) (by omega);rw[show(((s.size+3) / 4:Nat):Int)=((s.size:Int)+3) / 4 by omega]at hmk
 have hs4:s.size<=32000:=h;go_enter Tryz.func92,Tryz.ntmps92;go_wp2
 obtain⟨N8,GJ⟩:∃ N8,(s.size+3) / 4=N8:=⟨_,rfl⟩
 rw[GJ]at hb1 dz ⊢
 have BF:=Lib.hid GJ;generalize hw3:w.alloc (.cells (madeCells #[.int .u64 0] N8) 122)=w3 at *;obtain⟨g,hg⟩:∃ g,w.heap.size=g:=⟨_,rfl⟩
 have bI:=Lib.hid (And.intro hb1 hg);rw[hg]at dz ⊢
 have H0:=Lib.hid (show aeh g N8 s w3 0 (List.replicate N8 0) w3 from ⟨dz,iH.start _ _,bW.refl _ _⟩);clear GJ hmk dz hb1 hg hw3 h;go_loopw [4] (fun t w1=>∃ (k:Nat) (L:List Int),k<=s.size/\t = .int .i64 k/\aeh g N8 s w3 k L w1) (fun t _=>s.size-(intOf t).toNat)
 case atStart=>exact⟨0,_,Nat.zero_le _,rfl,H0.out⟩
 case round =>
  obtain⟨k,L,hk,rfl,hI⟩:=hrel;by_cases hlt:k<s.size
  ·have h1:decide ((k:Int)<(s.size:Int))=true:=by simp;omega
   have ho:=hI.only;have BG:k / 4<N8:=by have:=BF.out;omega
   obtain⟨⟨s1,s2,s3⟩,s4⟩:=hI.inv.step (su s) BG;have hblk:=hI.blk;have hce:=hblk.cell (k / 4) (by rw[hI.inv.len];exact BG);have hfr:=hblk.free (k / 4);obtain⟨j,hj⟩:∃ j,j=s.size-1-k:=⟨_,rfl⟩
   have hx:∀ h:j<s.size,((s[j]'h).toNat:Int)=gw s k:=fun h=>by
    unfold gw;rw[dif_pos hlt];subst hj;rfl
   obtain⟨q8,wK⟩:∃ q8,k / 4=q8:=⟨_,rfl⟩
   obtain⟨e8,vE⟩:∃ e8,8*(k%4)=e8:=⟨_,rfl⟩
   obtain⟨X,hX⟩:∃ X,gw s k*256^(k%4)=X:=⟨_,rfl⟩
   rw[wK]at BG s3 s4 hce hfr
   rw[hX]at s1 s2 s3 s4
   have Nc:gw s k*2^e8=X:=by rw[<- vE,<- Y2,hX]
   have hB:(B:Int)=4294967296:=rfl;rw[hB]at s2 s3
   have hl0:=(hI.inv.bL q8).1;have a4:IntKind.u64.wrap (gw s k*2^e8)=X:=by rw[Nc];exact cJ _ ⟨s1,by rw[aS.B_eq];omega⟩
   have a7:IntKind.u64.wrap (gw s k*2^min e8 64)=X:=by rw[Nat.min_eq_left (by omega),a4]
   have a5:IntKind.u64.wrap (lg L q8+X)=lg L q8+X:=cJ _ ⟨by omega,by rw[aS.B_eq];omega⟩;have a6:IntKind.u64.wrap (gw s k)=gw s k:=cJ _ ⟨(su s k).1,by have:=(su s k).2;rw[aS.B_eq];omega⟩;have a8:IntKind.u64.wrap X=X:=cJ _ ⟨s1,by rw[aS.B_eq];omega⟩;have b0:=(su s k).1;have HI:=Lib.hid (And.intro hblk ho);have HS:=Lib.hid s4;have HJ:=Lib.hid (And.intro hj hk);have c1:=eq_true (show(q8:Int)<(N8:Int) by omega);have c2:=eq_true (show(0:Int)<=(q8:Int) by omega);have c3:=eq_true (show(j:Int)<(s.size:Int) by omega);have c4:=eq_true (show(0:Int)<=(j:Int) by omega);have c5:=eq_true (show j<s.size by omega);have c6:=eq_true (show(0:Int)<=(e8:Int) by omega);have c7:=eq_true (show q8<N8 from BG);have a0:IntKind.i64.wrap ((k:Int) / 4)=(q8:Int):=by rw[show(k:Int) / 4=(q8:Int) by omega];exact IntWalk.i64_in _ (by omega)
   have a1:=IntWalk.i64_in ((s.size:Int)-1) (by omega);have a2:IntKind.i64.wrap ((s.size:Int)-1-(k:Int))=(j:Int):=by rw[show(s.size:Int)-1-(k:Int)=(j:Int) by omega];exact IntWalk.i64_in _ (by omega)
   have a3:IntKind.i64.wrap (((k:Int)%4)*8)=(e8:Int):=by rw[show((k:Int)%4)*8=(e8:Int) by omega];exact IntWalk.i64_in _ (by omega)
   have d0:(k:Int) / 4=(q8:Int):=by omega
   have d2:(s.size:Int)-1-(k:Int)=(j:Int):=by omega
   have d3:((k:Int)%4)*8=(e8:Int):=by omega
   have hmd:(k:Int).tmod 4=(k:Int)%4:=Int.tmod_eq_emod_of_nonneg (by omega);have hdv:(k:Int).tdiv 4=(k:Int) / 4:=Int.tdiv_eq_ediv_of_nonneg (by omega);clear hj hk hI s1 s2 s3 s4 hblk ho wK vE hX Nc hB hl0;go_wp2
   go_region
   go_wp2
   obtain⟨i1,i2⟩:=HI.out;obtain⟨hj,hk⟩:=HJ.out;exact⟨⟨k+1,_,by omega,by simp,⟨i1.set _ _,HS.out,(i2.set _ _).dr⟩⟩,by simp[intOf];omega⟩
  ·have he:k=s.size:=by omega
   subst he;have h1:decide ((s.size:Int)<(s.size:Int))=false:=by simp
   have HI:=Lib.hid hI;have HT:=Lib.hid (Ix (w:=w) (Nat.le_of_eq bI.out.2) hI.blk hI.inv.len (by have:=BF.out;omega) hI.inv.bL hI.inv.val (bW.below bI.out.1 hI.only (by rw[bI.out.2];exact Nat.le_refl _)));clear hI hlt hk;go_wp2_with fail
   refine(HT.out).mono ?_;rintro e w4 ⟨x,r,rfl,hr⟩;have HR:=Lib.hid hr;clear hr;go_wp2
   go_ret
   exact⟨x,r,rfl,HR.out⟩
theorem QF (A0 A1:Option Addr) (n m c0 c1:Nat) (a b:List Int) (hn:a.length=n) (hm:b.length=m) (gP:n<=100000) (kE:m<=100000) (w:World) (ha:RL w A0 a) (hb:RL w A1 b) (hla:aH a) (hlb:aH b) (GG:Tr a) (htb:Tr b) :
  Calls Tryz.prog 104 #[.slice A0 n c0,.slice A1 m c1] w fun e w'=>e = .returned (.int .i64 (dY (lv a) (lv b)))/\Below w.heap.size w w':=by
 have HV:=Lib.hid (show um a b n m=dY (lv a) (lv b) by rw[<- hn,<- hm];exact lN hla hlb GG htb);rw[<- HV.out];clear HV;unfold um;by_cases hnm:n=m
 ·subst hnm
  rw[if_pos (OK _)];have HA:=Lib.hid ha;have HB:=Lib.hid hb;have HN:=Lib.hid (And.intro hn hm);have h1:((n:Int) != (n:Int))=false:=by simp
  clear ha hb hn hm;go_enter Tryz.func104,Tryz.ntmps104;go_wp2
  repeat(go_quiet (fail);try go_wp2)
  go_loopw [5] (fun t w1=>∃ (k:Nat),k<=n/\t = .int .i64 ((k:Int)-1)/\Hid (pZ a b k=pZ a b n)/\Dr w w1) (fun t _=>(intOf t+1).toNat)
  case atStart=>exact⟨n,Nat.le_refl _,by first|rfl|simp,Lib.hid rfl,by repeat(first|exact Dr.refl _|apply Dr.step)⟩
  case round =>
   obtain⟨k,hk,rfl,HO,⟨nd,rfl⟩⟩:=hrel;cases k with
   | zero =>
    have h0:decide ((0:Int)<=((0:Nat):Int)-1)=false:=by simp
    go_wp2
    repeat(go_quiet (fail);try go_wp2)
    go_ret
    exact⟨by rw[<- HO.out];rfl,by repeat(first|exact Below.refl _ _|apply iy)⟩
   | succ k =>
    have h0:decide ((0:Int)<=((k+1:Nat):Int)-1)=true:=by simp
    have hsub:((k+1:Nat):Int)-1=(k:Int):=by omega
    rw[hsub];have hkn:k<n:=by omega
    obtain⟨ad,rfl,hca⟩:=HA.out.2 (by rw[HN.out.1];omega);obtain⟨zZ,rfl,hcb⟩:=HB.out.2 (by rw[HN.out.2];omega);have ca:=hca k (by rw[HN.out.1];omega);have cb:=hcb k (by rw[HN.out.2];omega);clear hca hcb;have qj:=HO.out;obtain⟨x,hx⟩:∃ x,lg a k=x:=⟨_,rfl⟩
    obtain⟨y,hy⟩:∃ y,lg b k=y:=⟨_,rfl⟩
    rw[hx]at ca
    rw[hy]at cb
    have hk1:(0:Int)<=(k:Int):=by omega
    rcases tP x y with ⟨hl,hc⟩|⟨hl,hc⟩|⟨hl,hc⟩
    ·have t1:decide (x<y)=true:=decide_eq_true hl
     have HR:=Lib.hid (show pZ a b n = -1 by rw[<- qj,Cp (by rw[hx,hy,hc];decide),hx,hy,hc]);clear hx hy hl hc qj;go_wp2
     repeat(go_quiet (fail);try go_wp2)
     go_ret
     exact⟨by rw[HR.out] <;> rfl,by repeat(first|exact Below.refl _ _|apply iy)⟩
    ·subst hl
     have t1:decide (x<x)=false:=by simp
     have HR:=Lib.hid (show pZ a b k=pZ a b n by rw[<- qj,KO (by rw[hx,hy];exact OK x)]);clear hx hy hc qj;go_wp2
     repeat(go_quiet (fail);try go_wp2)
     exact⟨⟨k,by omega,by first|rfl|simp,HR,by repeat(first|exact Dr.refl _|apply Dr.step)⟩,by simp[intOf] <;> omega⟩
    ·have t1:decide (x<y)=false:=decide_eq_false (by omega)
     have t2:decide (y<x)=true:=decide_eq_true hl;have HR:=Lib.hid (show pZ a b n=1 by rw[<- qj,Cp (by rw[hx,hy,hc];decide),hx,hy,hc]);clear hx hy hl hc qj;go_wp2
     repeat(go_quiet (fail);try go_wp2)
     go_ret
     exact⟨by rw[HR.out] <;> rfl,by repeat(first|exact Below.refl _ _|apply iy)⟩
 ·have h1:((n:Int) != (m:Int))=true:=bne_iff_ne.mpr (by omega)
  have h2:((n:Int)==(m:Int))=false:=beq_eq_false_iff_ne.mpr (by omega);have hne:dY (n:Int) (m:Int)≠0:=fun h=>hnm (Tk h);rw[if_neg hne];rcases tP (n:Int) (m:Int) with ⟨hl,hc⟩|⟨hl,hc⟩|⟨hl,hc⟩
  ·rw[hc]
   have t1:decide ((n:Int)<(m:Int))=true:=decide_eq_true hl;have t2:(n<m)=True:=eq_true (by omega);have t3:decide (n<m)=true:=decide_eq_true (by omega);clear ha hb hn hm hne hl hc;go_enter Tryz.func104,Tryz.ntmps104;go_wp2
   repeat(go_quiet (fail);try go_wp2)
   go_ret
   exact⟨rfl,by repeat(first|exact Below.refl _ _|apply iy)⟩
  ·exact absurd (by omega) hnm
  ·rw[hc]
   have t1:decide ((n:Int)<(m:Int))=false:=decide_eq_false (by omega);have t2:(n<m)=False:=eq_false (by omega);have t3:decide (n<m)=false:=decide_eq_false (by omega);clear ha hb hn hm hne hl hc;go_enter Tryz.func104,Tryz.ntmps104;go_wp2
   repeat(go_quiet (fail);try go_wp2)
   go_ret
   exact⟨rfl,by repeat(first|exact Below.refl _ _|apply iy)⟩
structure FB (g N:Nat) (x y:List Int) (w:World) (k:Nat) (c:Int) (L':List Int) (w1:World):Prop where
 blk:cV w1 g L'
 len:L'.length=N
 bL:aH L'
 bit:c=0\/c=1
 val:win L' 0 k+c*B^k=aQ (lg x) k+aQ (lg y) k
 only:bW g w w1
theorem FB.step {g N k:Nat} {x y L':List Int} {w w1:World} {c:Int} (h:FB g N x y w k c L' w1) (hk:k<N) (hx:aH x) (hy:aH y) {T:Int} (hT:T=lg x k+lg y k+c) :
  FB g N x y w (k+1) (T / 4294967296) (L'.set k (T%4294967296)) (w1.setCell ⟨g,k,none⟩ (.int .u64 (T%4294967296))):=by
 obtain⟨s1,s2,s3⟩:=nU (by rw[h.len];exact hk) h.bL hx hy h.bit h.val;subst hT;exact⟨h.blk.set _ _,by rw[List.length_set];exact h.len,s1,s2,s3,h.only.set _ _⟩
theorem FB.cell {g N k:Nat} {x y L':List Int} {w w1:World} {c:Int} (h:FB g N x y w k c L' w1) (hk:k<N):w1.cell? ⟨g,k,none⟩=some (.int .u64 (lg L' k)):=h.blk.cell k (by rw[h.len];exact hk)
theorem aqd (A0 A1:Option Addr) (n m c0 c1:Nat) (a b:List Int) (hn:a.length=n) (hm:b.length=m) (gP:n<=30000) (kE:m<=30000) (w:World) (ha:RL w A0 a) (hb:RL w A1 b) (hla:aH a) (hlb:aH b) :
  Calls Tryz.prog 103 #[.slice A0 n c0,.slice A1 m c1] w (F7 (lv a+lv b) w):=by
 obtain⟨M,hM⟩:∃ M,max n m=M:=⟨_,rfl⟩
 have hmk:=r_ (M+1) (by omega);rw[show((M+1:Nat):Int)=(M:Int)+1 by omega]at hmk
 have hmx:max (n:Int) (m:Int)=(M:Int):=by omega
 have atY:(if (n:Int)<=(m:Int) then (m:Int) else (n:Int))=(M:Int):=by split <;> omega
 have atZ:(if (n:Int)<(m:Int) then (m:Int) else (n:Int))=(M:Int):=by split <;> omega
 have HA:=Lib.hid (And.intro ha (And.intro hn hla));have HB:=Lib.hid (And.intro hb (And.intro hm hlb));have HM:=Lib.hid (show n<=M/\m<=M/\M<=30000 by omega);have wM:M<=30000:=by omega
 clear ha hb hn hm hla hlb hM;go_enter Tryz.func103,Tryz.ntmps103;go_wp2
 have hb1:Below w.heap.size w (w.alloc (.cells (madeCells #[.int .u64 0] (M+1)) 122)):=(Below.refl _ _).alloc (Nat.le_refl _) _;have dz:=sj w (M+1);have hx1:=HA.out.1.below hb1 (Nat.le_refl _);have hy1:=HB.out.1.below hb1 (Nat.le_refl _);have jl:0<a.length->∀ ad,A0=some ad->ad.block≠w.heap.size:=fun h ad e=>Nat.ne_of_lt (HA.out.1.lt h ad e);have uC:0<b.length->∀ ad,A1=some ad->ad.block≠w.heap.size:=fun h ad e=>Nat.ne_of_lt (HB.out.1.lt h ad e);generalize hw3:w.alloc (.cells (madeCells #[.int .u64 0] (M+1)) 122)=w3 at *;obtain⟨g,hg⟩:∃ g,w.heap.size=g:=⟨_,rfl⟩
 have bI:=Lib.hid (And.intro hb1 hg);rw[hg]at dz jl uC ⊢
 have j5:=Lib.hid (show FB g (M+1) a b w3 0 0 (List.replicate (M+1) 0) w3 from ⟨dz,by simp,jd _,.inl rfl,by simp[win,aQ],bW.refl _ _⟩);have HX:=Lib.hid hx1;have HY:=Lib.hid hy1;have p_:=Lib.hid jl;have DJ:=Lib.hid uC;clear dz hx1 hy1 jl uC hb1 hw3 hmk hg hmx atY atZ;go_loopw [6,7] (fun cv t w4=>∃ (k:Nat) (c:Int) (L':List Int),k<=M+1/\t = .int .i64 k/\cv = .int .u64 c/\FB g (M+1) a b w3 k c L' w4) (fun _ t _=>M+1-(intOf t).toNat)
 case atStart=>exact⟨0,0,_,Nat.zero_le _,rfl,rfl,j5.out⟩
 case round =>
  obtain⟨k,c,L',hk,rfl,rfl,hI⟩:=hrel;by_cases hlt:k<M+1
  ·have h1:decide ((k:Int)<(M:Int)+1)=true:=by simp;omega
   have sP:0<=c/\c<=1:=by rcases hI.bit with h|h <;> omega
   have hce:=hI.cell hlt;have hfr:=hI.blk.free k;have xR:=Lib.hid (HX.out.only hI.only p_.out);have BA:=Lib.hid (HY.out.only hI.only DJ.out);have lx:=HA.out.2.2 k;have ly:=HB.out.2.2 k;rw[show(B:Int)=4294967296 from rfl]at lx ly
   obtain⟨x,hx⟩:∃ x,lg a k=x:=⟨_,rfl⟩
   obtain⟨y,hy⟩:∃ y,lg b k=y:=⟨_,rfl⟩
   rw[hx]at lx
   rw[hy]at ly
   have iI:=Lib.hid (And.intro hx hy);have HI:=Lib.hid hI;have dx:=Lib.hid hlt;have z1:(k:Int)<(M:Int)+1:=by omega
   have z2:k<M+1:=hlt;clear hI hlt hk;by_cases hka:k<n
   ·by_cases hkb:k<m
    ·skip
     have t1:decide ((k:Int)<(n:Int))=true:=by simp;omega
     obtain⟨ad,rfl,cC⟩:=xR.out.2 (by rw[HA.out.2.1];omega);have ca:=cC k (by rw[HA.out.2.1];omega);rw[iI.out.1]at ca
     clear cC;have t2:decide ((k:Int)<(m:Int))=true:=by simp;omega
     obtain⟨GQ,rfl,cC⟩:=BA.out.2 (by rw[HB.out.2.1];omega);have cb:=cC k (by rw[HB.out.2.1];omega);rw[iI.out.2]at cb
     clear cC;have a1:IntKind.u64.wrap (c+x)=c+x:=cJ _ ⟨by omega,by rw[aS.B_eq];omega⟩;have a2:IntKind.u64.wrap (c+x+y)=c+x+y:=cJ _ ⟨by omega,by rw[aS.B_eq];omega⟩;have a3:(c+x+y).tmod 4294967296=(c+x+y)%4294967296:=Int.tmod_eq_emod_of_nonneg (by omega);have a4:(c+x+y).tdiv 4294967296=(c+x+y) / 4294967296:=Int.tdiv_eq_ediv_of_nonneg (by omega);have a5:IntKind.u64.wrap ((c+x+y)%4294967296)=(c+x+y)%4294967296:=cJ _ ⟨by omega,by rw[aS.B_eq];omega⟩;have a6:IntKind.u64.wrap ((c+x+y) / 4294967296)=(c+x+y) / 4294967296:=cJ _ ⟨by omega,by rw[aS.B_eq];omega⟩;have HS:=Lib.hid (HI.out.step dx.out HA.out.2.2 HB.out.2.2 (T:=c+x+y) (by rw[iI.out.1,iI.out.2];omega));go_wp2
     exact⟨⟨k+1,_,_,dx.out,by simp,rfl,HS.out⟩,by have:=dx.out;simp[intOf];omega⟩
    ·skip
     have t1:decide ((k:Int)<(n:Int))=true:=by simp;omega
     obtain⟨ad,rfl,cC⟩:=xR.out.2 (by rw[HA.out.2.1];omega);have ca:=cC k (by rw[HA.out.2.1];omega);rw[iI.out.1]at ca
     clear cC;have t2:decide ((k:Int)<(m:Int))=false:=by simp;omega
     have hy0:y=0:=by rw[<- iI.out.2];exact oz (by rw[HB.out.2.1];omega)
     have a1:IntKind.u64.wrap (c+x)=c+x:=cJ _ ⟨by omega,by rw[aS.B_eq];omega⟩;have a3:(c+x).tmod 4294967296=(c+x)%4294967296:=Int.tmod_eq_emod_of_nonneg (by omega);have a4:(c+x).tdiv 4294967296=(c+x) / 4294967296:=Int.tdiv_eq_ediv_of_nonneg (by omega);have a5:IntKind.u64.wrap ((c+x)%4294967296)=(c+x)%4294967296:=cJ _ ⟨by omega,by rw[aS.B_eq];omega⟩;have a6:IntKind.u64.wrap ((c+x) / 4294967296)=(c+x) / 4294967296:=cJ _ ⟨by omega,by rw[aS.B_eq];omega⟩;have HS:=Lib.hid (HI.out.step dx.out HA.out.2.2 HB.out.2.2 (T:=c+x) (by rw[iI.out.1,iI.out.2];omega));clear hy0;go_wp2
     exact⟨⟨k+1,_,_,dx.out,by simp,rfl,HS.out⟩,by have:=dx.out;simp[intOf];omega⟩
   ·by_cases hkb:k<m
    ·skip
     have t1:decide ((k:Int)<(n:Int))=false:=by simp;omega
     have hx0:x=0:=by rw[<- iI.out.1];exact oz (by rw[HA.out.2.1];omega)
     have t2:decide ((k:Int)<(m:Int))=true:=by simp;omega
     obtain⟨GQ,rfl,cC⟩:=BA.out.2 (by rw[HB.out.2.1];omega);have cb:=cC k (by rw[HB.out.2.1];omega);rw[iI.out.2]at cb
     clear cC;have a2:IntKind.u64.wrap (c+y)=c+y:=cJ _ ⟨by omega,by rw[aS.B_eq];omega⟩;have a3:(c+y).tmod 4294967296=(c+y)%4294967296:=Int.tmod_eq_emod_of_nonneg (by omega);have a4:(c+y).tdiv 4294967296=(c+y) / 4294967296:=Int.tdiv_eq_ediv_of_nonneg (by omega);have a5:IntKind.u64.wrap ((c+y)%4294967296)=(c+y)%4294967296:=cJ _ ⟨by omega,by rw[aS.B_eq];omega⟩;have a6:IntKind.u64.wrap ((c+y) / 4294967296)=(c+y) / 4294967296:=cJ _ ⟨by omega,by rw[aS.B_eq];omega⟩;have HS:=Lib.hid (HI.out.step dx.out HA.out.2.2 HB.out.2.2 (T:=c+y) (by rw[iI.out.1,iI.out.2];omega));clear hx0;go_wp2
     exact⟨⟨k+1,_,_,dx.out,by simp,rfl,HS.out⟩,by have:=dx.out;simp[intOf];omega⟩
    ·skip
     have t1:decide ((k:Int)<(n:Int))=false:=by simp;omega
     have hx0:x=0:=by rw[<- iI.out.1];exact oz (by rw[HA.out.2.1];omega)
     have t2:decide ((k:Int)<(m:Int))=false:=by simp;omega
     have hy0:y=0:=by rw[<- iI.out.2];exact oz (by rw[HB.out.2.1];omega)
     have a3:(c).tmod 4294967296=(c)%4294967296:=Int.tmod_eq_emod_of_nonneg (by omega);have a4:(c).tdiv 4294967296=(c) / 4294967296:=Int.tdiv_eq_ediv_of_nonneg (by omega);have a5:IntKind.u64.wrap ((c)%4294967296)=(c)%4294967296:=cJ _ ⟨by omega,by rw[aS.B_eq];omega⟩;have a6:IntKind.u64.wrap ((c) / 4294967296)=(c) / 4294967296:=cJ _ ⟨by omega,by rw[aS.B_eq];omega⟩;have HS:=Lib.hid (HI.out.step dx.out HA.out.2.2 HB.out.2.2 (T:=c) (by rw[iI.out.1,iI.out.2];omega));clear hx0;clear hy0;go_wp2
     exact⟨⟨k+1,_,_,dx.out,by simp,rfl,HS.out⟩,by have:=dx.out;simp[intOf];omega⟩
  ·have he:k=M+1:=by omega
   subst he;have h1:decide (((M+1:Nat):Int)<(M:Int)+1)=false:=by simp
   have HT:=Lib.hid (Ix (w:=w) (Nat.le_of_eq bI.out.2) hI.blk hI.len (by omega) hI.bL (nY hI.len hI.bL HA.out.2.2 HB.out.2.2 (by rw[HA.out.2.1];exact HM.out.1) (by rw[HB.out.2.1];exact HM.out.2.1) hI.bit hI.val) (bW.below bI.out.1 hI.only (by rw[bI.out.2];exact Nat.le_refl _)));have hlen:=hI.len;clear hI hlt hk;go_wp2_with fail
   refine(HT.out).mono ?_;rintro e w4 ⟨x,r,rfl,hr⟩;have HR:=Lib.hid hr;clear hr;go_wp2
   go_ret
   exact⟨x,r,rfl,HR.out⟩
theorem akZ {L' x y:List Int} {k:Nat} {c:Int} (hk:k<L'.length) (hL:aH L') (hx:aH x) (hy:aH y) (hc:c=0\/c=1)
  (hv:win L' 0 k-c*B^k=aQ (lg x) k-aQ (lg y) k) :
  let L2:=L'.set k (fV (lg x k) (lg y k) c);let c2:=fG (lg x k) (lg y k) c
  aH L2/\(c2=0\/c2=1)/\win L2 0 (k+1)-c2*B^(k+1)=aQ (lg x) (k+1)-aQ (lg y) (k+1):=by
 intro L2 c2;obtain⟨a0,a1,a2,a3⟩:=sub_one (hx k) (hy k) hc;refine⟨hL.set _ ⟨a0,a1⟩,a2,?_⟩;have e1:win L2 0 k=win L' 0 k:=gB fun j hj=>by
  show lg (L'.set k _) _=_;rw[cO,if_neg (by omega)]
 have e2:lg L2 (0+k)=fV (lg x k) (lg y k) c:=by
  show lg (L'.set k _) _=_;rw[cO,if_pos ⟨by omega,hk⟩]
 rw[eO,e1,e2,a3,show aQ (lg x) (k+1)=aQ (lg x) k+lg x k*B^k from rfl,show aQ (lg y) (k+1)=aQ (lg y) k+lg y k*B^k from rfl,Bs];have hv2:win L' 0 k=aQ (lg x) k-aQ (lg y) k+c*B^k:=by omega
 rw[hv2];show _-fG (lg x k) (lg y k) c*(B^k*B)=_;generalize fG (lg x k) (lg y k) c=q;generalize B^k=p;grind
theorem alF {L x y:List Int} {n:Nat} {c:Int} (hL:L.length=n) (j3:aH L) (hx:aH x) (hy:aH y) (JZ:x.length=n) (ty:Tr y) (hc:c=0\/c=1) (hle:lv y<=lv x)
  (hv:win L 0 n-c*B^n=aQ (lg x) n-aQ (lg y) n):lv L=lv x-lv y:=by
 have Nb:y.length<=n:=by
  apply iu ty hy;have:=(dF hx).2;rw[JZ]at this
  omega
 rw[kM Nb,kM (Nat.le_of_eq JZ)]at hv
 have e:win L 0 n=lv L:=by rw[<- hL];exact fj L
 rw[e]at hv
 have h1:=dF j3;rw[hL]at h1
 rcases hc with rfl|rfl
 ·omega
 ·omega
structure LL (g N:Nat) (x y:List Int) (w:World) (k:Nat) (c:Int) (L':List Int) (w1:World):Prop where
 blk:cV w1 g L'
 len:L'.length=N
 bL:aH L'
 bit:c=0\/c=1
 val:win L' 0 k-c*B^k=aQ (lg x) k-aQ (lg y) k
 only:bW g w w1
theorem LL.step {g N k:Nat} {x y L':List Int} {w w1:World} {c:Int} (h:LL g N x y w k c L' w1) (hk:k<N) (hx:aH x) (hy:aH y) {D C:Int} (hD:D=fV (lg x k) (lg y k) c) (hC:C=fG (lg x k) (lg y k) c) :
  LL g N x y w (k+1) C (L'.set k D) (w1.setCell ⟨g,k,none⟩ (.int .u64 D)):=by
 obtain⟨s1,s2,s3⟩:=akZ (by rw[h.len];exact hk) h.bL hx hy h.bit h.val;subst hD;subst hC;exact⟨h.blk.set _ _,by rw[List.length_set];exact h.len,s1,s2,s3,h.only.set _ _⟩
theorem LY (A0 A1:Option Addr) (n m c0 c1:Nat) (a b:List Int) (hn:a.length=n) (hm:b.length=m) (gP:n<=30000) (kE:m<=30000) (w:World) (ha:RL w A0 a) (hb:RL w A1 b) (hla:aH a) (hlb:aH b) (htb:Tr b) (hle:lv b<=lv a) :
  Calls Tryz.prog 105 #[.slice A0 n c0,.slice A1 m c1] w (F7 (lv a-lv b) w):=by
 have hmk:=r_ n (by omega);have HA:=Lib.hid (And.intro ha (And.intro hn hla));have HB:=Lib.hid (And.intro hb (And.intro hm hlb));have HT:=Lib.hid (And.intro htb hle);clear ha hb hn hm hla hlb htb hle;go_enter Tryz.func105,Tryz.ntmps105;go_wp2
 have hb1:Below w.heap.size w (w.alloc (.cells (madeCells #[.int .u64 0] n) 122)):=(Below.refl _ _).alloc (Nat.le_refl _) _;have dz:=sj w n;have hx1:=HA.out.1.below hb1 (Nat.le_refl _);have hy1:=HB.out.1.below hb1 (Nat.le_refl _);have jl:0<a.length->∀ ad,A0=some ad->ad.block≠w.heap.size:=fun h ad e=>Nat.ne_of_lt (HA.out.1.lt h ad e);have uC:0<b.length->∀ ad,A1=some ad->ad.block≠w.heap.size:=fun h ad e=>Nat.ne_of_lt (HB.out.1.lt h ad e);generalize hw3:w.alloc (.cells (madeCells #[.int .u64 0] n) 122)=w3 at *;obtain⟨g,hg⟩:∃ g,w.heap.size=g:=⟨_,rfl⟩
 have bI:=Lib.hid (And.intro hb1 hg);rw[hg]at dz jl uC ⊢
 have j5:=Lib.hid (show LL g n a b w3 0 0 (List.replicate n 0) w3 from ⟨dz,by simp,jd _,.inl rfl,by simp[win,aQ],bW.refl _ _⟩);have HX:=Lib.hid hx1;have HY:=Lib.hid hy1;have p_:=Lib.hid jl;have DJ:=Lib.hid uC;clear dz hx1 hy1 jl uC hb1 hw3 hmk hg;go_loopw [6,7] (fun cv t w4=>∃ (k:Nat) (c:Int) (L':List Int),k<=n/\t = .int .i64 k/\cv = .int .u64 c/\LL g n a b w3 k c L' w4) (fun _ t _=>n-(intOf t).toNat)
 case atStart=>exact⟨0,0,_,Nat.zero_le _,rfl,rfl,j5.out⟩
 case round =>
  obtain⟨k,c,L',hk,rfl,rfl,hI⟩:=hrel;by_cases hlt:k<n
  ·have h1:decide ((k:Int)<(n:Int))=true:=by simp;omega
   have sP:0<=c/\c<=1:=by rcases hI.bit with h|h <;> omega
   have hce:=hI.blk.cell k (by rw[hI.len];exact hlt);have hfr:=hI.blk.free k;have xR:=Lib.hid (HX.out.only hI.only p_.out);have BA:=Lib.hid (HY.out.only hI.only DJ.out);have lx:=HA.out.2.2 k;have ly:=HB.out.2.2 k;rw[show(B:Int)=4294967296 from rfl]at lx ly
   obtain⟨x,hx⟩:∃ x,lg a k=x:=⟨_,rfl⟩
   obtain⟨y,hy⟩:∃ y,lg b k=y:=⟨_,rfl⟩
   rw[hx]at lx
   rw[hy]at ly
   have iI:=Lib.hid (And.intro hx hy);have HI:=Lib.hid hI;have dx:=Lib.hid hlt;have z2:k<n:=hlt;obtain⟨ad,rfl,cC⟩:=xR.out.2 (by rw[HA.out.2.1];omega);have ca:=cC k (by rw[HA.out.2.1];omega);rw[iI.out.1]at ca
   clear cC hI hlt hk;by_cases hkb:k<m
   ·by_cases hxy:x<c+y
    ·skip
     have t2:decide ((k:Int)<(m:Int))=true:=by simp;omega
     obtain⟨GQ,rfl,cC⟩:=BA.out.2 (by rw[HB.out.2.1];omega);have cb:=cC k (by rw[HB.out.2.1];omega);rw[iI.out.2]at cb
     clear cC;have a1:IntKind.u64.wrap (c+y)=c+y:=cJ _ ⟨by omega,by rw[aS.B_eq];omega⟩;have t3:decide (x<c+y)=true:=decide_eq_true hxy;have a2:IntKind.u64.wrap (x+4294967296)=x+4294967296:=cJ _ ⟨by omega,by rw[aS.B_eq];omega⟩;have a3:IntKind.u64.wrap (x+4294967296-(c+y))=x+4294967296-(c+y):=cJ _ ⟨by omega,by rw[aS.B_eq];omega⟩;have HS:=Lib.hid (HI.out.step dx.out HA.out.2.2 HB.out.2.2 (D:=x+4294967296-(c+y)) (C:=1) (by rw[iI.out.1,iI.out.2];unfold fV;rw[show(B:Int)=4294967296 from rfl];omega) (by rw[iI.out.1,iI.out.2];unfold fG;rw[if_pos (by omega)]));clear hxy;go_wp2
     exact⟨⟨k+1,_,_,dx.out,by simp,rfl,HS.out⟩,by have:=dx.out;simp[intOf];omega⟩
    ·skip
     have t2:decide ((k:Int)<(m:Int))=true:=by simp;omega
     obtain⟨GQ,rfl,cC⟩:=BA.out.2 (by rw[HB.out.2.1];omega);have cb:=cC k (by rw[HB.out.2.1];omega);rw[iI.out.2]at cb
     clear cC;have a1:IntKind.u64.wrap (c+y)=c+y:=cJ _ ⟨by omega,by rw[aS.B_eq];omega⟩;have t3:decide (x<c+y)=false:=decide_eq_false hxy;have a3:IntKind.u64.wrap (x-(c+y))=x-(c+y):=cJ _ ⟨by omega,by rw[aS.B_eq];omega⟩;have HS:=Lib.hid (HI.out.step dx.out HA.out.2.2 HB.out.2.2 (D:=x-(c+y)) (C:=0) (by rw[iI.out.1,iI.out.2];unfold fV;rw[show(B:Int)=4294967296 from rfl];omega) (by rw[iI.out.1,iI.out.2];unfold fG;rw[if_neg (by omega)]));clear hxy;go_wp2
     exact⟨⟨k+1,_,_,dx.out,by simp,rfl,HS.out⟩,by have:=dx.out;simp[intOf];omega⟩
   ·by_cases hxy:x<c
    ·skip
     have t2:decide ((k:Int)<(m:Int))=false:=by simp;omega
     have hy0:y=0:=by rw[<- iI.out.2];exact oz (by rw[HB.out.2.1];omega)
     have t3:decide (x<c)=true:=decide_eq_true hxy;have a2:IntKind.u64.wrap (x+4294967296)=x+4294967296:=cJ _ ⟨by omega,by rw[aS.B_eq];omega⟩;have a3:IntKind.u64.wrap (x+4294967296-(c))=x+4294967296-(c):=cJ _ ⟨by omega,by rw[aS.B_eq];omega⟩;have HS:=Lib.hid (HI.out.step dx.out HA.out.2.2 HB.out.2.2 (D:=x+4294967296-(c)) (C:=1) (by rw[iI.out.1,iI.out.2];unfold fV;rw[show(B:Int)=4294967296 from rfl];omega) (by rw[iI.out.1,iI.out.2];unfold fG;rw[if_pos (by omega)]));clear hy0;clear hxy;go_wp2
     exact⟨⟨k+1,_,_,dx.out,by simp,rfl,HS.out⟩,by have:=dx.out;simp[intOf];omega⟩
    ·skip
     have t2:decide ((k:Int)<(m:Int))=false:=by simp;omega
     have hy0:y=0:=by rw[<- iI.out.2];exact oz (by rw[HB.out.2.1];omega)
     have t3:decide (x<c)=false:=decide_eq_false hxy;have a3:IntKind.u64.wrap (x-(c))=x-(c):=cJ _ ⟨by omega,by rw[aS.B_eq];omega⟩;have HS:=Lib.hid (HI.out.step dx.out HA.out.2.2 HB.out.2.2 (D:=x-(c)) (C:=0) (by rw[iI.out.1,iI.out.2];unfold fV;rw[show(B:Int)=4294967296 from rfl];omega) (by rw[iI.out.1,iI.out.2];unfold fG;rw[if_neg (by omega)]));clear hy0;clear hxy;go_wp2
     exact⟨⟨k+1,_,_,dx.out,by simp,rfl,HS.out⟩,by have:=dx.out;simp[intOf];omega⟩
  ·have he:k=n:=by omega
   subst he;have h1:decide ((k:Int)<(k:Int))=false:=by simp
   have xX:=Lib.hid (Ix (w:=w) (Nat.le_of_eq bI.out.2) hI.blk hI.len (by omega) hI.bL (alF hI.len hI.bL HA.out.2.2 HB.out.2.2 HA.out.2.1 HT.out.1 hI.bit HT.out.2 hI.val) (bW.below bI.out.1 hI.only (by rw[bI.out.2];exact Nat.le_refl _)));clear hI hlt hk;go_wp2_with fail
   refine(xX.out).mono ?_;rintro e w4 ⟨x,r,rfl,hr⟩;have HR:=Lib.hid hr;clear hr;go_wp2
   go_ret
   exact⟨x,r,rfl,HR.out⟩
structure LM (g N m:Nat) (a b:List Int) (w:World) (k:Nat) (L':List Int) (w1:World):Prop where
 blk:cV w1 g L'
 len:L'.length=N
 bL:aH L'
 zero:∀ j,k+m<=j->lg L' j=0
 val:win L' 0 (k+m)=aQ (lg a) k*lv b
 only:bW g w w1
structure yZ (g N m:Nat) (b:List Int) (w:World) (k:Nat) (x:Int) (L:List Int) (j:Nat) (c:Int) (L':List Int) (w1:World):Prop where
 blk:cV w1 g L'
 len:L'.length=N
 bL:aH L'
 Bx:∀ i,(i<k\/k+j<=i)->lg L' i=lg L i
 z8:0<=c/\c<B
 val:win L' k j+c*B^j=win L k j+x*aQ (lg b) j
 only:bW g w w1
theorem yZ.step {g N m k j:Nat} {b L L':List Int} {w w1:World} {x c T:Int} (h:yZ g N m b w k x L j c L' w1) (hk:k+j<N) (hx:0<=x/\x<B) (hb:aH b) (hT:T=x*lg b j+lg L' (k+j)+c) :
  yZ g N m b w k x L (j+1) (T / 4294967296) (L'.set (k+j) (T%4294967296)) (w1.setCell ⟨g,k+j,none⟩ (.int .u64 (T%4294967296))):=by
 have hB:(B:Int)=4294967296:=rfl;have h1:=hb j;have h2:=h.bL (k+j);have h3:=h.z8;rw[hB]at hx h1 h2 h3
 have hmul:0<=x*lg b j:=Int.mul_nonneg hx.1 h1.1;have ay4:x*lg b j<=4294967295*4294967295:=Int.mul_le_mul (by omega) (by omega) h1.1 (by omega);have hd:T%4294967296+T / 4294967296*4294967296=T:=by omega
 obtain⟨s1,s2,s3⟩:=nP (by rw[h.len];exact hk) h.bL hb h.Bx (by rw[hB];exact hx) h.z8 h.val (d:=T%4294967296) (c2:=T / 4294967296) (by rw[hB];omega) (by rw[hB,hd,hT]);exact⟨h.blk.set _ _,by rw[List.length_set];exact h.len,s1,s2,by rw[hB];omega,s3,h.only.set _ _⟩
theorem yZ.dr {g N m k j:Nat} {b L L':List Int} {w w1:World} {x c:Int} (h:yZ g N m b w k x L j c L' w1):yZ g N m b w k x L j c L' w1.drew:=⟨h.blk.dP 1,h.len,h.bL,h.Bx,h.z8,h.val,h.only.dr⟩
theorem LM.start {g N m:Nat} {a b L:List Int} {w w1:World} {k:Nat} (h:LM g N m a b w k L w1) (x:Int):yZ g N m b w k x L 0 0 L w1 :=
 ⟨h.blk,h.len,h.bL,fun _ _=>rfl,⟨Int.le_refl _,by decide⟩,by simp[win,aQ],h.only⟩
theorem yZ.done {g N m k:Nat} {a b L L':List Int} {w w1:World} {c:Int} (h:yZ g N m b w k (lg a k) L m c L' w1) (h0:∀ j,k+m<=j->lg L j=0) (hv:win L 0 (k+m)=aQ (lg a) k*lv b) (hk:k+m<N) (hlen:L.length=N) (hb:b.length=m) :
  LM g N m a b w (k+1) (L'.set (k+m) c) (w1.setCell ⟨g,k+m,none⟩ (.int .u64 c)):=by
 have hv2:win L' k m+c*B^m=win L k m+lg a k*lv b:=by
  rw[h.val,<- hb];rfl
 obtain⟨s1,s2,s3⟩:=nX (L':=L) (L2:=L') (by rw[h.len,hlen]) (by rw[hlen];exact hk) h.bL h.Bx h0 h.z8 hv2 hv;exact⟨h.blk.set _ _,by rw[List.length_set];exact h.len,s1,s2,s3,h.only.set _ _⟩
theorem aqe (A0 A1:Option Addr) (n m c0 c1:Nat) (a b:List Int) (hn:a.length=n) (hm:b.length=m) (gP:n<=30000) (kE:m<=30000) (w:World) (ha:RL w A0 a) (hb:RL w A1 b) (hla:aH a) (hlb:aH b) :
  Calls Tryz.prog 91 #[.slice A0 n c0,.slice A1 m c1] w (F7 (lv a*lv b) w):=by
 have hmk:=r_ (n+m) (by omega);rw[show((n+m:Nat):Int)=(n:Int)+(m:Int) by omega]at hmk
 have HA:=Lib.hid (And.intro ha (And.intro hn hla));have HB:=Lib.hid (And.intro hb (And.intro hm hlb));clear ha hb hn hm hla hlb;go_enter Tryz.func91,Tryz.ntmps91;go_wp2
 have hb1:Below w.heap.size w (w.alloc (.cells (madeCells #[.int .u64 0] (n+m)) 122)):=(Below.refl _ _).alloc (Nat.le_refl _) _;have dz:=sj w (n+m);have hx1:=HA.out.1.below hb1 (Nat.le_refl _);have hy1:=HB.out.1.below hb1 (Nat.le_refl _);have jl:0<a.length->∀ ad,A0=some ad->ad.block≠w.heap.size:=fun h ad e=>Nat.ne_of_lt (HA.out.1.lt h ad e);have uC:0<b.length->∀ ad,A1=some ad->ad.block≠w.heap.size:=fun h ad e=>Nat.ne_of_lt (HB.out.1.lt h ad e);generalize hw3:w.alloc (.cells (madeCells #[.int .u64 0] (n+m)) 122)=w3 at *;obtain⟨g,hg⟩:∃ g,w.heap.size=g:=⟨_,rfl⟩
 have bI:=Lib.hid (And.intro hb1 hg);rw[hg]at dz jl uC ⊢
 have j5:=Lib.hid (show LM g (n+m) m a b w3 0 (List.replicate (n+m) 0) w3 from ⟨dz,by simp,jd _,fun j _=>mX _ _,by
  have:win (List.replicate (n+m) 0) 0 (0+m)=0:=jH (m:=0) (by omega) fun j _ _=>mX _ _;rw[this];simp[aQ],bW.refl _ _⟩)
 have HX:=Lib.hid hx1;have HY:=Lib.hid hy1;have p_:=Lib.hid jl;have DJ:=Lib.hid uC;clear dz hx1 hy1 jl uC hb1 hw3 hmk hg;go_loopg [6] n (fun gk t w4=>∃ (k:Nat) (L:List Int),Hid (gk=n-k/\k<=n)/\t = .int .i64 k/\Hid (LM g (n+m) m a b w3 k L w4))
 case atStart=>exact⟨0,_,Lib.hid ⟨rfl,Nat.zero_le _⟩,rfl,j5⟩
 case round =>
  obtain⟨k,L,rD,rfl,HI⟩:=hrel;by_cases hlt:k<n
  ·have h1:decide ((k:Int)<(n:Int))=true:=by simp;omega
   obtain⟨x,hx⟩:∃ x,lg a k=x:=⟨_,rfl⟩
   have lx:=HA.out.2.2 k;rw[show(B:Int)=4294967296 from rfl,hx]at lx
   have vF:=Lib.hid (And.intro hx lx);have dx:=Lib.hid hlt;have HJ0:=Lib.hid (HI.out.start x);have z1:k<n:=hlt;clear hlt hx;go_wp2
   go_loopg [7,8] m (fun gj cv t w5=>∃ (j:Nat) (c:Int) (L':List Int),Hid (gj=m-j/\j<=m)/\t = .int .i64 j/\cv = .int .u64 c/\Hid (yZ g (n+m) m b w3 k x L j c L' w5))
   case atStart=>exact⟨0,0,_,Lib.hid ⟨rfl,Nat.zero_le _⟩,rfl,rfl,HJ0⟩
   case round =>
    obtain⟨j,c,L',hgj,rfl,rfl,HJ⟩:=hrel;by_cases hlt:j<m
    ·have h2:decide ((j:Int)<(m:Int))=true:=by simp;omega
     obtain⟨ad,rfl,cC⟩:=(HX.out.only HJ.out.only p_.out).2 (by rw[HA.out.2.1];omega);have ca:=cC k (by rw[HA.out.2.1];omega);rw[vF.out.1]at ca
     obtain⟨GQ,rfl,agy⟩:=(HY.out.only HJ.out.only DJ.out).2 (by rw[HB.out.2.1];omega);have cb:=agy j (by rw[HB.out.2.1];omega);obtain⟨y,hy⟩:∃ y,lg b j=y:=⟨_,rfl⟩
     have ly:=HB.out.2.2 j;rw[show(B:Int)=4294967296 from rfl,hy]at ly
     rw[hy]at cb
     have hce:=HJ.out.blk.cell (k+j) (by rw[HJ.out.len];omega);have hfr:=HJ.out.blk.free (k+j);obtain⟨t,ht⟩:∃ t,lg L' (k+j)=t:=⟨_,rfl⟩
     have lt:=HJ.out.bL (k+j);rw[show(B:Int)=4294967296 from rfl,ht]at lt
     rw[ht]at hce
     have lc:=HJ.out.z8;rw[show(B:Int)=4294967296 from rfl]at lc
     obtain⟨P,hP⟩:∃ P,x*y=P:=⟨_,rfl⟩
     have p0:0<=P:=by rw[<- hP];exact Int.mul_nonneg lx.1 ly.1
     have p1:P<=18446744065119617025:=by
      rw[<- hP];have:x*y<=4294967295*4294967295:=Int.mul_le_mul (by omega) (by omega) ly.1 (by omega);omega
     have HS:=Lib.hid (HJ.out.step (by omega) (by rw[show(B:Int)=4294967296 from rfl];exact lx) HB.out.2.2 (T:=P+t+c) (by rw[hy,ht,hP]));have a0:IntKind.u64.wrap P=P:=cJ _ ⟨by omega,by rw[aS.B_eq];omega⟩;have a1:IntKind.u64.wrap (P+t)=P+t:=cJ _ ⟨by omega,by rw[aS.B_eq];omega⟩;have a2:IntKind.u64.wrap (P+t+c)=P+t+c:=cJ _ ⟨by omega,by rw[aS.B_eq];omega⟩;have a3:(P+t+c).tmod 4294967296=(P+t+c)%4294967296:=Int.tmod_eq_emod_of_nonneg (by omega);have a4:(P+t+c).tdiv 4294967296=(P+t+c) / 4294967296:=Int.tdiv_eq_ediv_of_nonneg (by omega);have a5:IntKind.u64.wrap ((P+t+c)%4294967296)=(P+t+c)%4294967296:=cJ _ ⟨by omega,by rw[aS.B_eq];omega⟩;have a6:IntKind.u64.wrap ((P+t+c) / 4294967296)=(P+t+c) / 4294967296:=cJ _ ⟨by omega,by rw[aS.B_eq];omega⟩;have z3:j<m:=hlt;have z4:k+j<n+m:=by omega
     have z5:(k:Int)+(j:Int)<(n:Int)+(m:Int):=by omega
     have agz:=Lib.hid hlt;clear cC agy ht hy hlt;go_wp2
     go_region
     go_wp2
     go_roundg (m-(j+1))
     case measure=>have:=hgj.out;have:=agz.out;omega
     case rel=>exact⟨j+1,_,_,Lib.hid ⟨rfl,agz.out⟩,by simp,rfl,Lib.hid HS.out.dr⟩
    ·have hjm:j=m:=by have:=hgj.out.2;omega
     subst hjm;have h2:decide ((j:Int)<(j:Int))=false:=by simp
     have hkn:=dx.out;have hce:=HJ.out.blk.cell (k+j) (by rw[HJ.out.len];omega);have hfr:=HJ.out.blk.free (k+j);have BK:=HJ.out;rw[<- vF.out.1]at BK
     have HD:=Lib.hid (BK.done HI.out.zero HI.out.val (by omega) HI.out.len HB.out.2.1);have z4:k+j<n+j:=by omega
     have z5:(k:Int)+(j:Int)<(n:Int)+(j:Int):=by omega
     clear hlt BK hkn;go_wp2
     go_roundg (n-(k+1))
     case measure=>have:=rD.out;have:=dx.out;omega
     case rel=>exact⟨k+1,_,Lib.hid ⟨rfl,dx.out⟩,by simp,HD⟩
  ·have he:k=n:=by have:=rD.out.2;omega
   subst he;have h1:decide ((k:Int)<(k:Int))=false:=by simp
   have hlv:lv L=lv a*lv b:=by
    have h2:=HI.out.val;have h3:=HI.out.len;rw[<- h3,fj]at h2
    rw[h2];unfold lv;rw[HA.out.2.1]
   have xX:=Lib.hid (Ix (w:=w) (Nat.le_of_eq bI.out.2) HI.out.blk HI.out.len (by omega) HI.out.bL hlv (bW.below bI.out.1 HI.out.only (by rw[bI.out.2];exact Nat.le_refl _)));clear hlv hlt;go_wp2_with fail
   refine(xX.out).mono ?_;rintro e w4 ⟨x,r,rfl,hr⟩;have HR:=Lib.hid hr;clear hr;go_wp2
   go_ret
   exact⟨x,r,rfl,HR.out⟩
end Go.Proofs.YtfcjnhkkfmgmpaaGreat
