import Derived.Test.YtfcjnhkkfmgmpaaGreatZtG2
import Derived.StillTailTactics
import Derived.IntWalk
set_option linter.all false
set_option maxRecDepth 100000
set_option maxHeartbeats 8000000
namespace Go.Proofs.YtfcjnhkkfmgmpaaGreat
open Go.RowKit aS
def Fu (h n t:Int):Int:=if t<=h then B-1 else (h*B+n) / t
theorem alq (h n t:Int) (hh:0<=h) (hn:0<=n/\n<B) (ht:t<B) (w:World) :
  Calls Tryz.prog 131 #[.int .u64 h,.int .u64 n,.int .u64 t] w fun e w'=>e = .returned (.int .u64 (Fu h n t))/\Dr w w':=by
 unfold Fu;by_cases hlt:t<=h
 ·rw[if_pos hlt]
  have h1:decide (t<=h)=true:=decide_eq_true hlt;go_enter Tryz.func131,Tryz.ntmps131;go_wp2
  go_ret
  exact⟨rfl,by repeat(first|exact Dr.refl _|apply Dr.step)⟩
 ·rw[if_neg hlt]
  have h1:decide (t<=h)=false:=decide_eq_false hlt;have HD:=Lib.hid (abk h n t ⟨hh,by omega⟩ hn ht);go_enter Tryz.func131,Tryz.ntmps131;go_wp2_with fail
  refine(HD.out _).mono ?_;rintro e w' ⟨rfl,⟨nd,rfl⟩⟩;go_wp2
  go_ret
  exact⟨rfl,by repeat(first|exact Dr.refl _|apply Dr.step)⟩
theorem or_comm (x y:Int):bits .or .u64 x y=bits .or .u64 y x:=by simp only[bits,BitVec.or_comm]
structure af1 (g n:Nat) (a:List Int) (S:Int) (w:World) (k:Nat) (L:List Int) (w1:World):Prop where
 blk:cV w1 g L
 len:L.length=n+1
 bL:aH L
 low:lg L k<S
 zero:∀ j,k<j->lg L j=0
 val:win L 0 (k+1)=S*aQ (lg a) k
 only:bW g w w1
def atE (n:Nat) (v:Int) (w:World) (e:Ending) (w':World):Prop:=∃ g L,e = .returned (.slice (some ⟨g,0,none⟩) (n+1) (n+1))/\w.heap.size<=g/\cV w' g L/\L.length=n+1/\aH L/\lv L=v/\Below w.heap.size w w'
theorem aaI (A0:Option Addr) (n c0 s:Nat) (a:List Int) (hn:a.length=n) (gP:n<=5000) (hs:s<=63) (w:World) (ha:RL w A0 a) (hla:aH a) :
  Calls Tryz.prog 130 #[.slice A0 n c0,.int .i64 s] w (atE n (2^s*lv a) w):=by
 obtain⟨S,hS⟩:∃ S:Int,S=2^s:=⟨_,rfl⟩
 have dI:0<S:=by rw[hS];exact Int.pow_pos (by decide)
 obtain⟨T,hT⟩:∃ T:Int,T=2^(64-s):=⟨_,rfl⟩
 have qb:0<T:=by rw[hT];exact Int.pow_pos (by decide)
 have iF:S*T=B:=by
  rw[hS,hT,<- Int.pow_add,show s+(64-s)=64 by omega];rfl
 rw[<- hS];have hb1:Below w.heap.size w (w.alloc (.cells (madeCells #[.int .u64 0] (n+1)) 122)):=(Below.refl _ _).alloc (Nat.le_refl _) _;have dz:=sj w (n+1);have hx1:=ha.below hb1 (Nat.le_refl _);have jl:0<a.length->∀ ad,A0=some ad->ad.block≠w.heap.size:=fun h ad e=>Nat.ne_of_lt (ha.lt h ad e);have hmk:=r_ (n+1) aD;rw[show((n+1:Nat):Int)=(n:Int)+1 by omega]at hmk
 have HN:=Lib.hid hn;have tv:=Lib.hid hla;have HP:=Lib.hid (And.intro hS (And.intro hT (And.intro dI (And.intro qb iF))));clear hn hla hS hT dI qb iF ha;go_enter Tryz.func130,Tryz.ntmps130;go_wp2
 generalize hw3:w.alloc (.cells (madeCells #[.int .u64 0] (n+1)) 122)=w3 at *;have HG:w.heap.size<=w.heap.size:=Nat.le_refl _;generalize hg:w.heap.size=g at HG hb1 dz jl ⊢;have j5:=Lib.hid (show af1 g n a S w3 0 (List.replicate (n+1) 0) w3 from ⟨dz,by simp,jd _,by rw[mX];exact HP.out.2.2.1,fun j _=>mX _ _,by
  have:win (List.replicate (n+1) 0) 0 (0+1)=0:=jH (m:=0) aD fun j _ _=>mX _ _;rw[this];simp[aQ],bW.refl _ _⟩)
 have HX:=Lib.hid hx1;have p_:=Lib.hid jl;have n9:=Lib.hid hb1;have xT:=Lib.hid hg;clear dz hx1 jl hb1 hw3 hmk hg;go_loopw [6,7,14] (fun _ _ t w4=>∃ (k:Nat) (L':List Int),k<=n/\t = .int .i64 k/\af1 g n a S w3 k L' w4) (fun _ _ t _=>n-(intOf t).toNat)
 case atStart=>exact⟨0,_,Nat.zero_le _,rfl,j5.out⟩
 case round =>
  obtain⟨k,L',hk,rfl,hI⟩:=hrel;by_cases hlt:k<n
  ·have h1:decide ((k:Int)<(n:Int))=true:=by simp;omega
   obtain⟨ad,rfl,cC⟩:=(HX.out.only hI.only p_.out).2 (by have:=HN.out;omega);have hc2:=cC k (by have:=HN.out;omega);have hce:=hI.blk.cell k (by rw[hI.len];omega);have hfr:=hI.blk.free k;obtain⟨hS,hT,dI,qb,iF⟩:=HP.out;obtain⟨s1,s2,s3,s4,s5⟩:=akD dI qb iF (by rw[hI.len];omega) hI.bL tv.out hI.low hI.zero hI.val;have e1:IntKind.u64.wrap (lg a k*2^s)=lg a k*S%B:=by rw[<- hS,IntKind.wrap_u64];rfl
   have r0:0<=lg a k*S%B:=Int.emod_nonneg _ (by decide);have r1:lg a k*S%B<B:=Int.emod_lt_of_pos _ (by decide);have e2:bits .or .u64 (lg L' k) (lg a k*S%B)=lg L' k+lg a k*S%B:=by
    have hm:lg a k*S%B%2^s=0:=by
     rw[<- hS,<- iF,Int.emod_emod_of_dvd _ (Int.dvd_mul_right S T)];exact Int.mul_emod_left _ _
    rw[or_comm,OC _ _ s ⟨r0,r1⟩ (hI.bL k).1 (by rw[<- hS];exact hI.low) (hI.bL k).2 hm,Int.add_comm]
   have e3:lg a k / 2^(64-s)=lg a k / T:=by rw[hT]
   have HI:=Lib.hid hI;have HST:=Lib.hid (And.intro s2 (And.intro s3 (And.intro s4 s5)));clear hI cC s1 s2 s3 s4 s5 hS hT dI qb iF r0 r1;go_wp2
   have hib:=eq_true (show(k:Int)<(n:Int)+1 by omega);have XC:=eq_true (show(0:Int)<=(k:Int) by omega);go_still_tail 9,(by kernel_rfl)
   change wpList _ _ _ _ _ wr.drew;have aBV:=((HI.out.blk.set k (lg L' k+lg a k*S%B))).cell (k+1) (by rw[List.length_set,HI.out.len];omega);have aBW:=((HI.out.blk.set k (lg L' k+lg a k*S%B))).free (k+1);clear hib XC;go_wp2
   obtain⟨s2,s3,s4,s5⟩:=HST.out;exact⟨⟨k+1,_,by omega,by go_num,⟨(HI.out.blk.set _ _).set _ _,by rw[List.length_set,List.length_set];exact HI.out.len,s2,s3,s4,s5,((HI.out.only.set _ _).set _ _).dr⟩⟩,by simp[intOf];omega⟩
  ·have he:k=n:=by omega
   subst he;have h1:decide ((k:Int)<(k:Int))=false:=by simp
   have hlv:lv L'=S*lv a:=by
    have h2:=hI.val;rw[<- hI.len,fj]at h2
    rw[h2];unfold lv;rw[HN.out]
   have HF:=Lib.hid hlv;have HI:=Lib.hid hI;clear hI hlv;go_wp2
   go_ret
   exact⟨g,L',rfl,by rw[xT.out];exact HG,HI.out.blk,HI.out.len,HI.out.bL,HF.out,by rw[xT.out];exact bW.below n9.out HI.out.only (Nat.le_refl _)⟩
structure af2 (g n:Nat) (a:List Int) (S:Int) (w:World) (k:Nat) (L:List Int) (w1:World):Prop where
 blk:cV w1 g L
 len:L.length=n
 bL:aH L
 val:win L 0 k*S=aQ (lg a) k-lg a 0%S+lg a k%S*B^k
 only:bW g w w1
def af3 (v:Int) (w:World) (e:Ending) (w':World):Prop:=∃ x r,e = .returned x/\qz w' x r/\aH r/\Tr r/\lv r=v/\Below w.heap.size w w'
theorem akF {w wr:World} {A:Option Addr} {L:List Int} {n nd:Nat} {v:Int} (hn:L.length=n) (hr:RL wr A L) (hl:aH L) (hv:lv L=v) (hb:Below w.heap.size w wr) :
  af3 v w (.returned (.slice A (bG L n) (bG L n))) (wr.drewN nd):=by
 subst hn;exact⟨_,L.take (bG L L.length),rfl,⟨A,_,by rw[gK],by rw[gK];exact Nat.le_refl _,(hr.take _).dP _⟩,hl.take _,lF _,by rw[eH];exact hv,iy hb _⟩
theorem ajz (A0:Option Addr) (n c0 s:Nat) (a:List Int) (v:Int) (hn:a.length=n) (gP:n<=5000) (hs:s<=63) (w:World) (ha:RL w A0 a) (hla:aH a) (hv:lv a=v*2^s) :
  Calls Tryz.prog 134 #[.slice A0 n c0,.int .i64 s] w (af3 v w):=by
 obtain⟨S,hS⟩:∃ S:Int,S=2^s:=⟨_,rfl⟩
 have dI:0<S:=by rw[hS];exact Int.pow_pos (by decide)
 obtain⟨T,hT⟩:∃ T:Int,T=2^(64-s):=⟨_,rfl⟩
 have qb:0<T:=by rw[hT];exact Int.pow_pos (by decide)
 have iF:S*T=B:=by
  rw[hS,hT,<- Int.pow_add,show s+(64-s)=64 by omega];rfl
 rw[<- hS]at hv
 have hb1:Below w.heap.size w (w.alloc (.cells (madeCells #[.int .u64 0] n) 122)):=(Below.refl _ _).alloc (Nat.le_refl _) _;have dz:=sj w n;have hx1:=ha.below hb1 (Nat.le_refl _);have jl:0<a.length->∀ ad,A0=some ad->ad.block≠w.heap.size:=fun h ad e=>Nat.ne_of_lt (ha.lt h ad e);have hmk:=r_ n aD;have HN:=Lib.hid hn;have tv:=Lib.hid hla;have HV:=Lib.hid hv;have HP:=Lib.hid (And.intro hS (And.intro hT (And.intro dI (And.intro qb iF))));clear hn hla hS hT dI qb iF ha hv;go_enter Tryz.func134,Tryz.ntmps134;go_wp2
 generalize hw3:w.alloc (.cells (madeCells #[.int .u64 0] n) 122)=w3 at *;have HG:w.heap.size<=w.heap.size:=Nat.le_refl _;generalize hg:w.heap.size=g at HG hb1 dz jl ⊢;have j5:=Lib.hid (show af2 g n a S w3 0 (List.replicate n 0) w3 from ⟨dz,by simp,jd _,by simp[win,aQ];omega,bW.refl _ _⟩);have HX:=Lib.hid hx1;have p_:=Lib.hid jl;have n9:=Lib.hid hb1;have xT:=Lib.hid hg;clear dz hx1 jl hb1 hw3 hmk hg;go_loopw [6,7,13] (fun _ _ t w4=>∃ (k:Nat) (L':List Int),k<=n/\t = .int .i64 k/\af2 g n a S w3 k L' w4) (fun _ _ t _=>n-(intOf t).toNat)
 case atStart=>exact⟨0,_,Nat.zero_le _,rfl,j5.out⟩
 case round =>
  obtain⟨k,L',hk,rfl,hI⟩:=hrel;by_cases hlt:k<n
  ·have h1:decide ((k:Int)<(n:Int))=true:=by simp;omega
   obtain⟨ad,rfl,cC⟩:=(HX.out.only hI.only p_.out).2 (by have:=HN.out;omega);have hc2:=cC k (by have:=HN.out;omega);obtain⟨hS,hT,dI,qb,iF⟩:=HP.out;have aBX:=hI.blk.cell k (by rw[hI.len];omega);have aBY:=hI.blk.free k;obtain⟨s1,s2,s3,s4,s5⟩:=akE dI qb iF (by rw[hI.len];omega) hI.bL tv.out hI.val;have e0:lg a k / 2^s=lg a k / S:=by rw[hS]
   have hce:=(hI.blk.set k (lg a k / S)).cell k (by rw[List.length_set,hI.len];omega);rw[cO,if_pos ⟨rfl,by rw[hI.len];omega⟩]at hce
   have hfr:=(hI.blk.set k (lg a k / S)).free k;by_cases hk1:k+1<n
   ·have h2:decide ((k:Int)+1<(n:Int))=true:=by simp;omega
    have hc3:=cC (k+1) (by have:=HN.out;omega);have e1:IntKind.u64.wrap (lg a (k+1)*2^(64-s))=lg a (k+1)*T%B:=by rw[<- hT,IntKind.wrap_u64];rfl
    have e2:bits .or .u64 (lg a k / S) (lg a (k+1)*T%B)=lg a k / S+lg a (k+1)*T%B:=by
     rw[or_comm,OC _ _ (64-s) s3 s1.1 (by rw[<- hT];exact s1.2.1) s1.2.2 (by rw[<- hT];exact s2),Int.add_comm]
    have atF:=((HX.out.only (hI.only.set k (.int .u64 (lg a k / S))) p_.out).2 (by have:=HN.out;omega))
    obtain⟨zZ,had,af4⟩:=atF;cases had;have tB:=af4 (k+1) (by have:=HN.out;omega);have HI:=Lib.hid (And.intro (hI.blk.set k (lg a k / S)) (And.intro (hI.only.set k (.int .u64 (lg a k / S))) hI.len));have HCE:=Lib.hid (And.intro hce (And.intro hfr tB));have HST:=Lib.hid (And.intro s4 s5);clear hI cC s1 s2 s3 s4 s5 hS hT dI qb iF hce hfr hc3 af4 tB;have hib:=eq_true (show(k:Int)<(n:Int) by omega);have XC:=eq_true (show(0:Int)<=(k:Int) by omega);have atG:=eq_true (show(0:Int)<=(k:Int)+1 by omega);have atH:=eq_true (show(k:Int)+1<(n:Int) by omega);go_wp2
    obtain⟨hce,hfr,tB⟩:=HCE.out;rw[show ad.add (k+1)=⟨ad.block,ad.off+(k+1),none⟩ by simp[Addr.add]]at tB
    generalize wr.setCell ⟨g,k,none⟩ (.int .u64 (lg a k / S))=wr2 at *;have w1:=IntWalk.i64_in ((k:Int)+1) aD;have w2:=IntWalk.i64_in (64-(s:Int)) aD;have w3:((k:Int)+1).toNat=k+1:=by omega
    have w4:(64-(s:Int)).toNat=64-s:=by omega
    have w5:=eq_true (show(0:Int)<=64-(s:Int) by omega);go_still_tail 14,(by kernel_rfl)
    change wpList _ _ _ _ _ wr2.drew;clear hib XC atG atH w1 w2 w3 w4 w5;go_wp2
    obtain⟨i1,i2,i3⟩:=HI.out;obtain⟨s4,s5⟩:=HST.out;have hss:=i1.set k (lg a k / S+lg a (k+1)*T%B);rw[List.set_set]at hss
    exact⟨⟨k+1,_,by omega,by go_num,⟨hss,by rw[List.length_set];exact i3,s4,s5,(i2.set _ _).dr⟩⟩,by simp[intOf];omega⟩
   ·have h2:decide ((k:Int)+1<(n:Int))=false:=by simp;omega
    have hz:lg a (k+1)=0:=oz (by have:=HN.out;omega);rw[hz]at s5 s4
    simp only[Int.zero_mul,Int.zero_emod,Int.add_zero]at s4 s5;have HI:=Lib.hid hI;have HST:=Lib.hid (And.intro s4 s5);clear hI cC s1 s2 s3 s4 s5 hS hT dI qb iF hce hfr;go_wp2
    obtain⟨s4,s5⟩:=HST.out;exact⟨⟨k+1,_,by omega,by go_num,⟨HI.out.blk.set _ _,by rw[List.length_set];exact HI.out.len,s4,by rw[s5,hz];simp,HI.out.only.set _ _⟩⟩,by simp[intOf];omega⟩
  ·have he:k=n:=by omega
   subst he;have h1:decide ((k:Int)<(k:Int))=false:=by simp
   obtain⟨hS,hT,dI,qb,iF⟩:=HP.out;have hlv:=alp dI iF hI.len HN.out HV.out hI.val;have HF:=Lib.hid hlv;have HR:=Lib.hid (hI.blk.RL (by rw[hI.len];omega));have HI:=Lib.hid hI;clear hI hlv hS hT dI qb iF;go_wp2_with fail
   refine(lD _ _ _ L' HI.out.len aD _ HR.out).mono ?_;rintro e w7 ⟨rfl,⟨YY,rfl⟩⟩;go_wp2
   go_ret
   exact akF HI.out.len HR.out HI.out.bL HF.out (by rw[xT.out];exact bW.below n9.out HI.out.only (Nat.le_refl _))
structure adg (g n:Nat) (a:List Int) (x:Int) (w:World) (k:Nat) (r:Int) (L:List Int) (w1:World):Prop where
 blk:cV w1 g L
 len:L.length=n
 bL:aH L
 rest:0<=r/\r<x
 val:win L k (n-k)*x+r=win a k (n-k)
 only:∃ nd w2,bW g w w2/\w1=w2.drewN nd
def adh (v x:Int) (w:World) (e:Ending) (w':World):Prop:=∃ y q,e = .returned (.tuple #[y,.int .u64 (v%x)])/\qz w' y q/\aH q/\Tr q/\lv q=v / x/\Below w.heap.size w w'
theorem ajh {w wr:World} {A:Option Addr} {L:List Int} {n nd:Nat} {v x:Int} (hn:L.length=n) (hr:RL wr A L) (hl:aH L) (hv:lv L=v / x) (hb:Below w.heap.size w wr) :
  adh v x w (.returned (.tuple #[.slice A (bG L n) (bG L n),.int .u64 (v%x)])) (wr.drewN nd):=by
 subst hn;exact⟨_,L.take (bG L L.length),rfl,⟨A,_,by rw[gK],by rw[gK];exact Nat.le_refl _,(hr.take _).dP _⟩,hl.take _,lF _,by rw[eH];exact hv,iy hb _⟩
theorem alr (A0:Option Addr) (n c0:Nat) (a:List Int) (x:Int) (hn:a.length=n) (gP:n<=5000) (hx:0<x/\x<B) (w:World) (ha:RL w A0 a) (hla:aH a) :
  Calls Tryz.prog 128 #[.slice A0 n c0,.int .u64 x] w (adh (lv a) x w):=by
 have hb1:Below w.heap.size w (w.alloc (.cells (madeCells #[.int .u64 0] n) 122)):=(Below.refl _ _).alloc (Nat.le_refl _) _;have dz:=sj w n;have hx1:=ha.below hb1 (Nat.le_refl _);have jl:0<a.length->∀ ad,A0=some ad->ad.block≠w.heap.size:=fun h ad e=>Nat.ne_of_lt (ha.lt h ad e);have hmk:=r_ n aD;have HN:=Lib.hid hn;have tv:=Lib.hid hla;have Sa:=Lib.hid hx;clear hn hla ha hx;go_enter Tryz.func128,Tryz.ntmps128;go_wp2
 generalize hw3:w.alloc (.cells (madeCells #[.int .u64 0] n) 122)=w3 at *;have HG:w.heap.size<=w.heap.size:=Nat.le_refl _;generalize hg:w.heap.size=g at HG hb1 dz jl ⊢;have j5:=Lib.hid (show adg g n a x w3 n 0 (List.replicate n 0) w3 from ⟨dz,by simp,jd _,⟨Int.le_refl _,Sa.out.1⟩,by simp[win,aQ],0,w3,bW.refl _ _,rfl⟩);have HX:=Lib.hid hx1;have p_:=Lib.hid jl;have n9:=Lib.hid hb1;have xT:=Lib.hid hg;clear dz hx1 jl hb1 hw3 hmk hg;go_loopw [5,6] (fun rv t w4=>∃ (k:Nat) (r:Int) (L':List Int),k<=n/\t = .int .i64 ((k:Int)-1)/\rv = .int .u64 r/\adg g n a x w3 k r L' w4) (fun _ t _=>(intOf t+1).toNat)
 case atStart=>exact⟨n,0,_,Nat.le_refl _,rfl,rfl,j5.out⟩
 case round =>
  obtain⟨k,r,L',hk,rfl,rfl,hI⟩:=hrel;cases k with
  | succ k =>
   have h1:decide (0<=((k+1:Nat):Int)-1)=true:=by simp
   have e1:((k+1:Nat):Int)-1=(k:Int):=by omega
   rw[e1]at h1 ⊢
   clear e1;obtain⟨nd,w5,ho,rfl⟩:=hI.only;obtain⟨ad,rfl,cC⟩:=(HX.out.only ho p_.out).2 (by have:=HN.out;omega);have hc2:=cC k (by have:=HN.out;omega);have hblk:cV w5 g L':=hI.blk;have hce:=hblk.cell k (by rw[hI.len];omega);have hfr:=hblk.free k;have hm:n-k=n-(k+1)+1:=by omega
   have hst:=ajf (m:=n-(k+1)) Sa.out hI.rest (by rw[hI.len];omega) hI.bL tv.out hI.val;have HD:=Lib.hid (abk r (lg a k) x hI.rest (tv.out k) Sa.out.2);have HST:=Lib.hid hst;have HI:=Lib.hid (And.intro hblk (And.intro hI.len ho));have HM:=Lib.hid hm;have hkn:(k:Int)<(n:Int):=by omega
   clear hI cC hst ho hm hblk;go_wp2_with fail
   refine(HD.out _).mono ?_;rintro e w' ⟨rfl,⟨tA,rfl⟩⟩;go_wp2
   obtain⟨i1,i2,i3⟩:=HI.out;obtain⟨s1,s2,s3,s4⟩:=HST.out;refine⟨⟨k,_,_,by omega,by go_num,rfl,⟨i1.set _ _,by rw[List.length_set];exact i2,s3,s2,by rw[HM.out];exact s4,?_⟩⟩,by simp[intOf]⟩;exact⟨_,_,i3.set _ _,rfl⟩
  | zero =>
   have h1:decide (0<=((0:Nat):Int)-1)=false:=by simp
   obtain⟨nd,w5,ho,rfl⟩:=hI.only;have hval:lv L'=lv a / x/\r=lv a%x:=by
    have h2:=hI.val;have h3:=hI.len;rw[Nat.sub_zero]at h2
    have e1:win L' 0 n=lv L':=by rw[<- h3];exact fj L'
    have e2:win a 0 n=lv a:=by rw[<- HN.out];exact fj a
    rw[e1,e2]at h2
    have:=hI.rest;obtain⟨g1,g2⟩:=U_ (U:=lv a) (q:=lv L') Sa.out.1 aD aD;exact⟨g1.symm,by omega⟩
   have HF:=Lib.hid hval;have HR:=Lib.hid (hI.blk.RL (by rw[hI.len];omega));have HI:=Lib.hid (And.intro hI.len (And.intro hI.bL ho));clear hI hval ho;go_wp2_with fail
   refine(lD _ _ _ L' HI.out.1 aD _ HR.out).mono ?_;rintro e w7 ⟨rfl,⟨YY,rfl⟩⟩;go_wp2
   go_ret2
   obtain⟨i1,i2,i3⟩:=HI.out;rw[HF.out.2];exact ajh i1 HR.out i2 HF.out.1 (by rw[xT.out];first|exact iy (bW.below n9.out i3 (Nat.le_refl _)) _|exact bW.below n9.out i3 (Nat.le_refl _))
def Rq (v d:Int) (w:World) (e:Ending) (w':World):Prop:=∃ x y q r,e = .returned (.tuple #[x,y,.int .i64 0])/\qz w' x q/\qz w' y r/\aH q/\Tr q/\aH r/\Tr r/\lv q=v / d/\lv r=v%d/\Below w.heap.size w w'
theorem div_zero (A0 A1:Option Addr) (n m c0 c1:Nat) (a b:List Int) (hn:a.length=n) (hm:b.length=m) (gP:n<=4000) (kE:m<=4000) (hc0:n<=c0) (hc1:m<=c1) (w:World) (ha:RL w A0 a) (hb:RL w A1 b) (hlb:aH b) (hd:lv b=0) :
  Calls Tryz.prog 118 #[.slice A0 n c0,.slice A1 m c1] w fun e w'=>e = .returned (.tuple #[.slice none 0 0,.slice none 0 0,.int .i64 3])/\Below w.heap.size w w':=by
 have hb0:Below w.heap.size w (w.alloc (.cells #[.slice A0 n c0,.slice A1 m c1] 124)):=(Below.refl _ _).alloc (Nat.le_refl _) _;have lH:=Lib.hid (ha.below hb0 (Nat.le_refl _));have bI:=Lib.hid (hb.below hb0 (Nat.le_refl _));have HN:=Lib.hid hn;have HM:=Lib.hid hm;have h0:bG b m=0:=by
  rw[<- hm,<- gK];have:=iu (lF b) (hlb.take _) (k:=0) (by rw[eH,hd];exact Bp 0);omega
 have H0:=Lib.hid h0;have HS:=Lib.hid hb0;clear ha hb hn hm hlb hd hb0 h0;go_enter Tryz.func118,Tryz.ntmps118;go_wp2_with fail
 refine(CX _ _ _ _ _ _ _ gP kE).mono ?_;rintro e w' ⟨rfl,rfl⟩;go_wp2_with fail
 refine(lD _ _ _ a HN.out hc0 _ lH.out).mono ?_;rintro e w5 ⟨rfl,⟨nd,rfl⟩⟩;go_wp2_with fail
 refine(lD _ _ _ b HM.out hc1 _ (bI.out.dP _)).mono ?_;rintro e w5 ⟨rfl,⟨tA,rfl⟩⟩;rw[H0.out];go_wp2
 go_ret3
 exact⟨rfl,iy HS.out _⟩
theorem ao9 (w:World) (r:Int):RL (w.alloc (.cells #[.int .u64 r] 122)) (some ⟨w.heap.size,0,none⟩) [r] :=
 ⟨by simp,fun _=>⟨_,rfl,fun j hj=>by
  have:j=0:=by simp at hj;exact hj
  subst this
  simp[Addr.add,go_sem,lg]⟩⟩
theorem qz.below {B:Nat} {w w1:World} {v:Value} {r:List Int} (h:qz w v r) (ho:Below B w w1) (hB:w.heap.size<=B):qz w1 v r:=by
 obtain⟨A,c,rfl,h1,h2⟩:=h;exact⟨A,c,rfl,h1,h2.below ho hB⟩
theorem als {r:Int} (h:0<=r/\r<B):aH [r]:=fun j=>by
 cases j with
 | zero=>exact h
 | succ j=>rw[oz (by simp)];exact⟨Int.le_refl _,by decide⟩
theorem abl:aH []:=fun j=>by rw[oz (by simp)];exact⟨Int.le_refl _,by decide⟩
theorem aji {w:World} {g m cap:Nat} {l:List Int} (h:cV w g l) (hl:l.length=m) (hm:m<=100000) (hc:m<=cap):qz w (.slice (some ⟨g,0,none⟩) m cap) l :=
 ⟨_,cap,by rw[hl],by rw[hl];exact hc,h.RL aD⟩
theorem ajA (w:World):qz w (.slice none 0 0) []:=⟨none,0,rfl,Nat.le_refl _,by simp,fun h=>by simp at h⟩
theorem UR (A0 A1:Option Addr) (n m c0 c1:Nat) (a b:List Int) (hn:a.length=n) (hm:b.length=m) (gP:n<=4000) (kE:m<=4000) (hc0:n<=c0) (hc1:m<=c1) (w:World) (ha:RL w A0 a) (hb:RL w A1 b) (hla:aH a) (hlb:aH b) (hlt:lv a<lv b) :
  Calls Tryz.prog 118 #[.slice A0 n c0,.slice A1 m c1] w (Rq (lv a) (lv b) w):=by
 have hb0:Below w.heap.size w (w.alloc (.cells #[.slice A0 n c0,.slice A1 m c1] 124)):=(Below.refl _ _).alloc (Nat.le_refl _) _;have lH:=Lib.hid (ha.below hb0 (Nat.le_refl _));have bI:=Lib.hid (hb.below hb0 (Nat.le_refl _));have HN:=Lib.hid hn;have HM:=Lib.hid hm;have k7:=lN (hla.take (bG a a.length)) (hlb.take (bG b b.length)) (lF a) (lF b);rw[eH,eH,gK,gK,hn,hm,yL hlt]at k7
 have hpl:=gK a;have ju:=gK b;have h0:bG b m≠0:=by
  intro h;rw[hm,h]at ju
  have h1:=eH b;rw[hm,h]at h1
  have:=(dF hla).1;simp[nZ]at h1
  omega
 have h0b:((bG b m:Int)==0)=false:=beq_eq_false_iff_ne.mpr aD;have lU:lv (a.take (bG a n))=lv a:=by rw[<- hn];exact eH a
 have GG:Tr (a.take (bG a n)):=by rw[<- hn];exact lF a
 rw[hn]at hpl
 rw[hm]at ju
 have J1:=qU a n;have HP:=Lib.hid hpl;have HQ:=Lib.hid ju;have HO:=Lib.hid k7;have HS:=Lib.hid hb0;have HF:=Lib.hid (And.intro lU (And.intro GG (And.intro (hla.take (bG a n)) (And.intro (dF hla).1 hlt))));clear ha hb hn hm hla hlb hpl ju hb0 k7 hlt h0 lU GG;go_enter Tryz.func118,Tryz.ntmps118;go_wp2_with fail
 refine(CX _ _ _ _ _ _ _ gP kE).mono ?_;rintro e w' ⟨rfl,rfl⟩;go_wp2_with fail
 refine(lD _ _ _ a HN.out hc0 _ lH.out).mono ?_;rintro e w5 ⟨rfl,⟨nd,rfl⟩⟩;go_wp2_with fail
 refine(lD _ _ _ b HM.out hc1 _ (bI.out.dP _)).mono ?_;rintro e w5 ⟨rfl,⟨tA,rfl⟩⟩;go_wp2_with fail
 refine(Ez _ _ _ _ _ _ _ _ HP.out HQ.out _ ((lH.out.take _).dP _) ((bI.out.take _).dP _)).mono ?_;rintro e w5 ⟨rfl,⟨DG,rfl⟩⟩;rw[HO.out];go_wp2_with (at_builtin;refine abj rfl (.tmp 34) (.tmp 35) rfl _ (w.heap.size+1) (bG a n) (bG a n) A0 (a.take (bG a n)) rfl rfl ?_ HP.out aD ?_ ?_;exact aap _ _ _ (by simp);exact((lH.out.take _).dP _).below ((Below.refl _ _).alloc (Nat.le_refl _) _) (Nat.le_refl _);intro g cap w2 hk hg hb2 hcap)
 go_ret3
 obtain⟨f1,f2,f3,f4,f5⟩:=HF.out;have hb3:Below w.heap.size w w2:=(iy HS.out (nd+tA+DG)).trans ((((Below.refl _ _).alloc (by simp) _).trans hb2).mono aD);exact⟨_,_,[],_,rfl,ajA _,aji hk HP.out aD hcap,abl,.inl rfl,f3,f2,by rw[nZ,Int.ediv_eq_zero_of_lt f4 f5],by rw[f1,Int.emod_eq_of_lt f4 f5],hb3⟩
theorem div_one (A0 A1:Option Addr) (n m c0 c1:Nat) (a b:List Int) (hn:a.length=n) (hm:b.length=m) (gP:n<=4000) (kE:m<=4000) (hc0:n<=c0) (hc1:m<=c1) (w:World) (ha:RL w A0 a) (hb:RL w A1 b) (hla:aH a) (hlb:aH b)
  (hle:lv b<=lv a) (h1:bG b m=1) :
  Calls Tryz.prog 118 #[.slice A0 n c0,.slice A1 m c1] w (Rq (lv a) (lv b) w):=by
 have hb0:Below w.heap.size w (w.alloc (.cells #[.slice A0 n c0,.slice A1 m c1] 124)):=(Below.refl _ _).alloc (Nat.le_refl _) _;have lH:=Lib.hid (ha.below hb0 (Nat.le_refl _));have hb1:=hb.below hb0 (Nat.le_refl _);have bI:=Lib.hid hb1;have HN:=Lib.hid hn;have HM:=Lib.hid hm;have k7:=lN (hla.take (bG a a.length)) (hlb.take (bG b b.length)) (lF a) (lF b);rw[eH,eH,gK,gK,hn,hm]at k7
 have h2:decide (dY (lv a) (lv b)<0)=false:=by
  rcases tP (lv a) (lv b) with ⟨h,hc⟩|⟨h,hc⟩|⟨h,hc⟩ <;> rw[hc] <;> first|rfl|omega
 rw[<- k7]at h2
 have hpl:=gK a;have ju:=gK b;rw[hn]at hpl
 rw[hm]at ju
 have lU:lv (a.take (bG a n))=lv a:=by rw[<- hn];exact eH a
 have qG:lv (b.take (bG b m))=lv b:=by rw[<- hm];exact eH b
 have htb:Tr (b.take (bG b m)):=by rw[<- hm];exact lF b
 have J1:=qU a n;have BB:=qU b m;have XD:=hlb.take (bG b m);rw[h1]at ju qG htb XD h2
 have hb2:=hb1.take 1;generalize hy:b.take 1=y at *;have hy0:lv y=lg y 0:=by unfold lv;rw[ju];simp[aQ]
 have hyp:0<lg y 0/\lg y 0<B:=by
  have:=XD 0;rcases htb with h|h
  ·omega
  ·rw[ju]at h
   exact⟨by have:lg y 0≠0:=h;omega,this.2⟩
 obtain⟨bd,rfl,hcb⟩:=hb2.2 aD;have hcb0:=hcb 0 aD;have aBZ:(w.alloc (.cells #[.slice A0 n c0,.slice (some bd) m c1] 124)).cell? bd=some (.int .u64 (lg y 0)):=hcb0;have HP:=Lib.hid hpl;have HQ:=Lib.hid ju;have HO:=Lib.hid h2;have H1:=Lib.hid h1;have HS:=Lib.hid hb0;have HY:=Lib.hid hb2;have HF:=Lib.hid (And.intro lU (And.intro (hla.take (bG a n)) (And.intro (qG.symm.trans hy0) hyp)));clear ha hb hn hm hla hlb hpl ju hb0 k7 h2 lU qG htb XD hy hy0 hyp h1 hb2 hcb hcb0 hb1;go_enter Tryz.func118,Tryz.ntmps118;go_wp2_with fail
 refine(CX _ _ _ _ _ _ _ gP kE).mono ?_;rintro e w' ⟨rfl,rfl⟩;go_wp2_with fail
 refine(lD _ _ _ a HN.out hc0 _ lH.out).mono ?_;rintro e w5 ⟨rfl,⟨nd,rfl⟩⟩;go_wp2_with fail
 refine(lD _ _ _ b HM.out hc1 _ (bI.out.dP _)).mono ?_;rintro e w5 ⟨rfl,⟨tA,rfl⟩⟩;rw[H1.out];go_wp2_with fail
 refine(Ez _ _ _ _ _ _ _ y HP.out HQ.out _ ((lH.out.take _).dP _) (HY.out.dP _)).mono ?_;rintro e w5 ⟨rfl,⟨DG,rfl⟩⟩;have DM:=HO.out;go_wp2_with fail
 refine(alr A0 _ _ _ (lg y 0) HP.out aD HF.out.2.2.2 _ ((lH.out.take _).dP _) HF.out.2.1).mono ?_;rintro e w5 ⟨u,qq,rfl,hq1,J3,z_,BB,Sb⟩;obtain⟨f1,f2,f3,f4⟩:=HF.out;have dm:0<=lv (a.take (bG a n))%lg y 0:=Int.emod_nonneg _ aD;have hr1:lv (a.take (bG a n))%lg y 0<lg y 0:=Int.emod_lt_of_pos _ f4.1;rw[f1]at dm hr1 BB ⊢
 rw[<- f3]at dm hr1 BB f4 ⊢
 generalize uD:lv a%lv b=rr at *;have HQ1:=Lib.hid (And.intro hq1 (And.intro J3 (And.intro z_ (And.intro BB (And.intro Sb uD)))));have HR:=Lib.hid (ao9 w5 rr);have HL:=Lib.hid (als (r:=rr) ⟨dm,by omega⟩);clear hq1 J3 z_ BB Sb f1 f2 f3 f4 dm hr1 uD;go_wp2_with fail
 refine(lD _ 1 _ [rr] rfl (Nat.le_refl _) _ HR.out).mono ?_;rintro e w6 ⟨rfl,⟨nd6,rfl⟩⟩;go_wp2
 go_ret3
 obtain⟨hq1,J3,z_,BB,Sb,uD⟩:=HQ1.out;have cQ:Below w5.heap.size w5 ((w5.alloc (.cells #[.int .u64 rr] 122)).drewN nd6):=iy ((Below.refl _ _).alloc (Nat.le_refl _) _) _;have dD:=lF [rr];have hlv:=eH [rr];have hlen:=gK [rr];refine⟨_,_,qq,[rr].take (bG [rr] 1),rfl,hq1.below cQ (Nat.le_refl _),⟨_,_,by rw[show(1:Nat)=[rr].length from rfl,hlen];rfl,by rw[show(1:Nat)=[rr].length from rfl,hlen];exact Nat.le_refl _,(HR.out.take _).dP _⟩,J3,z_,HL.out.take _,dD,BB,?_,?_⟩
 ·rw[uD]
  refine hlv.trans ?_;simp[lv,aQ,lg]
 ·have hx:Below w.heap.size w w5:=(iy HS.out _).trans (Sb.mono (by simp))
  exact hx.trans (cQ.mono hx.size)
end Go.Proofs.YtfcjnhkkfmgmpaaGreat
