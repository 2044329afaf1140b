import Derived.Test.YtcmepkhjggpmeaaGreatZuG13
set_option linter.all false
set_option maxRecDepth 100000
set_option maxHeartbeats 8000000
namespace Go.Proofs.YtcmepkhjggpmeaaGreat
open Go.RowKit aP
def IR (w:World) (A:Option Addr) (m:Nat) (zs:List Int):Prop:=0<m->∃ ad,A=some ad/\∀ j,j<m->w.cell? (ad.add j)=some (.int .i64 (zs.getD j 0))
theorem IR.below {w w':World} {A:Option Addr} {m:Nat} {zs:List Int} {b:Nat} (h:IR w A m zs) (hb:Below b w w') (hz:b=w.heap.size):IR w' A m zs:=by
 intro h0;obtain⟨ad,e,hc⟩:=h h0;refine⟨ad,e,fun j hj=>?_⟩;exact(hb.cell (by rw[hz];exact World.block_lt_of_cell? _ _ (hc j hj))).trans (hc j hj)
def nx (k:Nat):Nat:=if k=2 then 0 else k+1
theorem uL (ad:Addr) (m j:Nat) (hj:0<j):ad.add (m+j)=⟨(ad.add m).block,(ad.add m).off+j,none⟩:=by
 unfold Addr.add;by_cases h:m=0
 ·subst h
  rw[if_pos rfl,if_neg aC,Nat.zero_add]
 ·rw[if_neg h,if_neg aC]
  simp only[Nat.add_assoc]
def mv (A0:Option Addr) (n0 c0:Nat) (A1:Option Addr) (n1 c1:Nat) (A2:Option Addr) (n2 c2:Nat):Array Value:=#[.slice A0 n0 c0,.slice A1 n1 c1,.slice A2 n2 c2]
theorem SL (A0 A1 A2:Option Addr) (n0 c0 n1 c1 n2 c2:Nat) (zs:List Int) (w:World) (hr:IR w A1 (3*n1) zs) (t k:Nat) (ht:t<n1) (hk:k<=2) (hn:n1<=100000) :
  Calls Tryz.prog 26 #[.agg #[.slice A0 n0 c0,.slice A1 n1 c1,.slice A2 n2 c2],.int .i64 t,.int .i64 k] w fun e w'=>e = .returned (.tuple #[.int .i64 (zs.getD (3*t+k) 0),.int .i64 (zs.getD (3*t+nx k) 0)])/\Below w.heap.size w w':=by
 have hb0:Below w.heap.size w (w.alloc (.cells #[.slice A0 n0 c0,.slice A1 n1 c1,.slice A2 n2 c2] 26)):=(Below.refl _ _).alloc (Nat.le_refl _) _;have hr2:=hr.below hb0 rfl;obtain⟨ad,rfl,hc⟩:=hr2 aC;have y0:=hc (t*3) aC;have y1:=hc (t*3+1) aC;have y2:=hc (t*3+2) aC;rw[uL _ _ _ (by decide)]at y1 y2
 rw[show zs.getD (t*3) 0=zs.getD (3*t) 0 by rw[Nat.mul_comm]]at y0
 rw[show zs.getD (t*3+1) 0=zs.getD (3*t+1) 0 by rw[Nat.mul_comm]]at y1
 rw[show zs.getD (t*3+2) 0=zs.getD (3*t+2) 0 by rw[Nat.mul_comm]]at y2
 have h1:((t:Int)<(n1:Int))=True:=eq_true aC;have h2:(t<n1)=True:=eq_true ht;have h3:((0:Int)<=(t:Int))=True:=eq_true aC;clear hr hr2 hc;have HB:=Lib.hid hb0;clear hb0;have hk3:k=0\/k=1\/k=2:=by omega
 rcases hk3 with rfl|rfl|rfl
 all_goals
  go_enter Tryz.func26,Tryz.ntmps26;go_wp2
  go_quiet (fail)
  go_wp2
  go_ret2
  exact⟨rfl,by first|exact HB.out|exact gI HB.out _⟩
def hit (zs:List Int) (a b:Int) (j:Nat):Prop:=zs.getD j 0=a/\zs.getD (3*(j / 3)+nx (j%3)) 0=b
instance (zs:List Int) (a b:Int) (j:Nat):Decidable (hit zs a b j):=by unfold hit;infer_instance
def bK (zs:List Int) (a b:Int):Nat->Option Nat
 | 0=>none
 | m+1=>match bK zs a b m with
  | some j=>some j
  | none=>if hit zs a b m then some m else none
theorem Mj {zs:List Int} {a b:Int}:∀ {m:Nat},bK zs a b m=none↔∀ j,j<m->¬ hit zs a b j:=by
 intro m;induction m with
 | zero=>exact⟨fun _ j hj=>absurd hj (Nat.not_lt_zero _),fun _=>rfl⟩
 | succ m ih =>
  unfold bK;constructor
  ·intro h j hj
   cases hf:bK zs a b m with
   | some x=>rw[hf]at h;cases h
   | none =>
    rw[hf]at h
    by_cases hh:hit zs a b m
    ·simp only[if_pos hh]at h;cases h
    ·rcases Nat.lt_succ_iff_lt_or_eq.1 hj with h1|h1
     ·exact ih.1 hf j h1
     ·subst h1;exact hh
  ·intro h
   rw[ih.2 (fun j hj=>h j aC)];exact if_neg (h m aC)
theorem alO {zs:List Int} {a b:Int} {j:Nat} (h:hit zs a b j) (h0:∀ i,i<j->¬ hit zs a b i):∀ m,j<m->bK zs a b m=some j:=by
 intro m;induction m with
 | zero=>intro hj;exact absurd hj (Nat.not_lt_zero _)
 | succ m ih =>
  intro hj;unfold bK;rcases Nat.lt_succ_iff_lt_or_eq.1 hj with h1|h1
  ·rw[ih h1]
  ·subst h1
   rw[Mj.2 h0];exact if_pos h
theorem FO {zs:List Int} {a b:Int}:∀ {m j:Nat},bK zs a b m=some j->j<m/\hit zs a b j/\∀ i,i<j->¬ hit zs a b i:=by
 intro m;induction m with
 | zero=>intro j h;cases h
 | succ m ih =>
  intro j h;unfold bK at h;cases hf:bK zs a b m with
  | some x =>
   rw[hf]at h
   have e:x=j:=Option.some.inj h;subst e;obtain⟨h1,h2,h3⟩:=ih hf;exact⟨by omega,h2,h3⟩
  | none =>
   rw[hf]at h
   by_cases hh:hit zs a b m
   ·simp only[if_pos hh]at h
    have e:m=j:=Option.some.inj h;subst e;exact⟨Nat.lt_succ_self _,hh,Mj.1 hf⟩
   ·simp only[if_neg hh]at h
    cases h
def fT (o:Option Nat):Int:=match o with|none => -1|some j=>((j / 3:Nat):Int)
def fK (o:Option Nat):Int:=match o with|none=>0|some j=>((j%3:Nat):Int)
structure yK (g:Nat) (w:World) (A0 A1 A2:Option Addr) (n0 c0 n1 c1 n2 c2:Nat) (zs:List Int) (a b:Int) (m:Nat) (wr:World):Prop where
 below:Below g w wr
 b0:wr.cell? ⟨g,0,none⟩=some (.slice A0 n0 c0)
 b1:wr.cell? ⟨g,1,none⟩=some (.slice A1 n1 c1)
 b2:wr.cell? ⟨g,2,none⟩=some (.slice A2 n2 c2)
 no:∀ j,j<m->¬ hit zs a b j
theorem yK.step {g:Nat} {w:World} {A0 A1 A2:Option Addr} {n0 c0 n1 c1 n2 c2:Nat} {zs:List Int} {a b:Int} {m:Nat} {wr w2:World} (h:yK g w A0 A1 A2 n0 c0 n1 c1 n2 c2 zs a b m wr) (hb:Below wr.heap.size wr w2):yK g w A0 A1 A2 n0 c0 n1 c1 n2 c2 zs a b m w2:=by
 have hl:=World.block_lt_of_cell? _ _ h.b0;exact⟨h.below.trans (hb.mono (by have:g<wr.heap.size:=hl;omega)),(hb.cell (p:=⟨g,0,none⟩) hl).trans h.b0,(hb.cell (p:=⟨g,1,none⟩) hl).trans h.b1,(hb.cell (p:=⟨g,2,none⟩) hl).trans h.b2,h.no⟩
theorem yK.more {g:Nat} {w:World} {A0 A1 A2:Option Addr} {n0 c0 n1 c1 n2 c2:Nat} {zs:List Int} {a b:Int} {m:Nat} {wr:World} (h:yK g w A0 A1 A2 n0 c0 n1 c1 n2 c2 zs a b m wr) (hn:¬ hit zs a b m):yK g w A0 A1 A2 n0 c0 n1 c1 n2 c2 zs a b (m+1) wr :=
 ⟨h.below,h.b0,h.b1,h.b2,fun j hj=>by
  rcases Nat.lt_succ_iff_lt_or_eq.1 hj with h1|h1
  ·exact h.no j h1
  ·subst h1;exact hn⟩
theorem kB {k:Nat} (h:k<=1000000):wrap64 ((k:Int)+1)=((k+1:Nat):Int):=by unfold wrap64;omega
theorem Jz (A0 A1 A2:Option Addr) (n0 c0 n1 c1 n2 c2:Nat) (zs:List Int) (w:World) (hr:IR w A1 (3*n1) zs) (a b:Int) (hn:n1<=100000) :
  Calls Tryz.prog 27 #[.agg #[.slice A0 n0 c0,.slice A1 n1 c1,.slice A2 n2 c2],.int .i64 a,.int .i64 b] w fun e w'=>e = .returned (.tuple #[.int .i64 (fT (bK zs a b (3*n1))),.int .i64 (fK (bK zs a b (3*n1)))])/\Below w.heap.size w w':=by
 have hI0:yK w.heap.size w A0 A1 A2 n0 c0 n1 c1 n2 c2 zs a b (3*0) (w.alloc (.cells #[.slice A0 n0 c0,.slice A1 n1 c1,.slice A2 n2 c2] 26)) :=
  ⟨(Below.refl _ _).alloc (Nat.le_refl _) _,by simp[go_sem],by simp[go_sem],by simp[go_sem],fun j hj=>absurd hj (Nat.not_lt_zero _)⟩
 have jw:=Lib.hid hI0;have HR:=Lib.hid hr;have HN:=Lib.hid hn;obtain⟨g,hg⟩:∃ g,w.heap.size=g:=⟨_,rfl⟩
 have HG:=Lib.hid hg;clear hI0 hr hn;go_enter Tryz.func27,Tryz.ntmps27;go_wp2
 rw[hg]at jw
 clear hg;go_loopw [8] (fun v wr=>∃ (t:Nat),t<=n1/\v = .int .i64 (t:Int)/\Hid (yK g w A0 A1 A2 n0 c0 n1 c1 n2 c2 zs a b (3*t) wr)) (fun v _=>n1-(intOf v).toNat)
 case atStart=>exact⟨0,Nat.zero_le _,rfl,jw⟩
 case round =>
  obtain⟨t,ht,rfl,hI⟩:=hrel;have q0:=hI.out.b0;have q1:=hI.out.b1;have q2:=hI.out.b2;by_cases htn:t<n1
  ·have h1:decide ((t:Int)<(n1:Int))=true:=decide_eq_true aC
   go_wp2
   go_loopw [9] (fun v wx=>∃ (k:Nat),k<=3/\v = .int .i64 (k:Int)/\Hid (yK g w A0 A1 A2 n0 c0 n1 c1 n2 c2 zs a b (3*t+k) wx)) (fun v _=>3-(intOf v).toNat)
   case atStart=>exact⟨0,by omega,rfl,hI⟩
   case round =>
    obtain⟨k,hk,rfl,hJ⟩:=hrel;have p0:=hJ.out.b0;have p1:=hJ.out.b1;have p2:=hJ.out.b2;by_cases hk3:k<3
    ·have h2:decide ((k:Int)<3)=true:=decide_eq_true aC
     have HE:=Lib.hid (SL A0 A1 A2 n0 c0 n1 c1 n2 c2 zs _ (HR.out.below hJ.out.below HG.out.symm) t k htn aC HN.out);have O3:=Lib.hid (show hit zs a b (3*t+k)↔(zs.getD (3*t+k) 0=a/\zs.getD (3*t+nx k) 0=b) by unfold hit;rw[show(3*t+k) / 3=t by omega,show(3*t+k)%3=k by omega]);have HK:=Lib.hid hk3;have HT:=Lib.hid htn;clear hk3 htn ht hk;obtain⟨x,hx⟩:∃ x,zs.getD (3*t+k) 0=x:=⟨_,rfl⟩
     obtain⟨y,hy⟩:∃ y,zs.getD (3*t+nx k) 0=y:=⟨_,rfl⟩
     rw[hx,hy]at HE O3
     clear hx hy;by_cases e1:x=a
     ·have f1:(x==a)=true:=beq_iff_eq.mpr e1
      by_cases e2:y=b
      ·have f2:(y==b)=true:=beq_iff_eq.mpr e2
       have HF:=Lib.hid (alO (O3.out.2 ⟨e1,e2⟩) hJ.out.no (3*n1) (by have:=HT.out;have:=HK.out;omega));clear e1 e2;go_wp2_with fail
       refine HE.out.mono ?_;rintro e w9 ⟨rfl,hb⟩;have HB:=Lib.hid (hJ.out.step hb).below;clear hb;go_wp2
       go_ret2
       have hk:=HK.out;have eT:fT (bK zs a b (3*n1))=(t:Int):=by rw[HF.out];show(((3*t+k) / 3:Nat):Int)=_;omega
       have eK:fK (bK zs a b (3*n1))=(k:Int):=by rw[HF.out];show(((3*t+k)%3:Nat):Int)=_;omega
       refine⟨?_,by rw[HG.out];exact HB.out⟩;rw[eT,eK];rfl
      ·have f2:(y==b)=false:=beq_eq_false_iff_ne.mpr e2
       have HF:=Lib.hid (fun h=>e2 (O3.out.1 h).2:¬ hit zs a b (3*t+k));clear e1 e2;go_wp2_with fail
       refine HE.out.mono ?_;rintro e w9 ⟨rfl,hb⟩;have HB:=Lib.hid (hJ.out.step hb);clear hb;go_wp2
       rw[kB (by have:=HK.out;omega)];exact⟨⟨k+1,by have:=HK.out;omega,rfl,Lib.hid (HB.out.more HF.out)⟩,by have:=HK.out;show 3-(((k+1:Nat):Int)).toNat<3-((k:Nat):Int).toNat;omega⟩
     ·have f1:(x==a)=false:=beq_eq_false_iff_ne.mpr e1
      have HF:=Lib.hid (fun h=>e1 (O3.out.1 h).1:¬ hit zs a b (3*t+k));clear e1;go_wp2_with fail
      refine HE.out.mono ?_;rintro e w9 ⟨rfl,hb⟩;have HB:=Lib.hid (hJ.out.step hb);clear hb;go_wp2
      rw[kB (by have:=HK.out;omega)];exact⟨⟨k+1,by have:=HK.out;omega,rfl,Lib.hid (HB.out.more HF.out)⟩,by have:=HK.out;show 3-(((k+1:Nat):Int)).toNat<3-((k:Nat):Int).toNat;omega⟩
    ·have h2:decide ((k:Int)<3)=false:=decide_eq_false aC
     go_wp2
     have h9:=HN.out;rw[kB aC];exact⟨⟨t+1,by omega,rfl,Lib.hid (by rw[show 3*(t+1)=3*t+k by omega];exact hJ.out)⟩,by show n1-(((t+1:Nat):Int)).toNat<n1-((t:Nat):Int).toNat;omega⟩
  ·have h1:decide ((t:Int)<(n1:Int))=false:=decide_eq_false aC
   go_wp2
   go_ret2
   refine⟨?_,by rw[HG.out];exact hI.out.below⟩;rw[Mj.2 (fun j hj=>hI.out.no j aC)];rfl
def pv (v:Int):Bool × ByteArray:=(decide (v<0),dW (v.natAbs:Int))
def ag (x:Bool × ByteArray):Value := .agg #[.bool x.1,.string x.2]
theorem aij (v:Int):o_ v=ag (pv v):=rfl
theorem amU {v:Int} {k:Nat} (h:v<256^k) (h0:0<=v):nb v<=k:=by
 rcases (show v=0\/0<v by omega) with h1|h1
 ·rw[h1,vN];exact Nat.zero_le _
 ·obtain⟨h2,h3,h4⟩:=Dc h1
  refine Nat.le_of_not_lt fun h5=>?_;have:=qz (show k<=nb v-1 by omega);omega
theorem Dd {v:Int} {k:Nat} (h:(v.natAbs:Int)<256^k):(pv v).2.size<=k:=by
 show(dW _).size<=k;rw[xh];exact amU h aC
theorem vO (v:Int):ival (pv v).1 (pv v).2=v:=by
 unfold ival pv bk;rw[RZ aC];by_cases h:v<0
 ·rw[if_pos (by simpa using h)];omega
 ·rw[if_neg (by simpa using h)];omega
theorem BD {v:Int} (h:(pv v).2.size<=32000):fC (pv v).1 (pv v).2:=by
 refine⟨h,Qn _ aC,fun hn=>?_⟩;have hn:v<0:=by simpa [pv] using hn
 show 0<(dW _).size;rw[xh];have:=(Dc (v:=(v.natAbs:Int)) aC).2.2;omega
theorem YI {n:Bool} {s:ByteArray} (h:fC n s):pv (ival n s)=(n,s):=by
 have h0:=(jg s).1;unfold pv ival;have e:((bk n (nv s)).natAbs:Int)=nv s:=FW h0;rw[e,R1 h.2.1];cases n with
 | false=>simp[bk];omega
 | true =>
  have h1:=h.2.2 rfl;have h2:nv s≠0:=by
   intro hz;have:=Qj h.2.1;rw[hz,vN]at this
   omega
  simp[bk];omega
def lJ (f:Int->Int->Int) (a b:Bool × ByteArray):(Bool × ByteArray) × Int:=if gJ a.1 a.2 b.1 b.2=0 then (pv (f (ival a.1 a.2) (ival b.1 b.2)),0) else ((false,⟨#[]⟩),gJ a.1 a.2 b.1 b.2)
theorem aik {f:Int->Int->Int} {a b:Bool × ByteArray} (h:gJ a.1 a.2 b.1 b.2=0):lJ f a b=(pv (f (ival a.1 a.2) (ival b.1 b.2)),0):=if_pos h
theorem SX {f:Int->Int->Int} {a b:Bool × ByteArray} {w:World} {e:Ending} {w':World} (h:Ej f a.1 a.2 b.1 b.2 w e w'):e = .returned (.tuple #[ag (lJ f a b).1,.int .i64 (lJ f a b).2])/\Below w.heap.size w w':=by
 refine⟨?_,h.2.2⟩;unfold lJ;split
 ·rename_i h0;exact h.2.1 h0
 ·rename_i h0;exact h.1 h0
theorem fM {n:Bool} {s:ByteArray} {k:Nat} (h:s.size<=k):((ival n s).natAbs:Int)<256^k:=by
 have h0:=(jg s).1;unfold ival;rw[FW h0];exact nE h
theorem Z7 {a b:Int} {k m:Nat} (ha:(a.natAbs:Int)<256^k) (hb:(b.natAbs:Int)<256^k) (hm:k+1<=m):((a+b).natAbs:Int)<256^m:=by
 have h3:=qz hm;rw[Ys]at h3
 generalize (256:Int)^m=u at *;generalize (256:Int)^k=u at *;omega
theorem Z8 {a b:Int} {k m:Nat} (ha:(a.natAbs:Int)<256^k) (hb:(b.natAbs:Int)<256^k) (hm:k+1<=m):((a-b).natAbs:Int)<256^m:=by
 have h3:=qz hm;rw[Ys]at h3
 generalize (256:Int)^m=u at *;generalize (256:Int)^k=u at *;omega
theorem uB {a b:Int} {k l m:Nat} (ha:(a.natAbs:Int)<256^k) (hb:(b.natAbs:Int)<256^l) (hm:k+l<=m):((a*b).natAbs:Int)<256^m:=by
 have h3:=qz hm;rw[Int.pow_add]at h3
 have hp:=Yp k;rw[Int.natAbs_mul,Int.natCast_mul];generalize (256:Int)^m=u at *;generalize (256:Int)^k=y at *;generalize (256:Int)^l=z at *;have h5:(a.natAbs:Int)*(b.natAbs:Int)<=(a.natAbs:Int)*z:=Int.mul_le_mul_of_nonneg_left aC aC;have h6:(a.natAbs:Int)*z<y*z:=Int.mul_lt_mul_of_pos_right ha aC;omega
theorem ar5 (n:Int) (h1 : -9223372036854775808<=n) (h2:n<=9223372036854775807) (w:World) :
  Calls Tryz.prog 62 #[.int .i64 n] w fun e w'=>e = .returned (o_ n)/\Below w.heap.size w w':=by
 have hb1:Below w.heap.size w (w.alloc (.cells #[.bool false,.string ⟨#[]⟩] 38)):=(Below.refl _ _).alloc (Nat.le_refl _) _;have d0:(w.alloc (.cells #[.bool false,.string ⟨#[]⟩] 38)).cell? ⟨w.heap.size,0,none⟩=some (.bool false):=by simp[go_sem]
 have d1:(w.alloc (.cells #[.bool false,.string ⟨#[]⟩] 38)).cell? ⟨w.heap.size,1,none⟩=some (.string ⟨#[]⟩):=by simp[go_sem]
 have d2:(w.alloc (.cells #[.bool false,.string ⟨#[]⟩] 38)).frozen? ⟨w.heap.size,0,none⟩=false:=by simp[go_sem]
 have d3:(w.alloc (.cells #[.bool false,.string ⟨#[]⟩] 38)).frozen? ⟨w.heap.size,1,none⟩=false:=by simp[go_sem]
 have hs1:(w.alloc (.cells #[.bool false,.string ⟨#[]⟩] 38)).heap.size=w.heap.size+1:=by simp
 obtain⟨w1,hw1⟩:∃ w1,w1=w.alloc (.cells #[.bool false,.string ⟨#[]⟩] 38):=⟨_,rfl⟩
 rw[<- hw1]at hb1 d0 d1 d2 d3 hs1
 have HW:=Lib.hid hw1;have HB:=Lib.hid hb1;have HS:=Lib.hid hs1;have HT:=fun (b:Bool) (x:Int) (hx:0<=x/\x<B)=>vQ b (some ⟨w1.heap.size,0,none⟩) 1 1 [x] rfl aC (Nat.le_refl _) (w1.alloc (.cells #[.int .u64 x] 140)) (SU w1 x) (Mx hx);have gT:∀ x:Int,Below w1.heap.size w1 (w1.alloc (.cells #[.int .u64 x] 140)):=fun x=>(Below.refl _ _).alloc (Nat.le_refl _) _;have EU:=Lib.hid gT;by_cases hn:n<0
 ·have t1:decide (n<0)=true:=by simp[hn]
  have a1:IntKind.i64.wrap (n+1)=n+1:=IntWalk.i64_in _ aC;have a2:IntKind.i64.wrap (-(n+1)) = -(n+1):=IntWalk.i64_in _ aC;have HV:=Lib.hid (HT true (-n) ⟨by omega,by rw[B_eq];omega⟩);have a3:IntKind.u64.wrap (-(n+1)) = -n-1:=by rw[bR _ ⟨by omega,by rw[B_eq];omega⟩];omega
  have a4:IntKind.u64.wrap (-n-1+1) = -n:=by rw[bR _ ⟨by omega,by rw[B_eq];omega⟩];omega
  have a5:IntKind.u64.wrap (-n) = -n:=by rw[bR _ ⟨by omega,by rw[B_eq];omega⟩]
  have HP:=Lib.hid (show bk true (lv [-n])=n by rw[SV];simp[bk]);have HX:=Lib.hid (show aG [-n] from Mx ⟨by omega,by rw[B_eq];omega⟩);clear hw1 hb1 hs1 HT gT hn h1 h2;go_enter Tryz.func62,Tryz.ntmps62;go_wp2_with fail
  rw[<- HW.out,show w.heap.size+1=w1.heap.size from HS.out.symm];refine(HV.out).mono ?_;rintro e w2 ⟨rfl,hb2⟩;have hb3:=(EU.out (-n)).trans (hb2.mono (by simp));have c0:=(hb3.cell (p:=⟨w.heap.size,0,none⟩) (by have:=HS.out;simp;omega)).trans d0;have c1:=(hb3.cell (p:=⟨w.heap.size,1,none⟩) (by have:=HS.out;simp;omega)).trans d1;have c2:=(hb3.frozen (p:=⟨w.heap.size,0,none⟩) (by have:=HS.out;simp;omega)).trans d2;have c3:=(hb3.frozen (p:=⟨w.heap.size,1,none⟩) (by have:=HS.out;simp;omega)).trans d3;have bX:=Lib.hid (HB.out.trans (hb3.mono HB.out.size));clear hb2 hb3 d0 d1 d2 d3;go_wp2
  refine bodyPost_ret (by simp[results,Tryz.results62,go_sem,c0,c1];try rfl) rfl ?_;exact⟨by rw[Be HX.out HP.out],(bX.out.setCell (by simp;try omega) _).setCell (by simp;try omega) _⟩
 ·have t1:decide (n<0)=false:=by simp;omega
  have HV:=Lib.hid (HT false n ⟨by omega,by rw[B_eq];omega⟩);have a5:IntKind.u64.wrap n=n:=by rw[bR _ ⟨by omega,by rw[B_eq];omega⟩]
  have HP:=Lib.hid (show bk false (lv [n])=n by rw[SV];simp[bk]);have HX:=Lib.hid (show aG [n] from Mx ⟨by omega,by rw[B_eq];omega⟩);clear hw1 hb1 hs1 HT gT hn h1 h2;go_enter Tryz.func62,Tryz.ntmps62;go_wp2_with fail
  rw[<- HW.out,show w.heap.size+1=w1.heap.size from HS.out.symm];refine(HV.out).mono ?_;rintro e w2 ⟨rfl,hb2⟩;have hb3:=(EU.out n).trans (hb2.mono (by simp));have c0:=(hb3.cell (p:=⟨w.heap.size,0,none⟩) (by have:=HS.out;simp;omega)).trans d0;have c1:=(hb3.cell (p:=⟨w.heap.size,1,none⟩) (by have:=HS.out;simp;omega)).trans d1;have c2:=(hb3.frozen (p:=⟨w.heap.size,0,none⟩) (by have:=HS.out;simp;omega)).trans d2;have c3:=(hb3.frozen (p:=⟨w.heap.size,1,none⟩) (by have:=HS.out;simp;omega)).trans d3;have bX:=Lib.hid (HB.out.trans (hb3.mono HB.out.size));clear hb2 hb3 d0 d1 d2 d3;go_wp2
  refine bodyPost_ret (by simp[results,Tryz.results62,go_sem,c0,c1];try rfl) rfl ?_;exact⟨by rw[Be HX.out HP.out],(bX.out.setCell (by simp;try omega) _).setCell (by simp;try omega) _⟩
end Go.Proofs.YtcmepkhjggpmeaaGreat
