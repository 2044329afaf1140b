import Derived.Shelf.Strings.Repeat
import Derived.Shelf.Small.Bits
import Derived.Test.YtfcjnhkkfmgmpaaGreatZtG1
import Derived.Lib.BitFns
import Derived.Lib.ItoaNum
import Derived.Laws.BitsLemmas
set_option linter.all false
set_option maxRecDepth 100000
set_option maxHeartbeats 8000000
namespace Go.Proofs.YtfcjnhkkfmgmpaaGreat
open Go.RowKit aS
def IR (w:World) (A:Option Addr) (m:Nat) (zs:List Int):Prop:=0<m->∃ ad,A=some ad/\∀ j,j<m->w.cell? (ad.add j)=some (.int .i64 (zs.getD j 0))
theorem IR.below {w w':World} {A:Option Addr} {m:Nat} {zs:List Int} {b:Nat} (h:IR w A m zs) (hb:Below b w w') (hz:b=w.heap.size):IR w' A m zs:=by
 intro h0;obtain⟨ad,e,hc⟩:=h h0;refine⟨ad,e,fun j hj=>?_⟩;exact(hb.cell (by rw[hz];exact World.block_lt_of_cell? _ _ (hc j hj))).trans (hc j hj)
def nx (k:Nat):Nat:=if k=2 then 0 else k+1
theorem xF (ad:Addr) (m j:Nat) (hj:0<j):ad.add (m+j)=⟨(ad.add m).block,(ad.add m).off+j,none⟩:=by
 unfold Addr.add;by_cases h:m=0
 ·subst h
  rw[if_pos rfl,if_neg aD,Nat.zero_add]
 ·rw[if_neg h,if_neg aD]
  simp only[Nat.add_assoc]
def mv (A0:Option Addr) (n0 c0:Nat) (A1:Option Addr) (n1 c1:Nat) (A2:Option Addr) (n2 c2:Nat):Array Value:=#[.slice A0 n0 c0,.slice A1 n1 c1,.slice A2 n2 c2]
theorem PW (A0 A1 A2:Option Addr) (n0 c0 n1 c1 n2 c2:Nat) (zs:List Int) (w:World) (hr:IR w A1 (3*n1) zs) (t k:Nat) (ht:t<n1) (hk:k<=2) (hn:n1<=100000) :
  Calls Tryz.prog 20 #[.agg #[.slice A0 n0 c0,.slice A1 n1 c1,.slice A2 n2 c2],.int .i64 t,.int .i64 k] w fun e w'=>e = .returned (.tuple #[.int .i64 (zs.getD (3*t+k) 0),.int .i64 (zs.getD (3*t+nx k) 0)])/\Below w.heap.size w w':=by
 have hb0:Below w.heap.size w (w.alloc (.cells #[.slice A0 n0 c0,.slice A1 n1 c1,.slice A2 n2 c2] 26)):=(Below.refl _ _).alloc (Nat.le_refl _) _;have hr2:=hr.below hb0 rfl;obtain⟨ad,rfl,hc⟩:=hr2 aD;have y0:=hc (t*3) aD;have y1:=hc (t*3+1) aD;have y2:=hc (t*3+2) aD;rw[xF _ _ _ (by decide)]at y1 y2
 rw[show zs.getD (t*3) 0=zs.getD (3*t) 0 by rw[Nat.mul_comm]]at y0
 rw[show zs.getD (t*3+1) 0=zs.getD (3*t+1) 0 by rw[Nat.mul_comm]]at y1
 rw[show zs.getD (t*3+2) 0=zs.getD (3*t+2) 0 by rw[Nat.mul_comm]]at y2
 have h1:((t:Int)<(n1:Int))=True:=eq_true aD;have h2:(t<n1)=True:=eq_true ht;have h3:((0:Int)<=(t:Int))=True:=eq_true aD;clear hr hr2 hc;have HB:=Lib.hid hb0;clear hb0;have hk3:k=0\/k=1\/k=2:=by omega
 rcases hk3 with rfl|rfl|rfl
 all_goals
  go_enter Tryz.func20,Tryz.ntmps20;go_wp2
  go_quiet (fail)
  go_wp2
  go_ret2
  exact⟨rfl,by first|exact HB.out|exact iy HB.out _⟩
def hit (zs:List Int) (a b:Int) (j:Nat):Prop:=zs.getD j 0=a/\zs.getD (3*(j / 3)+nx (j%3)) 0=b
instance (zs:List Int) (a b:Int) (j:Nat):Decidable (hit zs a b j):=by unfold hit;infer_instance
def bV (zs:List Int) (a b:Int):Nat->Option Nat
 | 0=>none
 | m+1=>match bV zs a b m with
  | some j=>some j
  | none=>if hit zs a b m then some m else none
theorem Oz {zs:List Int} {a b:Int}:∀ {m:Nat},bV zs a b m=none↔∀ j,j<m->¬ hit zs a b j:=by
 intro m;induction m with
 | zero=>exact⟨fun _ j hj=>absurd hj (Nat.not_lt_zero _),fun _=>rfl⟩
 | succ m ih =>
  unfold bV;constructor
  ·intro h j hj
   cases hf:bV zs a b m with
   | some x=>rw[hf]at h;cases h
   | none =>
    rw[hf]at h
    by_cases hh:hit zs a b m
    ·simp only[if_pos hh]at h;cases h
    ·rcases Nat.lt_succ_iff_lt_or_eq.1 hj with h1|h1
     ·exact ih.1 hf j h1
     ·subst h1;exact hh
  ·intro h
   rw[ih.2 (fun j hj=>h j aD)];exact if_neg (h m aD)
theorem ao3 {zs:List Int} {a b:Int} {j:Nat} (h:hit zs a b j) (h0:∀ i,i<j->¬ hit zs a b i):∀ m,j<m->bV zs a b m=some j:=by
 intro m;induction m with
 | zero=>intro hj;exact absurd hj (Nat.not_lt_zero _)
 | succ m ih =>
  intro hj;unfold bV;rcases Nat.lt_succ_iff_lt_or_eq.1 hj with h1|h1
  ·rw[ih h1]
  ·subst h1
   rw[Oz.2 h0];exact if_pos h
theorem Ex {zs:List Int} {a b:Int}:∀ {m j:Nat},bV zs a b m=some j->j<m/\hit zs a b j/\∀ i,i<j->¬ hit zs a b i:=by
 intro m;induction m with
 | zero=>intro j h;cases h
 | succ m ih =>
  intro j h;unfold bV at h;cases hf:bV zs a b m with
  | some x =>
   rw[hf]at h
   have e:x=j:=Option.some.inj h;subst e;obtain⟨h1,h2,h3⟩:=ih hf;exact⟨by omega,h2,h3⟩
  | none =>
   rw[hf]at h
   by_cases hh:hit zs a b m
   ·simp only[if_pos hh]at h
    have e:m=j:=Option.some.inj h;subst e;exact⟨Nat.lt_succ_self _,hh,Oz.1 hf⟩
   ·simp only[if_neg hh]at h
    cases h
def fT (o:Option Nat):Int:=match o with|none => -1|some j=>((j / 3:Nat):Int)
def fK (o:Option Nat):Int:=match o with|none=>0|some j=>((j%3:Nat):Int)
structure AM (g:Nat) (w:World) (A0 A1 A2:Option Addr) (n0 c0 n1 c1 n2 c2:Nat) (zs:List Int) (a b:Int) (m:Nat) (wr:World):Prop where
 below:Below g w wr
 b0:wr.cell? ⟨g,0,none⟩=some (.slice A0 n0 c0)
 b1:wr.cell? ⟨g,1,none⟩=some (.slice A1 n1 c1)
 b2:wr.cell? ⟨g,2,none⟩=some (.slice A2 n2 c2)
 no:∀ j,j<m->¬ hit zs a b j
theorem AM.step {g:Nat} {w:World} {A0 A1 A2:Option Addr} {n0 c0 n1 c1 n2 c2:Nat} {zs:List Int} {a b:Int} {m:Nat} {wr w2:World} (h:AM g w A0 A1 A2 n0 c0 n1 c1 n2 c2 zs a b m wr) (hb:Below wr.heap.size wr w2):AM g w A0 A1 A2 n0 c0 n1 c1 n2 c2 zs a b m w2:=by
 have hl:=World.block_lt_of_cell? _ _ h.b0;exact⟨h.below.trans (hb.mono (by have:g<wr.heap.size:=hl;omega)),(hb.cell (p:=⟨g,0,none⟩) hl).trans h.b0,(hb.cell (p:=⟨g,1,none⟩) hl).trans h.b1,(hb.cell (p:=⟨g,2,none⟩) hl).trans h.b2,h.no⟩
theorem AM.more {g:Nat} {w:World} {A0 A1 A2:Option Addr} {n0 c0 n1 c1 n2 c2:Nat} {zs:List Int} {a b:Int} {m:Nat} {wr:World} (h:AM g w A0 A1 A2 n0 c0 n1 c1 n2 c2 zs a b m wr) (hn:¬ hit zs a b m):AM g w A0 A1 A2 n0 c0 n1 c1 n2 c2 zs a b (m+1) wr :=
 ⟨h.below,h.b0,h.b1,h.b2,fun j hj=>by
  rcases Nat.lt_succ_iff_lt_or_eq.1 hj with h1|h1
  ·exact h.no j h1
  ·subst h1;exact hn⟩
theorem mK {k:Nat} (h:k<=1000000):wrap64 ((k:Int)+1)=((k+1:Nat):Int):=by unfold wrap64;omega
theorem VX (A0 A1 A2:Option Addr) (n0 c0 n1 c1 n2 c2:Nat) (zs:List Int) (w:World) (hr:IR w A1 (3*n1) zs) (a b:Int) (hn:n1<=100000) :
  Calls Tryz.prog 21 #[.agg #[.slice A0 n0 c0,.slice A1 n1 c1,.slice A2 n2 c2],.int .i64 a,.int .i64 b] w fun e w'=>e = .returned (.tuple #[.int .i64 (fT (bV zs a b (3*n1))),.int .i64 (fK (bV zs a b (3*n1)))])/\Below w.heap.size w w':=by
 have RY:AM w.heap.size w A0 A1 A2 n0 c0 n1 c1 n2 c2 zs a b (3*0) (w.alloc (.cells #[.slice A0 n0 c0,.slice A1 n1 c1,.slice A2 n2 c2] 26)) :=
  ⟨(Below.refl _ _).alloc (Nat.le_refl _) _,by simp[go_sem],by simp[go_sem],by simp[go_sem],fun j hj=>absurd hj (Nat.not_lt_zero _)⟩
 have j5:=Lib.hid RY;have HR:=Lib.hid hr;have HN:=Lib.hid hn;obtain⟨g,hg⟩:∃ g,w.heap.size=g:=⟨_,rfl⟩
 have HG:=Lib.hid hg;clear RY hr hn;go_enter Tryz.func21,Tryz.ntmps21;go_wp2
 rw[hg]at j5
 clear hg;go_loopw [8] (fun v wr=>∃ (t:Nat),t<=n1/\v = .int .i64 (t:Int)/\Hid (AM g w A0 A1 A2 n0 c0 n1 c1 n2 c2 zs a b (3*t) wr)) (fun v _=>n1-(intOf v).toNat)
 case atStart=>exact⟨0,Nat.zero_le _,rfl,j5⟩
 case round =>
  obtain⟨t,ht,rfl,hI⟩:=hrel;have q0:=hI.out.b0;have q1:=hI.out.b1;have q2:=hI.out.b2;by_cases htn:t<n1
  ·have h1:decide ((t:Int)<(n1:Int))=true:=decide_eq_true aD
   go_wp2
   go_loopw [9] (fun v wx=>∃ (k:Nat),k<=3/\v = .int .i64 (k:Int)/\Hid (AM g w A0 A1 A2 n0 c0 n1 c1 n2 c2 zs a b (3*t+k) wx)) (fun v _=>3-(intOf v).toNat)
   case atStart=>exact⟨0,by omega,rfl,hI⟩
   case round =>
    obtain⟨k,hk,rfl,hJ⟩:=hrel;have p0:=hJ.out.b0;have p1:=hJ.out.b1;have p2:=hJ.out.b2;by_cases hk3:k<3
    ·have h2:decide ((k:Int)<3)=true:=decide_eq_true aD
     have HE:=Lib.hid (PW A0 A1 A2 n0 c0 n1 c1 n2 c2 zs _ (HR.out.below hJ.out.below HG.out.symm) t k htn aD HN.out);have RZ:=Lib.hid (show hit zs a b (3*t+k)↔(zs.getD (3*t+k) 0=a/\zs.getD (3*t+nx k) 0=b) by unfold hit;rw[show(3*t+k) / 3=t by omega,show(3*t+k)%3=k by omega]);have HK:=Lib.hid hk3;have HT:=Lib.hid htn;clear hk3 htn ht hk;obtain⟨x,hx⟩:∃ x,zs.getD (3*t+k) 0=x:=⟨_,rfl⟩
     obtain⟨y,hy⟩:∃ y,zs.getD (3*t+nx k) 0=y:=⟨_,rfl⟩
     rw[hx,hy]at HE RZ
     clear hx hy;by_cases e1:x=a
     ·have f1:(x==a)=true:=beq_iff_eq.mpr e1
      by_cases e2:y=b
      ·have f2:(y==b)=true:=beq_iff_eq.mpr e2
       have HF:=Lib.hid (ao3 (RZ.out.2 ⟨e1,e2⟩) hJ.out.no (3*n1) (by have:=HT.out;have:=HK.out;omega));clear e1 e2;go_wp2_with fail
       refine HE.out.mono ?_;rintro e w9 ⟨rfl,hb⟩;have HB:=Lib.hid (hJ.out.step hb).below;clear hb;go_wp2
       go_ret2
       have hk:=HK.out;have eT:fT (bV zs a b (3*n1))=(t:Int):=by rw[HF.out];show(((3*t+k) / 3:Nat):Int)=_;omega
       have eK:fK (bV zs a b (3*n1))=(k:Int):=by rw[HF.out];show(((3*t+k)%3:Nat):Int)=_;omega
       refine⟨?_,by rw[HG.out];exact HB.out⟩;rw[eT,eK];rfl
      ·have f2:(y==b)=false:=beq_eq_false_iff_ne.mpr e2
       have HF:=Lib.hid (fun h=>e2 (RZ.out.1 h).2:¬ hit zs a b (3*t+k));clear e1 e2;go_wp2_with fail
       refine HE.out.mono ?_;rintro e w9 ⟨rfl,hb⟩;have HB:=Lib.hid (hJ.out.step hb);clear hb;go_wp2
       rw[mK (by have:=HK.out;omega)];exact⟨⟨k+1,by have:=HK.out;omega,rfl,Lib.hid (HB.out.more HF.out)⟩,by have:=HK.out;show 3-(((k+1:Nat):Int)).toNat<3-((k:Nat):Int).toNat;omega⟩
     ·have f1:(x==a)=false:=beq_eq_false_iff_ne.mpr e1
      have HF:=Lib.hid (fun h=>e1 (RZ.out.1 h).1:¬ hit zs a b (3*t+k));clear e1;go_wp2_with fail
      refine HE.out.mono ?_;rintro e w9 ⟨rfl,hb⟩;have HB:=Lib.hid (hJ.out.step hb);clear hb;go_wp2
      rw[mK (by have:=HK.out;omega)];exact⟨⟨k+1,by have:=HK.out;omega,rfl,Lib.hid (HB.out.more HF.out)⟩,by have:=HK.out;show 3-(((k+1:Nat):Int)).toNat<3-((k:Nat):Int).toNat;omega⟩
    ·have h2:decide ((k:Int)<3)=false:=decide_eq_false aD
     go_wp2
     have h9:=HN.out;rw[mK aD];exact⟨⟨t+1,by omega,rfl,Lib.hid (by rw[show 3*(t+1)=3*t+k by omega];exact hJ.out)⟩,by show n1-(((t+1:Nat):Int)).toNat<n1-((t:Nat):Int).toNat;omega⟩
  ·have h1:decide ((t:Int)<(n1:Int))=false:=decide_eq_false aD
   go_wp2
   go_ret2
   refine⟨?_,by rw[HG.out];exact hI.out.below⟩;rw[Oz.2 (fun j hj=>hI.out.no j aD)];rfl
end Go.Proofs.YtfcjnhkkfmgmpaaGreat
namespace Go.Proofs
open Go.Shelf
def Tryz.ai9:Go.Shelf.Ren:=⟨fun|134=>129|129=>144|n=>n,fun|53=>122|3=>3|4=>4|46=>136|5=>5|9=>9|n=>n,fun|n=>n⟩
theorem Tryz.alo:Go.Proofs.Lays.n134 Tryz.prog Tryz.ai9:={
 mixed:=by kernel_rfl
 f129:=Tryz.func144.trans (congrArg some (by kernel_rfl))
 f134:=Tryz.func129.trans (congrArg some (by kernel_rfl))
 t3:=Tryz.underlying3
 a3:=Tryz.isAgg3
 z3:=Tryz.sizeOf3
 v3:=Tryz.zeroValue3
 t4:=Tryz.underlying4
 a4:=Tryz.isAgg4
 z4:=Tryz.sizeOf4
 v4:=Tryz.zeroValue4
 t5:=Tryz.underlying5
 a5:=Tryz.isAgg5
 z5:=Tryz.sizeOf5
 v5:=Tryz.zeroValue5
 t9:=Tryz.underlying9
 a9:=Tryz.isAgg9
 z9:=Tryz.sizeOf9
 v9:=Tryz.zeroValue9
 t46:=Tryz.underlying136
 a46:=Tryz.isAgg136
 z46:=Tryz.sizeOf136
 v46:=Tryz.zeroValue136
 t53:=Tryz.underlying122
 a53:=Tryz.isAgg122
 z53:=Tryz.sizeOf122
 v53:=Tryz.zeroValue122 }
theorem Tryz.bits_LeadingZeros64 (x:Int) (w:World) (h0:0<=x) (h1:x<=18446744073709551615) :
  Calls Tryz.prog 129 #[.int .u64 x] w fun e w'=>e = .returned (.int .i64 (64-(Lib.bitLen x.toNat:Int)))/\w'=w:=Any.bits_LeadingZeros64 Tryz.alo x w h0 h1
end Go.Proofs
namespace Go.Proofs.YtfcjnhkkfmgmpaaGreat
open Go.RowKit aS
def lz (x:Int):Int:=64-(Lib.bitLen x.toNat:Int)
theorem XA (x:Int) (hx:0<=x/\x<B) (w:World) :
  Calls Tryz.prog 129 #[.int .u64 x] w fun e w'=>e = .returned (.int .i64 (lz x))/\w'=w:=Tryz.bits_LeadingZeros64 x w hx.1 (by have:=hx.2;rw[B_eq]at this;omega)
theorem U' (x:Int) (h0:0<x) (hx:x<B):∃ s:Nat,lz x=s/\s<=63/\9223372036854775808<=x*2^s/\x*2^s<B:=by
 obtain⟨n,rfl⟩:=Int.eq_ofNat_of_zero_le (Int.le_of_lt h0);rw[B_eq]at *
 have hb:=Lib.bitLenAux_bounds 64 n aD aD;obtain⟨h1,h2,h3⟩:=hb;have e:Lib.bitLen n=Lib.bitLenAux 64 n:=rfl;have h4:Lib.bitLenAux 64 n<=64:=by
  apply Nat.le_of_not_lt;intro hgt;have:2^64<=2^(Lib.bitLenAux 64 n-1):=Nat.pow_le_pow_right aD aD;omega
 refine⟨64-Lib.bitLenAux 64 n,?_,by omega,?_,?_⟩
 ·unfold lz
  rw[Int.toNat_natCast,e];omega
 ·have:2^(Lib.bitLenAux 64 n-1)*2^(64-Lib.bitLenAux 64 n)<=n*2^(64-Lib.bitLenAux 64 n):=Nat.mul_le_mul_right _ h2
  rw[<- Nat.pow_add,show Lib.bitLenAux 64 n-1+(64-Lib.bitLenAux 64 n)=63 by omega]at this
  have h5:((2^63:Nat):Int)<=((n*2^(64-Lib.bitLenAux 64 n):Nat):Int):=by exact_mod_cast this
  rw[Int.natCast_mul,Int.natCast_pow]at h5
  exact h5
 ·have:n*2^(64-Lib.bitLenAux 64 n)<2^Lib.bitLenAux 64 n*2^(64-Lib.bitLenAux 64 n):=Nat.mul_lt_mul_of_pos_right h3 (Nat.pow_pos aD)
  rw[<- Nat.pow_add,show Lib.bitLenAux 64 n+(64-Lib.bitLenAux 64 n)=64 by omega]at this
  have h5:((n*2^(64-Lib.bitLenAux 64 n):Nat):Int)<((2^64:Nat):Int):=by exact_mod_cast this
  rw[Int.natCast_mul,Int.natCast_pow]at h5
  exact h5
theorem ajg (lo y:Int) (h0:0<=lo/\lo<B) (hy:0<y/\y<B) (w:World) :
  Calls Tryz.prog 143 #[.int .u64 0,.int .u64 lo,.int .u64 y] w fun e w'=>e = .returned (.tuple #[.int .u64 (lo / y),.int .u64 (lo%y)])/\Dr w w':=by
 have af0:=h0.1;have hy0:=hy.1;have hz:(y==0)=false:=beq_eq_false_iff_ne.mpr aD;have hz2:decide (y<=0)=false:=by simp;omega
 have hq:0<=lo / y:=Int.ediv_nonneg aD aD;have HB:=Lib.hid h0;have HY:=Lib.hid hy;clear h0 hy;go_enter Tryz.func143,Tryz.ntmps143;go_wp2
 repeat(go_quiet (fail);try go_wp2)
 go_ret2
 have e1:IntKind.u64.wrap (lo.tdiv y)=lo / y:=by
  rw[Int.tdiv_eq_ediv_of_nonneg af0];apply cJ;refine⟨hq,?_⟩;have:=Int.ediv_le_self y af0;have:=HB.out.2;omega
 rw[<- e1];exact⟨rfl,by repeat(first|exact Dr.refl _|apply Dr.step)⟩
theorem aaq (x:Int) (hx:0<=x/\x<B):bits .and .u64 x 4294967295=x%4294967296 :=
 bits_mask .u64 64 (by decide) (fun n h0 h1=>cJ n ⟨h0,h1⟩) 32 (by decide) x hx.1 hx.2
theorem OC (x y:Int) (s:Nat) (hx:0<=x/\x<B) (hy:0<=y) (hys:y<2^s) (hyB:y<B) (hm:x%2^s=0):bits .or .u64 x y=x+y :=
 bits_join .u64 64 (by decide) (fun n h0 h1=>cJ n ⟨h0,h1⟩) s x y hx.1 hm hx.2 hy hys hyB
theorem ajy (hi lo y:Int) (hh:0<hi/\hi<y) (h0:0<=lo/\lo<B) (hy:y<B) (w:World) :
  Calls Tryz.prog 143 #[.int .u64 hi,.int .u64 lo,.int .u64 y] w fun e w'=>e = .returned (.tuple #[.int .u64 ((hi*B+lo) / y),.int .u64 ((hi*B+lo)%y)])/\Dr w w':=by
 obtain⟨s,hs,F4,hs1,hs2⟩:=U' y aD hy;have hz:(y==0)=false:=beq_eq_false_iff_ne.mpr aD;have hz2:decide (y<=hi)=false:=by simp;omega
 have hz3:(hi==0)=false:=beq_eq_false_iff_ne.mpr aD;have HS:=Lib.hid hs;clear hs;have Nf:=Lib.hid (XA y ⟨by omega,hy⟩);obtain⟨S,hS⟩:∃ S:Int,S=2^s:=⟨_,rfl⟩
 have dI:0<S:=by rw[hS];exact Int.pow_pos (by decide)
 obtain⟨Y,hY⟩:∃ Y,Y=y*S:=⟨_,rfl⟩
 rw[<- hS,<- hY]at hs1 hs2
 have R6:=Int.mul_pos (show 0<y by omega) dI;have e1:IntKind.u64.wrap (y*2^s)=Y:=by rw[<- hS,<- hY];exact cJ _ ⟨by omega,hs2⟩
 have e1b:bits .and .u64 Y 4294967295=Y%4294967296:=aaq _ ⟨by omega,hs2⟩;obtain⟨T,hT⟩:∃ T:Int,T=2^(64-s):=⟨_,rfl⟩
 have qb:0<T:=by rw[hT];exact Int.pow_pos (by decide)
 have iF:S*T=B:=by
  rw[hS,hT,<- Int.pow_add,show s+(64-s)=64 by omega];rfl
 obtain⟨p1,p2,p3⟩:=Tc dI qb iF h0;have q1:(hi+1)*S<=y*S:=Int.mul_le_mul_of_nonneg_right aD aD;have q2:(hi+1)*S=hi*S+S:=by grind
 have q3:0<=hi*S:=Int.mul_nonneg aD aD;have e2:bits .or .u64 (IntKind.u64.wrap (hi*2^s)) (lo / 2^(64-s))=hi*S+lo / T:=by
  rw[<- hS,<- hT,cJ _ ⟨q3,by omega⟩];exact OC _ _ s ⟨q3,by omega⟩ p2 (by rw[<- hS];exact p3) aD (by rw[hS];exact Int.mul_emod_left _ _)
 have hBp:0<B:=by decide
 have e3:IntKind.u64.wrap (lo*2^s)=lo*S%B:=by rw[<- hS,IntKind.wrap_u64];rfl
 have r0:0<=lo*S%B:=Int.emod_nonneg _ aD;have r1:lo*S%B<B:=Int.emod_lt_of_pos _ hBp;have e3b:bits .and .u64 (lo*S%B) 4294967295=lo*S%B%4294967296:=aaq _ ⟨r0,r1⟩;generalize lo*S%B=Y3 at *;obtain⟨cK,XB⟩:∃ cK,hi*S+lo / T=cK:=⟨_,rfl⟩
 rw[XB]at e2
 have hU:(hi*B+lo)*S=cK*B+Y3:=by
  rw[<- XB];have:(hi*B+lo)*S=hi*S*B+lo*S:=by grind
  rw[this,p1];grind
 obtain⟨Y1,hY1⟩:∃ Y1,Y / 4294967296=Y1:=⟨_,rfl⟩
 obtain⟨Y0,hY0⟩:∃ Y0,Y%4294967296=Y0:=⟨_,rfl⟩
 obtain⟨U1,Y4⟩:∃ U1,Y3 / 4294967296=U1:=⟨_,rfl⟩
 obtain⟨U0,R7⟩:∃ U0,Y3%4294967296=U0:=⟨_,rfl⟩
 rw[hY0]at e1b
 rw[R7]at e3b
 have hH:vu cK U1 Y Y1 Y0:=by
  rw[B_eq]at hs2 r1
  exact⟨by omega,by omega,by omega,by omega,by omega⟩
 have hz4:(Y1==0)=false:=beq_eq_false_iff_ne.mpr (by have:=hH.y1;omega);have R8:0<Y1:=by have:=hH.y1;omega
 have i0:IntKind.u64.wrap (cK.tdiv Y1)=cK / Y1:=by
  have:=hH.start.1.q0;have:=hH.start.1.q1;rw[Int.tdiv_eq_ediv_of_nonneg hH.u.1];exact cJ _ ⟨by omega,by rw[B_eq];omega⟩
 have i1:IntKind.u64.wrap (cK / Y1*Y1)=cK / Y1*Y1:=cJ _ (On hH hH.start.1 hH.start.2).2.1;have i2:IntKind.u64.wrap (cK-cK / Y1*Y1)=cK%Y1:=by
  have:=hH.start.1.e;have:=hH.start.1.r0;have:=hH.start.2;rw[show cK-cK / Y1*Y1=cK%Y1 by omega];exact cJ _ ⟨by omega,by rw[B_eq];omega⟩
 have hst:=Lib.hid hH.start;have HH:=Lib.hid hH;have HU:=Lib.hid hU;have HYY:=Lib.hid hY;have HP:=Lib.hid (And.intro hS (And.intro dI (And.intro R6 (And.intro R7 (And.intro Y4 (And.intro r0 (And.intro r1 (And.intro hs2 hh))))))));clear hY R6 hS dI hT qb iF p1 p2 p3 q1 q2 q3 r0 r1 XB hU hH hs1 hh h0 hy;go_enter Tryz.func143,Tryz.ntmps143;go_upto_block 0 with (go_at_call 129;refine(Nf.out _).mono ?_;rintro e w' ⟨rfl,rfl⟩;rw[HS.out])
 go_cut [15,16] (fun a b w1=>a = .int .u64 ((cK*4294967296+U1) / Y)/\w'=w1)
 case first =>
  go_wp2
  go_loop [15,16] (fun a b=>∃ q r:Int,a = .int .u64 q/\b = .int .u64 r/\Hid (sA cK U1 Y Y1 q r/\r<4294967296)) (fun a _=>(intOf a).toNat)
  case atStart=>exact⟨_,_,rfl,rfl,hst.out⟩
  case round =>
   obtain⟨q,r,rfl,rfl,hi⟩:=hrel;obtain⟨b1,b2,b3,b4,b5⟩:=On HH.out hi.out.1 hi.out.2;have g2:=cJ _ b3;have g3:=cJ _ b4;have g5:=cJ _ b5;have hq1:1<=q->IntKind.u64.wrap (q-1)=q-1:=fun h=>cJ _ ⟨by omega,by have:=hi.out.1.q1;rw[B_eq];omega⟩;have Nd:=hi.out.1.q0;have B1:=Lib.hid b1;have HQ:=Lib.hid hq1;clear b1 b2 b3 b4 b5 hq1;by_cases hA:4294967296<=q
   ·have c1:decide (4294967296<=q)=true:=decide_eq_true hA
    have g4:=HQ.out aD;have nx:=hi.out.1.step HH.out hi.out.2 (.inl hA);by_cases hbr:4294967296<=r+Y1
    ·have c2:decide (4294967296<=r+Y1)=true:=decide_eq_true hbr
     have fin:=Lib.hid (nx.Qy HH.out hbr);clear nx;go_wp2
     go_meet
     rw[<- fin.out];exact⟨rfl,rfl⟩
    ·have c2:decide (4294967296<=r+Y1)=false:=decide_eq_false hbr
     have fin:=Lib.hid nx;clear nx;go_wp2
     exact⟨⟨_,_,rfl,rfl,⟨fin.out,by omega⟩⟩,by simp[intOf];omega⟩
   ·have c1:decide (4294967296<=q)=false:=decide_eq_false hA
    have g1:=cJ _ (B1.out aD);by_cases hC:4294967296*r+U1<q*Y0
    ·have c3:decide (4294967296*r+U1<q*Y0)=true:=decide_eq_true hC
     have Bz:1<=q:=by
      apply Int.le_of_not_gt;intro hlt;have e0:q=0:=by omega
      rw[e0]at hC
      have:=HH.out.u1;have:=hi.out.1.r0;omega
     have g4:=HQ.out Bz;have nx:=hi.out.1.step HH.out hi.out.2 (.inr hC);by_cases hbr:4294967296<=r+Y1
     ·have c2:decide (4294967296<=r+Y1)=true:=decide_eq_true hbr
      have fin:=Lib.hid (nx.Qy HH.out hbr);clear nx;go_wp2
      go_meet
      rw[<- fin.out];exact⟨rfl,rfl⟩
     ·have c2:decide (4294967296<=r+Y1)=false:=decide_eq_false hbr
      have fin:=Lib.hid nx;clear nx;go_wp2
      exact⟨⟨_,_,rfl,rfl,⟨fin.out,by omega⟩⟩,by simp[intOf];omega⟩
    ·have c3:decide (4294967296*r+U1<q*Y0)=false:=decide_eq_false hC
     have fin:=Lib.hid (hi.out.1.exit HH.out aD);go_wp2
     go_meet
     rw[<- fin.out];exact⟨rfl,rfl⟩
 case rest =>
  obtain⟨rfl,rfl⟩:=hcut;obtain⟨w0,rfl⟩:∃ w0:World,w0=w':=⟨_,rfl⟩
  obtain⟨Q1,R9⟩:∃ Q1,(cK*4294967296+U1) / Y=Q1:=⟨_,rfl⟩
  have Ng:=aaH HH.out;simp only[R9]at Ng;obtain⟨DK,DL,R_⟩:=Ng;have J2:=HH.out.quo;rw[R9]at J2 ⊢
  obtain⟨pE,JL⟩:∃ pE,cK*4294967296+U1-Q1*Y=pE:=⟨_,rfl⟩
  rw[JL]at DK DL
  have j1:IntKind.u64.wrap (IntKind.u64.wrap (IntKind.u64.wrap (cK*4294967296)+U1)-IntKind.u64.wrap (Q1*Y))=pE:=by
   have hb:=HP.out.2.2.2.2.2.2.2.1;simp only[IntKind.wrap_u64];rw[B_eq]at hb
   generalize Q1*Y=z at *;omega
  have wJ:vu pE U0 Y Y1 Y0:=⟨HH.out.y,HH.out.y0,HH.out.y1,⟨DK,DL⟩,by have:=HP.out.2.2.2.1;omega⟩
  have k0:IntKind.u64.wrap (pE.tdiv Y1)=pE / Y1:=by
   have:=wJ.start.1.q0;have:=wJ.start.1.q1;rw[Int.tdiv_eq_ediv_of_nonneg wJ.u.1];exact cJ _ ⟨by omega,by rw[B_eq];omega⟩
  have k1:IntKind.u64.wrap (pE / Y1*Y1)=pE / Y1*Y1:=cJ _ (On wJ wJ.start.1 wJ.start.2).2.1;have k2:IntKind.u64.wrap (pE-pE / Y1*Y1)=pE%Y1:=by
   have:=wJ.start.1.e;have:=wJ.start.1.r0;have:=wJ.start.2;rw[show pE-pE / Y1*Y1=pE%Y1 by omega];exact cJ _ ⟨by omega,by rw[B_eq];omega⟩
  have atC:=Lib.hid wJ.start;have BC:=Lib.hid wJ;have HQ1:=Lib.hid R9;have atD:=Lib.hid JL;have HRE:=Lib.hid (And.intro DK (And.intro DL (And.intro R_ J2)));clear R9 JL wJ DK DL R_ J2 i0 i1 i2 e1 e2 e3;go_upto_block 2 with fail
  go_cut [18,16] (fun a b w1=>a = .int .u64 ((pE*4294967296+U0) / Y)/\w0=w1)
  case first =>
   go_wp2
   go_loop [18,16] (fun a b=>∃ q r:Int,a = .int .u64 q/\b = .int .u64 r/\Hid (sA pE U0 Y Y1 q r/\r<4294967296)) (fun a _=>(intOf a).toNat)
   case atStart=>exact⟨_,_,rfl,rfl,atC.out⟩
   case round =>
    obtain⟨q,r,rfl,rfl,hi⟩:=hrel;obtain⟨b1,b2,b3,b4,b5⟩:=On BC.out hi.out.1 hi.out.2;have g2:=cJ _ b3;have g3:=cJ _ b4;have g5:=cJ _ b5;have hq1:1<=q->IntKind.u64.wrap (q-1)=q-1:=fun h=>cJ _ ⟨by omega,by have:=hi.out.1.q1;rw[B_eq];omega⟩;have Nd:=hi.out.1.q0;have B1:=Lib.hid b1;have HQ:=Lib.hid hq1;clear b1 b2 b3 b4 b5 hq1;by_cases hA:4294967296<=q
    ·have c1:decide (4294967296<=q)=true:=decide_eq_true hA
     have g4:=HQ.out aD;have nx:=hi.out.1.step BC.out hi.out.2 (.inl hA);by_cases hbr:4294967296<=r+Y1
     ·have c2:decide (4294967296<=r+Y1)=true:=decide_eq_true hbr
      have fin:=Lib.hid (nx.Qy BC.out hbr);clear nx;go_wp2
      go_meet
      rw[<- fin.out];exact⟨rfl,rfl⟩
     ·have c2:decide (4294967296<=r+Y1)=false:=decide_eq_false hbr
      have fin:=Lib.hid nx;clear nx;go_wp2
      exact⟨⟨_,_,rfl,rfl,⟨fin.out,by omega⟩⟩,by simp[intOf];omega⟩
    ·have c1:decide (4294967296<=q)=false:=decide_eq_false hA
     have g1:=cJ _ (B1.out aD);by_cases hC:4294967296*r+U0<q*Y0
     ·have c3:decide (4294967296*r+U0<q*Y0)=true:=decide_eq_true hC
      have Bz:1<=q:=by
       apply Int.le_of_not_gt;intro hlt;have e0:q=0:=by omega
       rw[e0]at hC
       have:=BC.out.u1;have:=hi.out.1.r0;omega
      have g4:=HQ.out Bz;have nx:=hi.out.1.step BC.out hi.out.2 (.inr hC);by_cases hbr:4294967296<=r+Y1
      ·have c2:decide (4294967296<=r+Y1)=true:=decide_eq_true hbr
       have fin:=Lib.hid (nx.Qy BC.out hbr);clear nx;go_wp2
       go_meet
       rw[<- fin.out];exact⟨rfl,rfl⟩
      ·have c2:decide (4294967296<=r+Y1)=false:=decide_eq_false hbr
       have fin:=Lib.hid nx;clear nx;go_wp2
       exact⟨⟨_,_,rfl,rfl,⟨fin.out,by omega⟩⟩,by simp[intOf];omega⟩
     ·have c3:decide (4294967296*r+U0<q*Y0)=false:=decide_eq_false hC
      have fin:=Lib.hid (hi.out.1.exit BC.out aD);go_wp2
      go_meet
      rw[<- fin.out];exact⟨rfl,rfl⟩
  case rest =>
   obtain⟨rfl,rfl⟩:=hcut;obtain⟨Q0,Y5⟩:∃ Q0,(pE*4294967296+U0) / Y=Q0:=⟨_,rfl⟩
   have Ng:=aaH BC.out;simp only[Y5]at Ng;obtain⟨DK,DL,R_⟩:=Ng;have J2:=BC.out.quo;rw[Y5]at J2 ⊢
   obtain⟨R,hR⟩:∃ R,pE*4294967296+U0-Q0*Y=R:=⟨_,rfl⟩
   rw[hR]at DK DL
   obtain⟨hS,dI,R6,R7,Y4,r0,r1,hs2,hh⟩:=HP.out;have j1:IntKind.u64.wrap (IntKind.u64.wrap (IntKind.u64.wrap (pE*4294967296)+U0)-IntKind.u64.wrap (Q0*Y))=R:=by
    simp only[IntKind.wrap_u64];rw[B_eq]at hs2
    generalize Q0*Y=z at *;omega
   have j2:IntKind.u64.wrap (IntKind.u64.wrap (Q1*4294967296)+Q0)=Q1*4294967296+Q0:=by
    have:=HRE.out;simp only[IntKind.wrap_u64];omega
   have JL:=atD.out;have hU:=HU.out;have Y6:=HYY.out;have hUU:(hi*B+lo)*S=(cK*4294967296+U1)*4294967296+U0:=by
    rw[hU,B_eq];omega
   have fin:=Lib.hid (ai_ (y:=y) (R:=R) dI aD hUU (by rw[<- Y6,JL];exact hR.symm) DK (by rw[<- Y6];exact DL));rw[hS]at fin
   clear hUU hU JL Y6 hR Y5 hS dI R6 R7 Y4 r0 r1 hs2 hh DK DL R_ J2;go_wp2
   go_ret2
   rw[fin.out.1,fin.out.2];exact⟨rfl,by repeat(first|exact Dr.refl _|apply Dr.step)⟩
theorem abk (hi lo y:Int) (hh:0<=hi/\hi<y) (h0:0<=lo/\lo<B) (hy:y<B) (w:World) :
  Calls Tryz.prog 143 #[.int .u64 hi,.int .u64 lo,.int .u64 y] w fun e w'=>e = .returned (.tuple #[.int .u64 ((hi*B+lo) / y),.int .u64 ((hi*B+lo)%y)])/\Dr w w':=by
 by_cases h:hi=0
 ·subst h
  have:=ajg lo y h0 ⟨by omega,hy⟩ w;rw[show(0:Int)*B+lo=lo by omega];exact this
 ·exact ajy hi lo y ⟨by omega,hh.2⟩ h0 hy w
structure BW (w0:World) where
 w:World
 h:Below w0.heap.size w0 w
instance (w0:World):Inhabited (BW w0):=⟨⟨w0,Below.refl _ _⟩⟩
theorem yJ {P:Program} {id:Nat} {Q:Exit->Act->World->Prop} {a:Act} (w:World) {l:List Oper} (hm:P.follows .mixedOrders=true) (hB:Region.lexB .any l.toArray=true)
  (h:wpQuiet P l.toArray (fun w'=>∃ p:BW w,w'=p.w) (fun a'=>∀ w',(∃ p:BW w,w'=p.w)->Q .normal a' w') l a):(Code.region id l.toArray true).wp P Q a w :=
 wp_region_quiet (C:=fun w'=>∃ p:BW w,w'=p.w) hm hB ⟨⟨_,(Below.refl w.heap.size w).drew⟩,rfl⟩ (by simpa using h)
theorem cL {w:World} {a:Addr} {v:Value} (h:w.cell? a=some v) (p:BW w):p.w.cell? a=some v:=(p.h.cell (World.block_lt_of_cell? _ _ h)).trans h
theorem PV {w:World} {P:Program} {f:FuncId} {args:Array Value} {v:Value} (h:∀ W,Below w.heap.size w W->Calls P f args W fun e w'=>e = .returned v/\Below W.heap.size W w') (p:BW w) :
  Calls P f args p.w fun e w''=>e = .returned v/\∃ q:BW w,w''=q.w :=
 (h p.w p.h).mono fun _ w' ⟨he,hb⟩=>⟨he,⟨w',p.h.trans (hb.mono p.h.size)⟩,rfl⟩
end Go.Proofs.YtfcjnhkkfmgmpaaGreat
