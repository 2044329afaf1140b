import Derived.Test.YtfcjnhkkfmgmpaaGreatProg
import Derived.Below
import Derived.Deep.Draws
import Derived.OwnWalk
import Derived.Tactics
import Derived.WalkKit
import Derived.KernelRfl
import Derived.Deep.LoopGhost
import Derived.Deep.QuietTactic
import Derived.BigQuiet
import Derived.WalkLawsBesides
import Derived.WalkSpells
import Derived.Lib.Hide
import Derived.Laws.Externs
import Derived.Test.YtfcjnhkkfmgmpaaGreatZsG4
set_option linter.all false
set_option maxRecDepth 100000
set_option maxHeartbeats 8000000
namespace Go.Proofs.YtfcjnhkkfmgmpaaGreat
open Go.RowKit aR
def RL (w:World) (A:Option Addr) (l:List Int):Prop :=
 l.length≤9223372036854775807∧(0<l.length→∃ ad,A=some ad∧∀ j,j<l.length→w.cell? (ad.add j)=some (.int .u64 (lg l j)))
structure Dr (w w':World):Prop where mk::(out:∃ n,w'=w.drewN n)
theorem Dr.refl (w:World):Dr w w:=⟨⟨0,rfl⟩⟩
theorem Dr.step {w w':World} (h:Dr w w') (n:Nat):Dr w (w'.drewN n):=by
 obtain⟨m,rfl⟩:=h;exact⟨⟨m+n,World.drewN_drewN ..⟩⟩
theorem gR {B:Nat} {w W:World} (h:Below B w W) (n:Nat):Below B w (W.drewN n):=⟨h.os,h.tape,h.output,h.size,h.block⟩
structure bU (g:Nat) (w w':World):Prop where
 os:w'.os=w.os
 tape:w'.tape=w.tape
 output:w'.output=w.output
 size:w'.heap.size=w.heap.size
 block:∀ k,k≠g→w'.heap[k]?=w.heap[k]?
theorem bU.refl (g:Nat) (w:World):bU g w w:=⟨rfl,rfl,rfl,rfl,fun _ _=>rfl⟩
theorem bU.dO {g:Nat} {w w1:World} (h:bU g w w1) (n:Nat):bU g w (w1.drewN n):=⟨h.os,h.tape,h.output,h.size,h.block⟩
theorem bU.dr {g:Nat} {w w1:World} (h:bU g w w1):bU g w w1.drew:=⟨h.os,h.tape,h.output,h.size,h.block⟩
theorem bU.set {g:Nat} {w w1:World} (h:bU g w w1) (j:Nat) (v:Value):bU g w (w1.setCell ⟨g,j,none⟩ v) :=
 ⟨h.os,h.tape,h.output,by rw[← h.size];simp[World.setCell],fun k hk=>(Below.heap_setCell _ _ _ _ hk).trans (h.block k hk)⟩
theorem bU.below {B g:Nat} {w w1 w2:World} (hb:Below B w w1) (h:bU g w1 w2) (hg:B≤g):Below B w w2 :=
 hb.trans ⟨h.os,h.tape,h.output,by rw[h.size];exact Nat.le_refl _,fun k hk=>h.block k (by omega)⟩
def cK (w:World) (g:Nat) (l:List Int):Prop:=∃ cur:Array Value,w.heap[g]?=some (.cells cur 122 (0,0))∧l.length≤cur.size∧∀ j,j<l.length→cur[j]?=some (.int .u64 (lg l j))
theorem cK.cell {w:World} {g:Nat} {l:List Int} (h:cK w g l) (j:Nat) (hj:j<l.length):w.cell? ⟨g,j,none⟩=some (.int .u64 (lg l j)):=by
 obtain⟨cur,h,_,hc⟩:=h;unfold World.cell?;rw[show w.heap[(⟨g,j,none⟩:Addr).block]?=_ from h];simpa using hc j hj
theorem cK.free {w:World} {g:Nat} {l:List Int} (h:cK w g l) (j:Nat):w.frozen? ⟨g,j,none⟩=false:=by
 obtain⟨cur,h,_,hc⟩:=h;unfold World.frozen?;rw[show w.heap[(⟨g,j,none⟩:Addr).block]?=_ from h];simp
theorem cK.lt {w:World} {g:Nat} {l:List Int} (h:cK w g l):g<w.heap.size:=by
 obtain⟨cur,h,_⟩:=h;exact(Array.getElem?_eq_some_iff.1 h).1
theorem cK.set {w:World} {g:Nat} {l:List Int} (h:cK w g l) (j:Nat) (x:Int):cK (w.setCell ⟨g,j,none⟩ (.int .u64 x)) g (l.set j x):=by
 obtain⟨cur,h,hl,hc⟩:=h;refine⟨cur.setIfInBounds j (.int .u64 x),by simp[World.setCell,Array.getElem?_modify,h],by simpa using hl,fun k hk=>?_⟩;rw[List.length_set]at hk
 rw[cG,Array.getElem?_setIfInBounds];by_cases e:j=k
 ·subst e
  rw[if_pos rfl,if_pos (by omega),if_pos ⟨rfl,hk⟩]
 ·rw[if_neg e,if_neg (by omega)]
  exact hc k hk
theorem cK.only {w w1:World} {g g':Nat} {l:List Int} (h:cK w g l) (ho:bU g' w w1) (hne:g≠g'):cK w1 g l:=by
 obtain⟨cur,h,hl⟩:=h;exact⟨cur,(ho.block g hne).trans h,hl⟩
theorem cK.below {B:Nat} {w w1:World} {g:Nat} {l:List Int} (h:cK w g l) (ho:Below B w w1) (hne:g<B):cK w1 g l:=by
 obtain⟨cur,h,hl⟩:=h;exact⟨cur,(ho.block g hne).trans h,hl⟩
theorem cK.dO {w:World} {g:Nat} {l:List Int} (h:cK w g l) (n:Nat):cK (w.drewN n) g l:=h
theorem RL.cell {w:World} {g o:Nat} {l:List Int} (h:RL w (some ⟨g,o,none⟩) l) (j:Nat) (hj:j<l.length):w.cell? ⟨g,o+j,none⟩=some (.int .u64 (lg l j)):=by
 obtain⟨ad,e,hc⟩:=h.2 (by omega);cases e;have:=hc j hj;unfold Addr.add at this;split at this
 ·rename_i h0;subst h0;exact this
 ·exact this
theorem kL (A0:Option Addr) (n c0:Nat) (l:List Int) (hn:l.length=n) (hc0:n≤c0) (w:World) (hr:RL w A0 l) :
  Calls Tryz.prog 126 #[.slice A0 n c0] w fun e w'=>e = .returned (.slice A0 (bn l n) (bn l n))∧Dr w w':=by
 have hl:=hr.1;have hl2:n≤9223372036854775807:=by omega
 have HR:=Lib.hid hr;have HN:=Lib.hid hn;clear hr hn hl;go_enter Tryz.func126,Tryz.ntmps126;go_wp2
 go_loopw [3] (fun t w'=>∃ k:Nat,k≤n∧t = .int .i64 k∧Hid (bn l k=bn l n)∧Dr w w') (fun t _=>(intOf t).toNat)
 case atStart=>exact⟨n,Nat.le_refl _,rfl,Lib.hid rfl,Dr.refl _⟩
 case round =>
  obtain⟨k,hk,rfl,he,⟨m,rfl⟩⟩:=hrel;cases k with
  | zero =>
   have h1:decide ((0:Int)<((0:Nat):Int))=false:=by simp
   go_wp2
   repeat(go_quiet (fail);try go_wp2)
   go_ret
   have h0:bn l n=0:=he.out.symm;rw[h0];exact⟨rfl,by repeat(first|exact Dr.refl _|apply Dr.step)⟩
  | succ k =>
   have h1:decide ((0:Int)<((k+1:Nat):Int))=true:=by simp
   obtain⟨ad,rfl,hc⟩:=HR.out.2 (by have:=HN.out;omega);have hc1:=hc k (by have:=HN.out;omega);clear hc;have he':=he.out;clear he;by_cases hz:lg l k=0
   ·rw[Iq hz]at he'
    have he:=Lib.hid he';clear he';rw[hz]at hc1
    clear hz;go_wp2
    repeat(go_quiet (fail);try go_wp2)
    exact⟨⟨k,by omega,rfl,he,by repeat(first|exact Dr.refl _|apply Dr.step)⟩,by simp[intOf]⟩
   ·rw[Ir hz]at he'
    have he:=Lib.hid he';clear he';have hz1:(lg l k==0)=false:=beq_eq_false_iff_ne.mpr hz;clear hz;go_wp2
    repeat(go_quiet (fail);try go_wp2)
    go_ret
    have h0:bn l n=k+1:=he.out.symm;rw[h0];exact⟨rfl,by repeat(first|exact Dr.refl _|apply Dr.step)⟩
theorem XG (a b:Int) (w:World):Calls Tryz.prog 141 #[.int .i64 a,.int .i64 b] w fun e w'=>e = .returned (.int .i64 (dX a b))∧w'=w:=by
 unfold dX;by_cases h1:a<b
 ·rw[if_pos h1]
  go_enter Tryz.func141,Tryz.ntmps141;go_wp2
  go_ret
  exact⟨rfl,rfl⟩
 ·rw[if_neg h1]
  by_cases h2:b<a
  ·rw[if_pos h2]
   go_enter Tryz.func141,Tryz.ntmps141;go_wp2
   go_ret
   exact⟨rfl,rfl⟩
  ·rw[if_neg h2]
   go_enter Tryz.func141,Tryz.ntmps141;go_wp2
   go_ret
   exact⟨rfl,rfl⟩
theorem XH (a b:Int) (w:World):Calls Tryz.prog 142 #[.int .u64 a,.int .u64 b] w fun e w'=>e = .returned (.int .i64 (dX a b))∧w'=w:=by
 unfold dX;by_cases h1:a<b
 ·rw[if_pos h1]
  go_enter Tryz.func142,Tryz.ntmps142;go_wp2
  go_ret
  exact⟨rfl,rfl⟩
 ·rw[if_neg h1]
  by_cases h2:b<a
  ·rw[if_pos h2]
   go_enter Tryz.func142,Tryz.ntmps142;go_wp2
   go_ret
   exact⟨rfl,rfl⟩
  ·rw[if_neg h2]
   go_enter Tryz.func142,Tryz.ntmps142;go_wp2
   go_ret
   exact⟨rfl,rfl⟩
theorem Cj (A0 A1:Option Addr) (n m c0 c1:Nat) (a b:List Int) (hn:a.length=n) (hm:b.length=m) (w:World) (ha:RL w A0 a) (hb:RL w A1 b) :
  Calls Tryz.prog 127 #[.slice A0 n c0,.slice A1 m c1] w fun e w'=>e = .returned (.int .i64 (rH a b n m))∧Dr w w':=by
 have hl:=ha.1;have hl':=hb.1;have hl2:n≤9223372036854775807:=by omega
 have iE:m≤9223372036854775807:=by omega
 have HA:=Lib.hid ha;have HN:=Lib.hid hn;have HB:=Lib.hid hb;have HM:=Lib.hid hm;clear ha hn hl hb hm hl';by_cases hc:dX n m=0
 ·have he:=Lib.hid (Qa hc)
  have HC:=Lib.hid hc;clear hc;go_enter Tryz.func127,Tryz.ntmps127;go_wp2_with fail
  refine(XG _ _ _).mono ?_;rintro e w' ⟨rfl,rfl⟩;rw[HC.out];go_wp2
  go_loopw [6,7] (fun t s w1=>∃ k:Nat,k≤n∧t = .int .i64 ((k:Int)-1)∧Hid (oH a b k=oH a b n)∧Dr w' w1) (fun t _ _=>(intOf t+1).toNat)
  case atStart=>exact⟨n,Nat.le_refl _,rfl,Lib.hid rfl,Dr.refl _⟩
  case round =>
   obtain⟨k,hk,rfl,hh,⟨q,rfl⟩⟩:=hrel;cases k with
   | zero =>
    have h1:decide (0≤((0:Nat):Int)-1)=false:=by simp
    go_wp2
    go_ret
    have h0:rH a b n m=0:=by unfold rH;rw[if_pos HC.out];exact hh.out.symm
    rw[h0];exact⟨rfl,by repeat(first|exact Dr.refl _|apply Dr.step)⟩
   | succ k =>
    have h1:decide (0≤((k+1:Nat):Int)-1)=true:=by simp
    have e1:((k+1:Nat):Int)-1=(k:Int):=by omega
    rw[e1]at h1 ⊢
    clear e1;obtain⟨ad,rfl,ga⟩:=HA.out.2 (by have:=HN.out;omega);obtain⟨bd,rfl,gb⟩:=HB.out.2 (by have:=HM.out;have:=he.out;omega);have ga1:=ga k (by have:=HN.out;omega);have gb1:=gb k (by have:=HM.out;have:=he.out;omega);have hk2:k<m:=by have:=he.out;omega
    have hk3:k<n:=by omega
    clear ga gb;have GQ:=hh.out;clear hh;by_cases hz:dX (lg a k) (lg b k)=0
    ·rw[Iw hz]at GQ
     have hh:=Lib.hid GQ;have hz1:(dX (lg a k) (lg b k)==0)=true:=beq_iff_eq.mpr hz;have hz2:(dX (lg a k) (lg b k) != 0)=false:=bne_eq_false_iff_eq.mpr hz;clear GQ hz;go_wp2
     go_quiet ((go_at_call 142;refine(XH _ _ _).mono ?_;rintro e w' ⟨rfl,rfl⟩;first|exact⟨rfl,_,rfl⟩|exact⟨rfl,0,rfl⟩))
     go_wp2
     repeat(go_quiet (fail);try go_wp2)
     exact⟨⟨k,by omega,by go_num,hh,by repeat(first|exact Dr.refl _|apply Dr.step)⟩,by simp[intOf]⟩
    ·rw[zE hz]at GQ
     have hh:=Lib.hid GQ;have hz1:(dX (lg a k) (lg b k)==0)=false:=beq_eq_false_iff_ne.mpr hz;have hz2:(dX (lg a k) (lg b k) != 0)=true:=bne_iff_ne.mpr hz;clear GQ hz;go_wp2
     go_quiet ((go_at_call 142;refine(XH _ _ _).mono ?_;rintro e w' ⟨rfl,rfl⟩;first|exact⟨rfl,_,rfl⟩|exact⟨rfl,0,rfl⟩))
     go_wp2
     repeat(go_quiet (fail);try go_wp2)
     go_ret
     have h0:rH a b n m=dX (lg a k) (lg b k):=by unfold rH;rw[if_pos HC.out];exact hh.out.symm
     rw[h0];exact⟨rfl,by repeat(first|exact Dr.refl _|apply Dr.step)⟩
 ·have he:=Lib.hid hc
  have h1:(dX n m==0)=false:=beq_eq_false_iff_ne.mpr hc;have h2:(dX n m != 0)=true:=bne_iff_ne.mpr hc;have h0:rH a b n m=dX n m:=by unfold rH;rw[if_neg hc]
  rw[h0];clear hc h0;go_enter Tryz.func127,Tryz.ntmps127;go_wp2_with (go_at_call 141;refine(XG _ _ _).mono ?_;rintro e w' ⟨rfl,rfl⟩)
  go_ret
  exact⟨rfl,by repeat(first|exact Dr.refl _|apply Dr.step)⟩
def Q3:Array Value→Sem Value:=fun args=>do
 let (x,y,b) ← Extern.MathBitsCarry.three "Sub64" args
 pure (Extern.MathBitsCarry.pair ((x+Extern.MathBitsCarry.m64-y-b)%Extern.MathBitsCarry.m64) (if x<y+b then 1 else 0))
theorem aeA {P:Program} (x y b:Int) (hx:0≤x∧x<B) (hy:0≤y∧y<B) (hb:b=0∨b=1) (w:World) :
  (Q3 #[.int .u64 x,.int .u64 y,.int .u64 b]).run P w = .ok (.tuple #[.int .u64 (fH x y b),.int .u64 (fq x y b)]) w:=by
 obtain⟨x,rfl⟩:=Int.eq_ofNat_of_zero_le hx.1;obtain⟨y,rfl⟩:=Int.eq_ofNat_of_zero_le hy.1;rw[B_eq]at hx hy
 have key:∀ k:Nat,k≤1→(Q3 #[.int .u64 x,.int .u64 y,.int .u64 (k:Int)]).run P w =
   .ok (Extern.MathBitsCarry.pair ((x+Extern.MathBitsCarry.m64-y-k)%Extern.MathBitsCarry.m64) (if x<y+k then 1 else 0)) w:=by
  intro k hk;have:k=0∨k=1:=by omega
  rcases this with rfl|rfl <;> rfl
 obtain⟨k,hk,rfl⟩:∃ k:Nat,k≤1∧b=(k:Int):=by
  rcases hb with rfl|rfl
  ·exact⟨0,by omega,rfl⟩
  ·exact⟨1,by omega,rfl⟩
 rw[key k hk];have e1:fH x y k=((x+Extern.MathBitsCarry.m64-y-k)%Extern.MathBitsCarry.m64:Nat):=by
  unfold fH Extern.MathBitsCarry.m64;rw[B_eq];omega
 have e2:fq x y k=((if x<y+k then 1 else 0:Nat):Int):=by
  unfold fq;split <;> split <;> omega
 rw[e1,e2];rfl
theorem Xv (x y b:Int) (hx:0≤x∧x<B) (hy:0≤y∧y<B) (hb:b=0∨b=1) (w:World) :
  (callFunc 147 #[.int .u64 x,.int .u64 y,.int .u64 b]).run Tryz.prog w = .ok (.value (.tuple #[.int .u64 (fH x y b),.int .u64 (fq x y b)])) w:=by
 rw[run_callFunc_extern (fn:=Tryz.f147) (e:=Q3) (by kernel_rfl) (by kernel_rfl) (by kernel_rfl) (by kernel_rfl) (by kernel_rfl),aeA x y b hx hy hb];rfl
theorem aeB {P:Program} (x y b:Int) (hx:0≤x∧x<B) (hy:0≤y∧y<B) (hb:b=0∨b=1) (w:World) :
  (add64Entry #[.int .u64 x,.int .u64 y,.int .u64 b]).run P w = .ok (.tuple #[.int .u64 (fL x y b),.int .u64 (iQ x y b)]) w:=by
 rw[run_add64 x y b hx.1 hy.1 (by omega) (by omega)];unfold fL iQ;rw[B_eq]
theorem P9 (x y b:Int) (hx:0≤x∧x<B) (hy:0≤y∧y<B) (hb:b=0∨b=1) (w:World) :
  (callFunc 146 #[.int .u64 x,.int .u64 y,.int .u64 b]).run Tryz.prog w = .ok (.value (.tuple #[.int .u64 (fL x y b),.int .u64 (iQ x y b)])) w:=by
 rw[run_callFunc_extern (fn:=Tryz.f146) (e:=add64Entry) (by kernel_rfl) (by kernel_rfl) (by kernel_rfl) (by kernel_rfl) (by kernel_rfl),aeB x y b hx hy hb];rfl
theorem RL.only {w w1:World} {g:Nat} {A:Option Addr} {l:List Int} (h:RL w A l) (ho:bU g w w1) (hne:0<l.length→∀ ad,A=some ad→ad.block≠g):RL w1 A l :=
 ⟨h.1,fun hn=>by
  obtain⟨ad,e,hc⟩:=h.2 hn
  refine⟨ad,e,fun j hj=>?_⟩
  rw[← hc j hj]
  refine World.cell?_of_block (w:=w) (ho.block _ ?_)
  have:=hne hn ad e
  unfold Addr.add
  split <;> exact this⟩
theorem RL.below {B:Nat} {w w1:World} {A:Option Addr} {l:List Int} (h:RL w A l) (ho:Below B w w1) (hB:w.heap.size≤B):RL w1 A l :=
 ⟨h.1,fun hn=>by
  obtain⟨ad,e,hc⟩:=h.2 hn
  refine⟨ad,e,fun j hj=>?_⟩
  rw[← hc j hj]
  have:=World.block_lt_of_cell? w _ (hc j hj)
  exact ho.cell (by omega)⟩
theorem RL.lt {w:World} {A:Option Addr} {l:List Int} (h:RL w A l) (hn:0<l.length) (ad:Addr) (he:A=some ad):ad.block<w.heap.size:=by
 obtain⟨yG,e,hc⟩:=h.2 hn;rw[he]at e
 cases e;have:=World.block_lt_of_cell? w _ (hc 0 hn);unfold Addr.add at this;simpa using this
theorem RL.take {w:World} {A:Option Addr} {l:List Int} (h:RL w A l) (m:Nat):RL w A (l.take m):=by
 refine⟨by rw[List.length_take];have:=h.1;omega,fun hn=>?_⟩;rw[List.length_take]at hn
 obtain⟨ad,e,hc⟩:=h.2 (by omega);refine⟨ad,e,fun j hj=>?_⟩;rw[List.length_take]at hj
 rw[hc j (by omega),xJ,if_pos (by omega)]
theorem RL.dO {w:World} {A:Option Addr} {l:List Int} (h:RL w A l) (n:Nat):RL (w.drewN n) A l:=h
theorem cK.RL {w:World} {g:Nat} {l:List Int} (h:cK w g l) (hl:l.length≤9223372036854775807):RL w (some ⟨g,0,none⟩) l :=
 ⟨hl,fun _=>⟨_,rfl,fun j hj=>by
  rw[show(⟨g,0,none⟩:Addr).add j=⟨g,j,none⟩ by unfold Addr.add;split <;> simp_all]
  exact h.cell j hj⟩⟩
def oT (w:World) (v:Value) (r:List Int):Prop:=∃ A c,v = .slice A r.length c∧r.length≤c∧RL w A r
def alk (g o n m:Nat) (L l:List Int) (w:World) (e:Ending) (w':World):Prop:=∃ L' b,e = .returned (.int .u64 b)∧cK w' g L'∧L'.length=L.length∧aJ L'∧(∀ j,(j<o∨o+n≤j)→lg L' j=lg L j)∧(b=0∨b=1)∧win L' o n-b*B^n=win L o n-aL (lg l) (min n m)∧bU g w w'
structure aaI (g o n m:Nat) (L l:List Int) (w:World) (k:Nat) (b:Int) (L':List Int) (w1:World):Prop where
 blk:cK w1 g L'
 len:L'.length=L.length
 bF:aJ L'
 yH:∀ j,(j<o∨o+k≤j)→lg L' j=lg L j
 bit:b=0∨b=1
 val:win L' o k-b*B^k=win L o k-aL (lg l) (min k m)
 only:bU g w w1
theorem Ss (g o n c0:Nat) (L:List Int) (A1:Option Addr) (m c1:Nat) (l:List Int) (hm:l.length=m) (w:World) (hB:cK w g L) (hL:aJ L) (ho:o+n≤L.length)
  (hn:n≤9223372036854775807) (hl:RL w A1 l) (jI:aJ l) (hne:0<l.length→∀ ad,A1=some ad→ad.block≠g) :
  Calls Tryz.prog 133 #[.slice (some ⟨g,o,none⟩) n c0,.slice A1 m c1] w (alk g o n m L l w):=by
 have hm2:m≤9223372036854775807:=by have:=hl.1;omega
 have H0:aaI g o n m L l w 0 0 L w:=⟨hB,rfl,hL,fun _ _=>rfl,.inl rfl,by simp[win,aL],bU.refl _ _⟩
 have HM:=Lib.hid hm;have HO:=Lib.hid ho;have HL:=Lib.hid hl;have AH:=Lib.hid jI;have yI:=Lib.hid hne;clear hm hB hL ho hl jI hne;go_enter Tryz.func133,Tryz.ntmps133;go_wp2
 go_loopw [5,6,7,10] (fun bv _ _ t w1=>∃ (k:Nat) (b:Int) (L':List Int),k≤n∧t = .int .i64 k∧bv = .int .u64 b∧aaI g o n m L l w k b L' w1) (fun _ _ _ t _=>n-(intOf t).toNat)
 case atStart=>exact⟨0,0,L,Nat.zero_le _,rfl,rfl,H0⟩
 case round =>
  clear H0;obtain⟨k,b,L',hk,rfl,rfl,hI⟩:=hrel;have HI:=Lib.hid hI;by_cases hlt:k<n
  ·have hc:=hI.blk.cell (o+k) (by rw[hI.len];have:=HO.out;omega)
   have hf:=hI.blk.free (o+k);have hx:=hI.bF (o+k);have hb:=hI.bit;have hS:=nB (o:=o) (L:=L) (m:=m) (by rw[hI.len];have:=HO.out;omega) hI.bF AH.out hI.yH hb HM.out hI.val;have h1:decide ((k:Int)<(n:Int))=true:=by simp;omega
   by_cases hkm:k<m
   ·have h2:decide ((k:Int)<(m:Int))=true:=by simp;omega
    obtain⟨ad,rfl,cj⟩:=(HL.out.only hI.only yI.out).2 (by have:=HM.out;omega);have hc2:=cj k (by have:=HM.out;omega);have SQ:=Xv (lg L' (o+k)) (lg l k) b hx (AH.out k) hb;have HS:=Lib.hid hS;clear hS hI hx hb cj;have n9:=HI.out;go_wp2
    obtain⟨s1,s2,s3,s4⟩:=HS.out;exact⟨⟨k+1,_,_,by omega,by go_num,rfl,⟨n9.blk.set _ _,by rw[List.length_set];exact n9.len,s1,s2,s3,s4,n9.only.set _ _⟩⟩,by simp[intOf];omega⟩
   ·have h2:decide ((k:Int)<(m:Int))=false:=by simp;omega
    have hz:lg l k=0:=nH (by have:=HM.out;omega);rw[hz]at hS
    have SQ:=Xv (lg L' (o+k)) 0 b hx (by rw[B_eq];omega) hb;have HS:=Lib.hid hS;clear hS hI hx hb hz;have n9:=HI.out;go_wp2
    obtain⟨s1,s2,s3,s4⟩:=HS.out;exact⟨⟨k+1,_,_,by omega,by go_num,rfl,⟨n9.blk.set _ _,by rw[List.length_set];exact n9.len,s1,s2,s3,s4,n9.only.set _ _⟩⟩,by simp[intOf];omega⟩
  ·have he:k=n:=by omega
   subst he;have h1:decide ((k:Int)<(k:Int))=false:=by simp
   go_wp2
   go_ret
   exact⟨L',b,rfl,hI.blk,hI.len,hI.bF,hI.yH,hI.bit,hI.val,hI.only⟩
end Go.Proofs.YtfcjnhkkfmgmpaaGreat
