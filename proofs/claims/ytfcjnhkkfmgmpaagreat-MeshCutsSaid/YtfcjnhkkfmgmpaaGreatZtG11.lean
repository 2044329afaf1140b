import Derived.Test.YtfcjnhkkfmgmpaaGreatProg
import Derived.Below
import Derived.Deep.Draws
import Derived.OwnWalk
import Derived.Tactics
import Derived.WalkKit
import Derived.KernelRfl
import Derived.Deep.LoopGhost
import Derived.Deep.QuietTactic
import Derived.BigQuiet
import Derived.WalkLawsBesides
import Derived.WalkSpells
import Derived.Lib.Hide
import Derived.Laws.Externs
import Derived.Test.YtfcjnhkkfmgmpaaGreatZtG7
set_option linter.all false
set_option maxRecDepth 100000
set_option maxHeartbeats 8000000
namespace Go.Proofs.YtfcjnhkkfmgmpaaGreat
open Go.RowKit aS
def RL (w:World) (A:Option Addr) (l:List Int):Prop :=
 l.length<=9223372036854775807/\(0<l.length->∃ ad,A=some ad/\∀ j,j<l.length->w.cell? (ad.add j)=some (.int .u64 (lg l j)))
structure Dr (w w':World):Prop where mk::(out:∃ n,w'=w.drewN n)
theorem Dr.refl (w:World):Dr w w:=⟨⟨0,rfl⟩⟩
theorem Dr.step {w w':World} (h:Dr w w') (n:Nat):Dr w (w'.drewN n):=by
 obtain⟨m,rfl⟩:=h;exact⟨⟨m+n,World.drewN_drewN ..⟩⟩
theorem iy {B:Nat} {w W:World} (h:Below B w W) (n:Nat):Below B w (W.drewN n):=⟨h.os,h.tape,h.output,h.size,h.block⟩
structure bW (g:Nat) (w w':World):Prop where
 os:w'.os=w.os
 tape:w'.tape=w.tape
 output:w'.output=w.output
 size:w'.heap.size=w.heap.size
 block:∀ k,k≠g->w'.heap[k]?=w.heap[k]?
theorem bW.refl (g:Nat) (w:World):bW g w w:=⟨rfl,rfl,rfl,rfl,fun _ _=>rfl⟩
theorem bW.dP {g:Nat} {w w1:World} (h:bW g w w1) (n:Nat):bW g w (w1.drewN n):=⟨h.os,h.tape,h.output,h.size,h.block⟩
theorem bW.dr {g:Nat} {w w1:World} (h:bW g w w1):bW g w w1.drew:=⟨h.os,h.tape,h.output,h.size,h.block⟩
theorem bW.set {g:Nat} {w w1:World} (h:bW g w w1) (j:Nat) (v:Value):bW g w (w1.setCell ⟨g,j,none⟩ v) :=
 ⟨h.os,h.tape,h.output,by rw[<- h.size];simp[World.setCell],fun k hk=>(Below.heap_setCell _ _ _ _ hk).trans (h.block k hk)⟩
theorem bW.below {B g:Nat} {w w1 w2:World} (hb:Below B w w1) (h:bW g w1 w2) (hg:B<=g):Below B w w2 :=
 hb.trans ⟨h.os,h.tape,h.output,by rw[h.size];exact Nat.le_refl _,fun k hk=>h.block k aD⟩
def cV (w:World) (g:Nat) (l:List Int):Prop:=∃ cur:Array Value,w.heap[g]?=some (.cells cur 122 (0,0))/\l.length<=cur.size/\∀ j,j<l.length->cur[j]?=some (.int .u64 (lg l j))
theorem cV.cell {w:World} {g:Nat} {l:List Int} (h:cV w g l) (j:Nat) (hj:j<l.length):w.cell? ⟨g,j,none⟩=some (.int .u64 (lg l j)):=by
 obtain⟨cur,h,_,hc⟩:=h;unfold World.cell?;rw[show w.heap[(⟨g,j,none⟩:Addr).block]?=_ from h];simpa using hc j hj
theorem cV.free {w:World} {g:Nat} {l:List Int} (h:cV w g l) (j:Nat):w.frozen? ⟨g,j,none⟩=false:=by
 obtain⟨cur,h,_,hc⟩:=h;unfold World.frozen?;rw[show w.heap[(⟨g,j,none⟩:Addr).block]?=_ from h];simp
theorem cV.lt {w:World} {g:Nat} {l:List Int} (h:cV w g l):g<w.heap.size:=by
 obtain⟨cur,h,_⟩:=h;exact(Array.getElem?_eq_some_iff.1 h).1
theorem cV.set {w:World} {g:Nat} {l:List Int} (h:cV w g l) (j:Nat) (x:Int):cV (w.setCell ⟨g,j,none⟩ (.int .u64 x)) g (l.set j x):=by
 obtain⟨cur,h,hl,hc⟩:=h;refine⟨cur.setIfInBounds j (.int .u64 x),by simp[World.setCell,Array.getElem?_modify,h],by simpa using hl,fun k hk=>?_⟩;rw[List.length_set]at hk
 rw[cO,Array.getElem?_setIfInBounds];by_cases e:j=k
 ·subst e
  rw[if_pos rfl,if_pos aD,if_pos ⟨rfl,hk⟩]
 ·rw[if_neg e,if_neg aD]
  exact hc k hk
theorem cV.only {w w1:World} {g g':Nat} {l:List Int} (h:cV w g l) (ho:bW g' w w1) (hne:g≠g'):cV w1 g l:=by
 obtain⟨cur,h,hl⟩:=h;exact⟨cur,(ho.block g hne).trans h,hl⟩
theorem cV.below {B:Nat} {w w1:World} {g:Nat} {l:List Int} (h:cV w g l) (ho:Below B w w1) (hne:g<B):cV w1 g l:=by
 obtain⟨cur,h,hl⟩:=h;exact⟨cur,(ho.block g hne).trans h,hl⟩
theorem cV.dP {w:World} {g:Nat} {l:List Int} (h:cV w g l) (n:Nat):cV (w.drewN n) g l:=h
theorem RL.cell {w:World} {g o:Nat} {l:List Int} (h:RL w (some ⟨g,o,none⟩) l) (j:Nat) (hj:j<l.length):w.cell? ⟨g,o+j,none⟩=some (.int .u64 (lg l j)):=by
 obtain⟨ad,e,hc⟩:=h.2 aD;cases e;have:=hc j hj;unfold Addr.add at this;split at this
 ·rename_i h0;subst h0;exact this
 ·exact this
theorem lD (A0:Option Addr) (n c0:Nat) (l:List Int) (hn:l.length=n) (hc0:n<=c0) (w:World) (hr:RL w A0 l) :
  Calls Tryz.prog 126 #[.slice A0 n c0] w fun e w'=>e = .returned (.slice A0 (bG l n) (bG l n))/\Dr w w':=by
 have hl:=hr.1;have hl2:n<=9223372036854775807:=by omega
 have HR:=Lib.hid hr;have HN:=Lib.hid hn;clear hr hn hl;go_enter Tryz.func126,Tryz.ntmps126;go_wp2
 go_loopw [3] (fun t w'=>∃ k:Nat,k<=n/\t = .int .i64 k/\Hid (bG l k=bG l n)/\Dr w w') (fun t _=>(intOf t).toNat)
 case atStart=>exact⟨n,Nat.le_refl _,rfl,Lib.hid rfl,Dr.refl _⟩
 case round =>
  obtain⟨k,hk,rfl,he,⟨m,rfl⟩⟩:=hrel;cases k with
  | zero =>
   have h1:decide ((0:Int)<((0:Nat):Int))=false:=by simp
   go_wp2
   repeat(go_quiet (fail);try go_wp2)
   go_ret
   have h0:bG l n=0:=he.out.symm;rw[h0];exact⟨rfl,by repeat(first|exact Dr.refl _|apply Dr.step)⟩
  | succ k =>
   have h1:decide ((0:Int)<((k+1:Nat):Int))=true:=by simp
   obtain⟨ad,rfl,hc⟩:=HR.out.2 (by have:=HN.out;omega);have hc1:=hc k (by have:=HN.out;omega);clear hc;have he':=he.out;clear he;by_cases hz:lg l k=0
   ·rw[KL hz]at he'
    have he:=Lib.hid he';clear he';rw[hz]at hc1
    clear hz;go_wp2
    repeat(go_quiet (fail);try go_wp2)
    exact⟨⟨k,by omega,rfl,he,by repeat(first|exact Dr.refl _|apply Dr.step)⟩,by simp[intOf]⟩
   ·rw[KM hz]at he'
    have he:=Lib.hid he';clear he';have hz1:(lg l k==0)=false:=beq_eq_false_iff_ne.mpr hz;clear hz;go_wp2
    repeat(go_quiet (fail);try go_wp2)
    go_ret
    have h0:bG l n=k+1:=he.out.symm;rw[h0];exact⟨rfl,by repeat(first|exact Dr.refl _|apply Dr.step)⟩
theorem aaA (a b:Int) (w:World):Calls Tryz.prog 141 #[.int .i64 a,.int .i64 b] w fun e w'=>e = .returned (.int .i64 (dY a b))/\w'=w:=by
 unfold dY;by_cases h1:a<b
 ·rw[if_pos h1]
  go_enter Tryz.func141,Tryz.ntmps141;go_wp2
  go_ret
  exact⟨rfl,rfl⟩
 ·rw[if_neg h1]
  by_cases h2:b<a
  ·rw[if_pos h2]
   go_enter Tryz.func141,Tryz.ntmps141;go_wp2
   go_ret
   exact⟨rfl,rfl⟩
  ·rw[if_neg h2]
   go_enter Tryz.func141,Tryz.ntmps141;go_wp2
   go_ret
   exact⟨rfl,rfl⟩
theorem aaB (a b:Int) (w:World):Calls Tryz.prog 142 #[.int .u64 a,.int .u64 b] w fun e w'=>e = .returned (.int .i64 (dY a b))/\w'=w:=by
 unfold dY;by_cases h1:a<b
 ·rw[if_pos h1]
  go_enter Tryz.func142,Tryz.ntmps142;go_wp2
  go_ret
  exact⟨rfl,rfl⟩
 ·rw[if_neg h1]
  by_cases h2:b<a
  ·rw[if_pos h2]
   go_enter Tryz.func142,Tryz.ntmps142;go_wp2
   go_ret
   exact⟨rfl,rfl⟩
  ·rw[if_neg h2]
   go_enter Tryz.func142,Tryz.ntmps142;go_wp2
   go_ret
   exact⟨rfl,rfl⟩
theorem Ez (A0 A1:Option Addr) (n m c0 c1:Nat) (a b:List Int) (hn:a.length=n) (hm:b.length=m) (w:World) (ha:RL w A0 a) (hb:RL w A1 b) :
  Calls Tryz.prog 127 #[.slice A0 n c0,.slice A1 m c1] w fun e w'=>e = .returned (.int .i64 (um a b n m))/\Dr w w':=by
 have hl:=ha.1;have hl':=hb.1;have hl2:n<=9223372036854775807:=by omega
 have gX:m<=9223372036854775807:=by omega
 have HA:=Lib.hid ha;have HN:=Lib.hid hn;have HB:=Lib.hid hb;have HM:=Lib.hid hm;clear ha hn hl hb hm hl';by_cases hc:dY n m=0
 ·have he:=Lib.hid (Tk hc)
  have HC:=Lib.hid hc;clear hc;go_enter Tryz.func127,Tryz.ntmps127;go_wp2_with fail
  refine(aaA _ _ _).mono ?_;rintro e w' ⟨rfl,rfl⟩;rw[HC.out];go_wp2
  go_loopw [6,7] (fun t s w1=>∃ k:Nat,k<=n/\t = .int .i64 ((k:Int)-1)/\Hid (pZ a b k=pZ a b n)/\Dr w' w1) (fun t _ _=>(intOf t+1).toNat)
  case atStart=>exact⟨n,Nat.le_refl _,rfl,Lib.hid rfl,Dr.refl _⟩
  case round =>
   obtain⟨k,hk,rfl,hh,⟨q,rfl⟩⟩:=hrel;cases k with
   | zero =>
    have h1:decide (0<=((0:Nat):Int)-1)=false:=by simp
    go_wp2
    go_ret
    have h0:um a b n m=0:=by unfold um;rw[if_pos HC.out];exact hh.out.symm
    rw[h0];exact⟨rfl,by repeat(first|exact Dr.refl _|apply Dr.step)⟩
   | succ k =>
    have h1:decide (0<=((k+1:Nat):Int)-1)=true:=by simp
    have e1:((k+1:Nat):Int)-1=(k:Int):=by omega
    rw[e1]at h1 ⊢
    clear e1;obtain⟨ad,rfl,ga⟩:=HA.out.2 (by have:=HN.out;omega);obtain⟨bd,rfl,gb⟩:=HB.out.2 (by have:=HM.out;have:=he.out;omega);have ga1:=ga k (by have:=HN.out;omega);have gb1:=gb k (by have:=HM.out;have:=he.out;omega);have hk2:k<m:=by have:=he.out;omega
    have hk3:k<n:=by omega
    clear ga gb;have J0:=hh.out;clear hh;by_cases hz:dY (lg a k) (lg b k)=0
    ·rw[KO hz]at J0
     have hh:=Lib.hid J0;have hz1:(dY (lg a k) (lg b k)==0)=true:=beq_iff_eq.mpr hz;have hz2:(dY (lg a k) (lg b k) != 0)=false:=bne_eq_false_iff_eq.mpr hz;clear J0 hz;go_wp2
     go_quiet ((go_at_call 142;refine(aaB _ _ _).mono ?_;rintro e w' ⟨rfl,rfl⟩;first|exact⟨rfl,_,rfl⟩|exact⟨rfl,0,rfl⟩))
     go_wp2
     repeat(go_quiet (fail);try go_wp2)
     exact⟨⟨k,by omega,by go_num,hh,by repeat(first|exact Dr.refl _|apply Dr.step)⟩,by simp[intOf]⟩
    ·rw[Cp hz]at J0
     have hh:=Lib.hid J0;have hz1:(dY (lg a k) (lg b k)==0)=false:=beq_eq_false_iff_ne.mpr hz;have hz2:(dY (lg a k) (lg b k) != 0)=true:=bne_iff_ne.mpr hz;clear J0 hz;go_wp2
     go_quiet ((go_at_call 142;refine(aaB _ _ _).mono ?_;rintro e w' ⟨rfl,rfl⟩;first|exact⟨rfl,_,rfl⟩|exact⟨rfl,0,rfl⟩))
     go_wp2
     repeat(go_quiet (fail);try go_wp2)
     go_ret
     have h0:um a b n m=dY (lg a k) (lg b k):=by unfold um;rw[if_pos HC.out];exact hh.out.symm
     rw[h0];exact⟨rfl,by repeat(first|exact Dr.refl _|apply Dr.step)⟩
 ·have he:=Lib.hid hc
  have h1:(dY n m==0)=false:=beq_eq_false_iff_ne.mpr hc;have h2:(dY n m != 0)=true:=bne_iff_ne.mpr hc;have h0:um a b n m=dY n m:=by unfold um;rw[if_neg hc]
  rw[h0];clear hc h0;go_enter Tryz.func127,Tryz.ntmps127;go_wp2_with (go_at_call 141;refine(aaA _ _ _).mono ?_;rintro e w' ⟨rfl,rfl⟩)
  go_ret
  exact⟨rfl,by repeat(first|exact Dr.refl _|apply Dr.step)⟩
def UP:Array Value->Sem Value:=fun args=>do
 let (x,y,b) <- Extern.MathBitsCarry.three "Sub64" args
 pure (Extern.MathBitsCarry.pair ((x+Extern.MathBitsCarry.m64-y-b)%Extern.MathBitsCarry.m64) (if x<y+b then 1 else 0))
theorem ai5 {P:Program} (x y b:Int) (hx:0<=x/\x<B) (hy:0<=y/\y<B) (hb:b=0\/b=1) (w:World) :
  (UP #[.int .u64 x,.int .u64 y,.int .u64 b]).run P w = .ok (.tuple #[.int .u64 (fV x y b),.int .u64 (fG x y b)]) w:=by
 obtain⟨x,rfl⟩:=Int.eq_ofNat_of_zero_le hx.1;obtain⟨y,rfl⟩:=Int.eq_ofNat_of_zero_le hy.1;rw[B_eq]at hx hy
 have key:∀ k:Nat,k<=1->(UP #[.int .u64 x,.int .u64 y,.int .u64 (k:Int)]).run P w =
   .ok (Extern.MathBitsCarry.pair ((x+Extern.MathBitsCarry.m64-y-k)%Extern.MathBitsCarry.m64) (if x<y+k then 1 else 0)) w:=by
  intro k hk;have:k=0\/k=1:=by omega
  rcases this with rfl|rfl <;> rfl
 obtain⟨k,hk,rfl⟩:∃ k:Nat,k<=1/\b=(k:Int):=by
  rcases hb with rfl|rfl
  ·exact⟨0,by omega,rfl⟩
  ·exact⟨1,by omega,rfl⟩
 rw[key k hk];have e1:fV x y k=((x+Extern.MathBitsCarry.m64-y-k)%Extern.MathBitsCarry.m64:Nat):=by
  unfold fV Extern.MathBitsCarry.m64;rw[B_eq];omega
 have e2:fG x y k=((if x<y+k then 1 else 0:Nat):Int):=by
  unfold fG;split <;> split <;> omega
 rw[e1,e2];rfl
theorem aan (x y b:Int) (hx:0<=x/\x<B) (hy:0<=y/\y<B) (hb:b=0\/b=1) (w:World) :
  (callFunc 147 #[.int .u64 x,.int .u64 y,.int .u64 b]).run Tryz.prog w = .ok (.value (.tuple #[.int .u64 (fV x y b),.int .u64 (fG x y b)])) w:=by
 rw[run_callFunc_extern (fn:=Tryz.f147) (e:=UP) (by kernel_rfl) (by kernel_rfl) (by kernel_rfl) (by kernel_rfl) (by kernel_rfl),ai5 x y b hx hy hb];rfl
theorem ai6 {P:Program} (x y b:Int) (hx:0<=x/\x<B) (hy:0<=y/\y<B) (hb:b=0\/b=1) (w:World) :
  (add64Entry #[.int .u64 x,.int .u64 y,.int .u64 b]).run P w = .ok (.tuple #[.int .u64 (gp x y b),.int .u64 (jg x y b)]) w:=by
 rw[run_add64 x y b hx.1 hy.1 aD aD];unfold gp jg;rw[B_eq]
theorem Tg (x y b:Int) (hx:0<=x/\x<B) (hy:0<=y/\y<B) (hb:b=0\/b=1) (w:World) :
  (callFunc 146 #[.int .u64 x,.int .u64 y,.int .u64 b]).run Tryz.prog w = .ok (.value (.tuple #[.int .u64 (gp x y b),.int .u64 (jg x y b)])) w:=by
 rw[run_callFunc_extern (fn:=Tryz.f146) (e:=add64Entry) (by kernel_rfl) (by kernel_rfl) (by kernel_rfl) (by kernel_rfl) (by kernel_rfl),ai6 x y b hx hy hb];rfl
theorem RL.only {w w1:World} {g:Nat} {A:Option Addr} {l:List Int} (h:RL w A l) (ho:bW g w w1) (hne:0<l.length->∀ ad,A=some ad->ad.block≠g):RL w1 A l :=
 ⟨h.1,fun hn=>by
  obtain⟨ad,e,hc⟩:=h.2 hn
  refine⟨ad,e,fun j hj=>?_⟩
  rw[<- hc j hj]
  refine World.cell?_of_block (w:=w) (ho.block _ ?_)
  have:=hne hn ad e
  unfold Addr.add
  split <;> exact this⟩
theorem RL.below {B:Nat} {w w1:World} {A:Option Addr} {l:List Int} (h:RL w A l) (ho:Below B w w1) (hB:w.heap.size<=B):RL w1 A l :=
 ⟨h.1,fun hn=>by
  obtain⟨ad,e,hc⟩:=h.2 hn
  refine⟨ad,e,fun j hj=>?_⟩
  rw[<- hc j hj]
  have:=World.block_lt_of_cell? w _ (hc j hj)
  exact ho.cell aD⟩
theorem RL.lt {w:World} {A:Option Addr} {l:List Int} (h:RL w A l) (hn:0<l.length) (ad:Addr) (he:A=some ad):ad.block<w.heap.size:=by
 obtain⟨zZ,e,hc⟩:=h.2 hn;rw[he]at e
 cases e;have:=World.block_lt_of_cell? w _ (hc 0 hn);unfold Addr.add at this;simpa using this
theorem RL.take {w:World} {A:Option Addr} {l:List Int} (h:RL w A l) (m:Nat):RL w A (l.take m):=by
 refine⟨by rw[List.length_take];have:=h.1;omega,fun hn=>?_⟩;rw[List.length_take]at hn
 obtain⟨ad,e,hc⟩:=h.2 aD;refine⟨ad,e,fun j hj=>?_⟩;rw[List.length_take]at hj
 rw[hc j aD,Aw,if_pos aD]
theorem RL.dP {w:World} {A:Option Addr} {l:List Int} (h:RL w A l) (n:Nat):RL (w.drewN n) A l:=h
theorem cV.RL {w:World} {g:Nat} {l:List Int} (h:cV w g l) (hl:l.length<=9223372036854775807):RL w (some ⟨g,0,none⟩) l :=
 ⟨hl,fun _=>⟨_,rfl,fun j hj=>by
  rw[show(⟨g,0,none⟩:Addr).add j=⟨g,j,none⟩ by unfold Addr.add;split <;> simp_all]
  exact h.cell j hj⟩⟩
def qz (w:World) (v:Value) (r:List Int):Prop:=∃ A c,v = .slice A r.length c/\r.length<=c/\RL w A r
def apT (g o n m:Nat) (L l:List Int) (w:World) (e:Ending) (w':World):Prop:=∃ L' b,e = .returned (.int .u64 b)/\cV w' g L'/\L'.length=L.length/\aH L'/\(∀ j,(j<o\/o+n<=j)->lg L' j=lg L j)/\(b=0\/b=1)/\win L' o n-b*B^n=win L o n-aQ (lg l) (min n m)/\bW g w w'
structure adS (g o n m:Nat) (L l:List Int) (w:World) (k:Nat) (b:Int) (L':List Int) (w1:World):Prop where
 blk:cV w1 g L'
 len:L'.length=L.length
 bL:aH L'
 Bx:∀ j,(j<o\/o+k<=j)->lg L' j=lg L j
 bit:b=0\/b=1
 val:win L' o k-b*B^k=win L o k-aQ (lg l) (min k m)
 only:bW g w w1
theorem VW (g o n c0:Nat) (L:List Int) (A1:Option Addr) (m c1:Nat) (l:List Int) (hm:l.length=m) (w:World) (hB:cV w g L) (hL:aH L) (ho:o+n<=L.length)
  (hn:n<=9223372036854775807) (hl:RL w A1 l) (j3:aH l) (hne:0<l.length->∀ ad,A1=some ad->ad.block≠g) :
  Calls Tryz.prog 133 #[.slice (some ⟨g,o,none⟩) n c0,.slice A1 m c1] w (apT g o n m L l w):=by
 have hm2:m<=9223372036854775807:=by have:=hl.1;omega
 have H0:adS g o n m L l w 0 0 L w:=⟨hB,rfl,hL,fun _ _=>rfl,.inl rfl,by simp[win,aQ],bW.refl _ _⟩
 have HM:=Lib.hid hm;have HO:=Lib.hid ho;have HL:=Lib.hid hl;have Db:=Lib.hid j3;have By:=Lib.hid hne;clear hm hB hL ho hl j3 hne;go_enter Tryz.func133,Tryz.ntmps133;go_wp2
 go_loopw [5,6,7,10] (fun bv _ _ t w1=>∃ (k:Nat) (b:Int) (L':List Int),k<=n/\t = .int .i64 k/\bv = .int .u64 b/\adS g o n m L l w k b L' w1) (fun _ _ _ t _=>n-(intOf t).toNat)
 case atStart=>exact⟨0,0,L,Nat.zero_le _,rfl,rfl,H0⟩
 case round =>
  clear H0;obtain⟨k,b,L',hk,rfl,rfl,hI⟩:=hrel;have HI:=Lib.hid hI;by_cases hlt:k<n
  ·have hc:=hI.blk.cell (o+k) (by rw[hI.len];have:=HO.out;omega)
   have hf:=hI.blk.free (o+k);have hx:=hI.bL (o+k);have hb:=hI.bit;have hS:=ot (o:=o) (L:=L) (m:=m) (by rw[hI.len];have:=HO.out;omega) hI.bL Db.out hI.Bx hb HM.out hI.val;have h1:decide ((k:Int)<(n:Int))=true:=by simp;omega
   by_cases hkm:k<m
   ·have h2:decide ((k:Int)<(m:Int))=true:=by simp;omega
    obtain⟨ad,rfl,cC⟩:=(HL.out.only hI.only By.out).2 (by have:=HM.out;omega);have hc2:=cC k (by have:=HM.out;omega);have Wn:=aan (lg L' (o+k)) (lg l k) b hx (Db.out k) hb;have HS:=Lib.hid hS;clear hS hI hx hb cC;have pg:=HI.out;go_wp2
    obtain⟨s1,s2,s3,s4⟩:=HS.out;exact⟨⟨k+1,_,_,by omega,by go_num,rfl,⟨pg.blk.set _ _,by rw[List.length_set];exact pg.len,s1,s2,s3,s4,pg.only.set _ _⟩⟩,by simp[intOf];omega⟩
   ·have h2:decide ((k:Int)<(m:Int))=false:=by simp;omega
    have hz:lg l k=0:=oz (by have:=HM.out;omega);rw[hz]at hS
    have Wn:=aan (lg L' (o+k)) 0 b hx (by rw[B_eq];omega) hb;have HS:=Lib.hid hS;clear hS hI hx hb hz;have pg:=HI.out;go_wp2
    obtain⟨s1,s2,s3,s4⟩:=HS.out;exact⟨⟨k+1,_,_,by omega,by go_num,rfl,⟨pg.blk.set _ _,by rw[List.length_set];exact pg.len,s1,s2,s3,s4,pg.only.set _ _⟩⟩,by simp[intOf];omega⟩
  ·have he:k=n:=by omega
   subst he;have h1:decide ((k:Int)<(k:Int))=false:=by simp
   go_wp2
   go_ret
   exact⟨L',b,rfl,hI.blk,hI.len,hI.bL,hI.Bx,hI.bit,hI.val,hI.only⟩
end Go.Proofs.YtfcjnhkkfmgmpaaGreat
namespace Go.Proofs.YtfcjnhkkfmgmpaaGreat.mG
open aS (lg cO oz Tr Aw bG qU KL KM Tf aaz gK lF mX dY Tk yL IA OK tP pZ um KO Cp gw su nv jM Yp Ys ug Y2 j4 EA aar nb QA EB yN Nr kF PZ aaW eF yH)
def B:Int:=4294967296
theorem B_eq:B=4294967296:=rfl
def aH (l:List Int):Prop:=∀ j,0<=lg l j/\lg l j<B
def aQ (f:Nat->Int):Nat->Int
 | 0=>0
 | n+1=>aQ f n+f n*B^n
def win (l:List Int) (o n:Nat):Int:=aQ (fun j=>lg l (o+j)) n
theorem kg {f g:Nat->Int} {n:Nat} (h:∀ j,j<n->f j=g j):aQ f n=aQ g n:=by
 induction n with
 | zero=>rfl
 | succ n ih=>unfold aQ;rw[ih (fun j hj=>h j (by omega)),h n (by omega)]
theorem Bp (n:Nat):0<B^n:=Int.pow_pos (by decide)
theorem Bs (n:Nat):B^(n+1)=B^n*B:=Int.pow_succ _ _
theorem iX {f:Nat->Int} (n:Nat) (h:∀ j,0<=f j/\f j<B):0<=aQ f n/\aQ f n<B^n:=by
 induction n with
 | zero=>exact⟨Int.le_refl _,by simp[aQ]⟩
 | succ n ih =>
  unfold aQ;rw[Bs];have h1:=h n;have h2:=Bp n;have h3:0<=f n*B^n:=Int.mul_nonneg h1.1 (Int.le_of_lt h2);have h4:f n*B^n<=(B-1)*B^n:=Int.mul_le_mul_of_nonneg_right (by omega) (Int.le_of_lt h2);have h5:(B-1)*B^n=B^n*B-B^n:=by grind
  omega
def fV (x y b:Int):Int:=(x+B-y-b)%B
def fG (x y b:Int):Int:=if x<y+b then 1 else 0
theorem sub_one {x y b:Int} (hx:0<=x/\x<B) (hy:0<=y/\y<B) (hb:b=0\/b=1):0<=fV x y b/\fV x y b<B/\(fG x y b=0\/fG x y b=1)/\fV x y b=x-y-b+fG x y b*B:=by
 unfold fV fG;rw[B_eq]at *
 split <;> omega
def gp (x y c:Int):Int:=(x+y+c)%B
def jg (x y c:Int):Int:=(x+y+c) / B
theorem add_one {x y c:Int} (hx:0<=x/\x<B) (hy:0<=y/\y<B) (hb:c=0\/c=1):0<=gp x y c/\gp x y c<B/\(jg x y c=0\/jg x y c=1)/\gp x y c+jg x y c*B=x+y+c:=by
 unfold gp jg;rw[B_eq]at *
 omega
theorem eO (l:List Int) (o n:Nat):win l o (n+1)=win l o n+lg l (o+n)*B^n:=rfl
theorem gB {l l':List Int} {o n:Nat} (h:∀ j,j<n->lg l (o+j)=lg l' (o+j)):win l o n=win l' o n:=kg h
theorem aH.set {l:List Int} (h:aH l) (j:Nat) {x:Int} (hx:0<=x/\x<B):aH (l.set j x):=by
 intro k;rw[cO];split
 ·exact hx
 ·exact h k
theorem ot {L L' l:List Int} {o k m:Nat} {b:Int} (hk:o+k<L'.length) (hL:aH L') (hl:aH l)
  (jD:∀ j,(j<o\/o+k<=j)->lg L' j=lg L j) (hb:b=0\/b=1) (hm:l.length=m)
  (hv:win L' o k-b*B^k=win L o k-aQ (lg l) (min k m)) :
  let x:=lg L' (o+k);let y:=lg l k;let L2:=L'.set (o+k) (fV x y b);let b2:=fG x y b
  aH L2/\(∀ j,(j<o\/o+(k+1)<=j)->lg L2 j=lg L j)/\(b2=0\/b2=1)/\win L2 o (k+1)-b2*B^(k+1)=win L o (k+1)-aQ (lg l) (min (k+1) m):=by
 intro x y L2 b2;obtain⟨h0,h1,h2,h3⟩:=sub_one (x:=x) (y:=y) (b:=b) (hL _) (hl _) hb;refine⟨hL.set _ ⟨h0,h1⟩,?_,h2,?_⟩
 ·intro j hj
  show lg (L'.set (o+k) _) j=_;rw[cO,if_neg (by omega)];exact jD j (by omega)
 ·have e1:win L2 o k=win L' o k:=gB fun j hj=>by
   show lg (L'.set (o+k) _) _=_;rw[cO,if_neg (by omega)]
  have e2:lg L2 (o+k)=fV x y b:=by
   show lg (L'.set (o+k) _) _=_;rw[cO,if_pos ⟨rfl,hk⟩]
  have e3:aQ (lg l) (min (k+1) m)=aQ (lg l) (min k m)+y*B^k:=by
   by_cases hkm:k<m
   ·rw[show min (k+1) m=k+1 by omega,show min k m=k by omega];rfl
   ·rw[show min (k+1) m=m by omega,show min k m=m by omega]
    have:y=0:=oz (by omega);rw[this];simp
  have e4:lg L (o+k)=x:=(jD (o+k) (by omega)).symm;rw[eO,eO,e1,e2,e3,e4,Bs];show win L' o k+fV x y b*B^k-fG x y b*(B^k*B)=_;rw[h3];generalize fG x y b=c at *;generalize win L' o k=p at *;generalize win L o k=q at *;generalize aQ (lg l) (min k m)=r at *;generalize B^k=P at *;grind
theorem nP {L L' l:List Int} {o k:Nat} {x c:Int} (hk:o+k<L'.length) (hL:aH L') (hl:aH l)
  (jD:∀ j,(j<o\/o+k<=j)->lg L' j=lg L j) (hx:0<=x/\x<B) (hc:0<=c/\c<B)
  (hv:win L' o k+c*B^k=win L o k+x*aQ (lg l) k) {d c2:Int} (hd:0<=d/\d<B) (he:d+c2*B=x*lg l k+lg L' (o+k)+c) :
  let L2:=L'.set (o+k) d
  aH L2/\(∀ j,(j<o\/o+(k+1)<=j)->lg L2 j=lg L j)/\win L2 o (k+1)+c2*B^(k+1)=win L o (k+1)+x*aQ (lg l) (k+1):=by
 intro L2;refine⟨hL.set _ hd,?_,?_⟩
 ·intro j hj
  show lg (L'.set (o+k) _) j=_;rw[cO,if_neg (by omega)];exact jD j (by omega)
 ·have e1:win L2 o k=win L' o k:=gB fun j hj=>by
   show lg (L'.set (o+k) _) _=_;rw[cO,if_neg (by omega)]
  have e2:lg L2 (o+k)=d:=by
   show lg (L'.set (o+k) _) _=_;rw[cO,if_pos ⟨rfl,hk⟩]
  have e4:lg L (o+k)=lg L' (o+k):=(jD (o+k) (by omega)).symm;rw[eO,eO,e1,e2,e4,Bs];show win L' o k+d*B^k+c2*(B^k*B)=win L o k+lg L' (o+k)*B^k+x*(aQ (lg l) k+lg l k*B^k);generalize win L' o k=p at *;generalize win L o k=q at *;generalize aQ (lg l) k=r at *;generalize B^k=P at *;generalize lg L' (o+k)=t at *;generalize lg l k=y at *;have:d=x*y+t+c-c2*B:=by omega
  subst this;grind
def lv (l:List Int):Int:=aQ (lg l) l.length
theorem jH {f:Nat->Int} {m n:Nat} (hmn:m<=n) (h:∀ j,m<=j->j<n->f j=0):aQ f n=aQ f m:=by
 induction n with
 | zero=>rw[show m=0 by omega]
 | succ n ih =>
  by_cases e:m=n+1
  ·rw[e]
  ·show aQ f n+f n*B^n=_
   rw[h n (by omega) (by omega),ih (by omega) (fun j h1 h2=>h j h1 (by omega))];simp
theorem kM {l:List Int} {n:Nat} (h:l.length<=n):aQ (lg l) n=lv l:=jH h fun _ h1 _=>oz h1
theorem aH.take {l:List Int} (h:aH l) (m:Nat):aH (l.take m):=by
 intro j;rw[Aw];split
 ·exact h j
 ·exact⟨Int.le_refl _,by decide⟩
theorem dF {l:List Int} (h:aH l):0<=lv l/\lv l<B^l.length:=iX _ h
theorem eH (l:List Int):lv (l.take (bG l l.length))=lv l:=by
 unfold lv;rw[gK,jH (qU l l.length) (Tf l l.length)];exact kg fun j hj=>by rw[Aw,if_pos hj]
theorem jd (n:Nat):aH (List.replicate n 0):=fun j=>by rw[mX];exact⟨Int.le_refl _,by decide⟩
theorem fj (l:List Int):win l 0 l.length=lv l:=kg fun j _=>by rw[Nat.zero_add]
theorem nU {L' x y:List Int} {k:Nat} {c:Int} (hk:k<L'.length) (hL:aH L') (hx:aH x) (hy:aH y) (hc:c=0\/c=1)
  (hv:win L' 0 k+c*B^k=aQ (lg x) k+aQ (lg y) k) :
  let L2:=L'.set k (gp (lg x k) (lg y k) c);let c2:=jg (lg x k) (lg y k) c
  aH L2/\(c2=0\/c2=1)/\win L2 0 (k+1)+c2*B^(k+1)=aQ (lg x) (k+1)+aQ (lg y) (k+1):=by
 intro L2 c2;obtain⟨a0,a1,a2,a3⟩:=add_one (hx k) (hy k) hc;refine⟨hL.set _ ⟨a0,a1⟩,a2,?_⟩;have e1:win L2 0 k=win L' 0 k:=gB fun j hj=>by
  show lg (L'.set k _) _=_;rw[cO,if_neg (by omega)]
 have e2:lg L2 (0+k)=gp (lg x k) (lg y k) c:=by
  show lg (L'.set k _) _=_;rw[cO,if_pos ⟨by omega,hk⟩]
 rw[eO,e1,e2,Bs];show win L' 0 k+gp (lg x k) (lg y k) c*B^k+c2*(B^k*B)=aQ (lg x) k+lg x k*B^k+(aQ (lg y) k+lg y k*B^k)
 have a3':gp (lg x k) (lg y k) c+c2*B=lg x k+lg y k+c:=a3;generalize gp (lg x k) (lg y k) c=d at *;generalize win L' 0 k=p at *;generalize aQ (lg x) k=q at *;generalize aQ (lg y) k=r at *;generalize B^k=P at *;generalize lg x k=u at *;generalize lg y k=v at *;have:d=u+v+c-c2*B:=by omega
 subst this;grind
theorem kY {m n:Nat} (h:m<=n):B^m<=B^n:=by
 obtain⟨d,rfl⟩:=Nat.exists_eq_add_of_le h;rw[Int.pow_add];have h1:=Bp m;have h2:=Bp d;have:B^m*1<=B^m*B^d:=Int.mul_le_mul_of_nonneg_left (by omega) (by omega);omega
theorem nY {L x y:List Int} {n:Nat} {c:Int} (hL:L.length=n+1) (j3:aH L) (hx:aH x) (hy:aH y) (JZ:x.length<=n) (Nb:y.length<=n) (hc:c=0\/c=1)
  (hv:win L 0 (n+1)+c*B^(n+1)=aQ (lg x) (n+1)+aQ (lg y) (n+1)):lv L=lv x+lv y:=by
 rw[kM (by omega),kM (by omega)]at hv
 have e:win L 0 (n+1)=lv L:=by rw[<- hL];exact fj L
 rw[e]at hv
 have b1:=dF hx;have b2:=dF hy;have b3:=(dF j3).1;have m1:=kY JZ;have m2:=kY Nb;have m3:=Bp n;rw[Bs]at hv
 have:B^n*2<=B^n*B:=Int.mul_le_mul_of_nonneg_left (by decide) (by omega);rcases hc with rfl|rfl
 ·omega
 ·omega
theorem iu {r:List Int} (h:Tr r) (hl:aH r) {k:Nat} (hv:lv r<B^k):r.length<=k:=by
 apply Nat.le_of_not_lt;intro hgt;rcases h with h|h
 ·omega
 ·obtain⟨m,hm⟩:∃ m,r.length=m+1:=⟨r.length-1,by omega⟩
  have e:lv r=aQ (lg r) m+lg r m*B^m:=by unfold lv;rw[hm];rfl
  rw[hm]at h
  have h1:=(iX m hl).1;have h2:=hl m;have h3:lg r m≠0:=h;have h4:=Bp m;have h5:1*B^m<=lg r m*B^m:=Int.mul_le_mul_of_nonneg_right (by omega) (by omega);have:=kY (show k<=m by omega);omega
theorem nV {a b:List Int} (ha:aH a) (hb:aH b) (n:Nat):pZ a b n=dY (aQ (lg a) n) (aQ (lg b) n):=by
 induction n with
 | zero=>rfl
 | succ n ih =>
  have e1:aQ (lg a) (n+1)=aQ (lg a) n+lg a n*B^n:=rfl;have e2:aQ (lg b) (n+1)=aQ (lg b) n+lg b n*B^n:=rfl;have b1:=iX n ha;have b2:=iX n hb;have hp:=Bp n;rw[e1,e2];rcases tP (lg a n) (lg b n) with ⟨h,hc⟩|⟨h,hc⟩|⟨h,hc⟩
  ·rw[Cp (by omega),hc]
   have:(lg a n+1)*B^n<=lg b n*B^n:=Int.mul_le_mul_of_nonneg_right (by omega) (by omega);have e:(lg a n+1)*B^n=lg a n*B^n+B^n:=by grind
   rw[yL (by omega)]
  ·rw[KO hc,ih,h]
   generalize lg b n*B^n=q;unfold dY;have e1:(aQ (lg a) n+q<aQ (lg b) n+q)=(aQ (lg a) n<aQ (lg b) n):=by
    apply propext;omega
   have e2:(aQ (lg b) n+q<aQ (lg a) n+q)=(aQ (lg b) n<aQ (lg a) n):=by
    apply propext;omega
   simp only[e1,e2]
  ·rw[Cp (by omega),hc]
   have:(lg b n+1)*B^n<=lg a n*B^n:=Int.mul_le_mul_of_nonneg_right (by omega) (by omega);have e:(lg b n+1)*B^n=lg b n*B^n+B^n:=by grind
   rw[IA (by omega)]
theorem lM {a b:List Int} (ha:aH a) (hb:aH b) (tb:Tr b) (h:a.length<b.length):lv a<lv b:=by
 apply Int.lt_of_not_ge;intro hge;have:=iu tb hb (k:=a.length) (by have:=(dF ha).2;omega);omega
theorem lN {a b:List Int} (ha:aH a) (hb:aH b) (ta:Tr a) (tb:Tr b):um a b a.length b.length=dY (lv a) (lv b):=by
 unfold um;rcases tP (a.length:Int) (b.length:Int) with ⟨h,hc⟩|⟨h,hc⟩|⟨h,hc⟩
 ·rw[if_neg (by omega),hc,yL (lM ha hb tb (by omega))]
 ·rw[if_pos hc,nV ha hb]
  have:a.length=b.length:=by omega
  unfold lv;rw[<- this]
 ·rw[if_neg (by omega),hc,IA (lM hb ha ta (by omega))]
theorem nW {L a l:List Int} {n:Nat} {b:Int} (hL:L.length=n) (j3:aH L) (hla:aH a) (ha:a.length=n) (hl:aH l) (xP:l.length<=n) (hb:b=0\/b=1)
  (hle:lv l<=lv a) (hv:win L 0 n-b*B^n=win a 0 n-aQ (lg l) (min n l.length)):lv L=lv a-lv l:=by
 have e:win L 0 n=lv L:=by rw[<- hL];exact fj L
 have e2:win a 0 n=lv a:=by rw[<- ha];exact fj a
 rw[e,e2,show min n l.length=l.length by omega,show aQ (lg l) l.length=lv l from rfl]at hv
 have h1:=dF j3;rw[hL]at h1
 rcases hb with rfl|rfl
 ·omega
 ·omega
theorem iO (l:List Int) (o k m:Nat):win l o (k+m)=win l o k+B^k*win l (o+k) m:=by
 induction m with
 | zero=>simp[win,aQ]
 | succ m ih =>
  rw[show k+(m+1)=k+m+1 by omega,eO,ih,eO,Int.pow_add,show o+(k+m)=o+k+m by omega];grind
theorem nX {L' L2 b:List Int} {k m:Nat} {c x a:Int} (hlen:L2.length=L'.length) (hk:k+m<L'.length) (j3:aH L2)
  (jD:∀ j,(j<k\/k+m<=j)->lg L2 j=lg L' j) (hz:∀ j,k+m<=j->lg L' j=0) (hc:0<=c/\c<B)
  (hv:win L2 k m+c*B^m=win L' k m+x*lv b) (ha:win L' 0 (k+m)=a*lv b) :
  let L3:=L2.set (k+m) c
  aH L3/\(∀ j,k+1+m<=j->lg L3 j=0)/\win L3 0 (k+1+m)=(a+x*B^k)*lv b:=by
 intro L3;refine⟨j3.set _ hc,fun j hj=>?_,?_⟩
 ·show lg (L2.set _ _) j=0
  rw[cO,if_neg (by omega),jD j (by omega),hz j (by omega)]
 ·have e1:win L3 0 (k+m)=win L2 0 (k+m):=gB fun j hj=>by
   show lg (L2.set _ _) _=_;rw[cO,if_neg (by omega)]
  have e2:lg L3 (0+(k+m))=c:=by
   show lg (L2.set _ _) _=_;rw[cO,if_pos ⟨by omega,by omega⟩]
  have e3:win L2 0 k=win L' 0 k:=gB fun j hj=>jD _ (by omega);rw[show k+1+m=k+m+1 by omega,eO,e1,e2,iO,Int.pow_add,e3,Nat.zero_add];rw[iO,Nat.zero_add]at ha
  generalize win L2 k m=p at *;generalize win L' k m=q at *;generalize win L' 0 k=r at *;generalize B^k=P at *;generalize B^m=M at *;generalize lv b=v at *;have e4:P*p+c*(P*M)=P*(p+c*M):=by grind
  have e5:P*(q+x*v)=P*q+x*P*v:=by grind
  have e6:(a+x*P)*v=a*v+x*P*v:=by grind
  rw[e6,<- ha,Int.add_assoc,e4,hv,e5];omega
theorem kj (l:List Int) (o m:Nat):win l o (m+1)=lg l o+B*win l (o+1) m:=by
 rw[Nat.add_comm m 1,iO,show B^1=B from by rw[Int.pow_succ,Int.pow_zero,Int.one_mul]];simp[win,aQ]
theorem kL {l:List Int} (h:aH l) (o n:Nat):0<=win l o n/\win l o n<B^n:=iX n fun j=>h _
theorem mY {L L':List Int} {i m N:Nat} (hN:i+m<=N) (jD:∀ j,(j<i\/i+m<=j)->lg L' j=lg L j):win L' 0 N-win L 0 N=B^i*(win L' i m-win L i m):=by
 obtain⟨d,rfl⟩:=Nat.exists_eq_add_of_le hN;rw[iO L',iO L,iO L',iO L,Nat.zero_add,Nat.zero_add];have e1:win L' 0 i=win L 0 i:=gB fun j hj=>jD _ (by omega);have e2:win L' (i+m) d=win L (i+m) d:=gB fun j hj=>jD _ (by omega);rw[e1,e2];grind
theorem YB (n:Nat):(256:Int)^(4*n)=B^n:=by
 rw[Int.pow_mul];rfl
theorem nj {L:List Int} {j:Nat} {x:Int} (hj:j<L.length):lv (L.set j x)=lv L+(x-lg L j)*B^j:=by
 have h:=mY (L:=L) (L':=L.set j x) (i:=j) (m:=1) (N:=L.length) (by omega) (fun t ht=>by rw[cO,if_neg (by omega)]);have e1:win (L.set j x) 0 L.length=lv (L.set j x):=by
  have:=fj (L.set j x);rw[List.length_set]at this;exact this
 rw[e1,fj]at h
 have w1:∀ l:List Int,win l j 1=lg l j:=fun l=>by
  rw[eO,Int.pow_zero,Int.mul_one,Nat.add_zero];exact Int.zero_add _
 have e2:win (L.set j x) j 1=x:=by rw[w1,cO,if_pos ⟨rfl,hj⟩]
 have e3:win L j 1=lg L j:=w1 L;rw[e2,e3]at h
 have:(x-lg L j)*B^j=B^j*(x-lg L j):=Int.mul_comm _ _;omega
structure iH (f:Nat->Int) (N k:Nat) (L:List Int):Prop where
 len:L.length=N
 bL:aH L
 low:lg L (k / 4)<256^(k%4)
 zero:∀ j,k / 4<j->lg L j=0
 val:lv L=j4 f k
theorem iH.step {f:Nat->Int} {N k:Nat} {L:List Int} (h:iH f N k L) (hf:∀ j,0<=f j/\f j<256) (hk:k / 4<N) :
  (0<=f k*256^(k%4)/\f k*256^(k%4)<B/\lg L (k / 4)+f k*256^(k%4)<B)/\iH f N (k+1) (L.set (k / 4) (lg L (k / 4)+f k*256^(k%4))):=by
 have hl0:=(h.bL (k / 4)).1;have GI:=hf k;have JJ:=h.low;have hp:=Yp (k%4);have h3:0<=f k*256^(k%4):=Int.mul_nonneg GI.1 (Int.le_of_lt hp);have h4:f k*256^(k%4)<=(256-1)*256^(k%4):=Int.mul_le_mul_of_nonneg_right (by omega) (Int.le_of_lt hp);have h5:(256-1:Int)*256^(k%4)=256^(k%4+1)-256^(k%4):=by rw[Ys];grind
 have h6:(256:Int)^(k%4+1)<=B:=by
  exact ug (n:=4) (by omega)
 have hval:lv (L.set (k / 4) (lg L (k / 4)+f k*256^(k%4)))=j4 f (k+1):=by
  rw[nj (by rw[h.len];exact hk),h.val];show _=j4 f k+f k*256^k;have e:(256:Int)^k=256^(k%4)*B^(k / 4):=by
   rw[<- YB,<- Int.pow_add];congr 1;omega
  rw[e];grind
 refine⟨⟨h3,by omega,by omega⟩,⟨by rw[List.length_set];exact h.len,h.bL.set _ ⟨by omega,by omega⟩,?_,?_,hval⟩⟩
 ·by_cases e:(k+1) / 4=k / 4
  ·rw[e,cO,if_pos ⟨rfl,by rw[h.len];exact hk⟩,show(k+1)%4=k%4+1 by omega]
   omega
  ·rw[cO,if_neg (by omega),h.zero _ (by omega)]
   exact Yp _
 ·intro j hj
  rw[cO,if_neg (by omega)];exact h.zero j (by omega)
theorem iH.start (f:Nat->Int) (N:Nat):iH f N 0 (List.replicate N 0) :=
 ⟨by simp,jd _,by rw[mX];exact Yp _,fun j _=>mX _ _,jH (m:=0) (by omega) fun j _ _=>mX _ _⟩
theorem iH.top {f:Nat->Int} {n:Nat} {L:List Int} (h:iH f ((n+3) / 4) n L) (hf:∀ j,0<=f j/\f j<256) (mH:0<n->f (n-1)≠0):Tr L:=by
 cases n with
 | zero=>exact .inl (by rw[h.len])
 | succ n =>
  have hl:=h.len;have hN:(n+1+3) / 4=n / 4+1:=by omega
  right;rw[hl,hN,Nat.add_sub_cancel];intro hz;have e1:lv L=aQ (lg L) (n / 4):=by
   unfold lv;rw[hl,hN];show aQ (lg L) (n / 4)+lg L (n / 4)*B^(n / 4)=_;rw[hz,Int.zero_mul,Int.add_zero]
  have e2:=h.val;have b:=iX (n / 4) h.bL;have:j4 f (n+1)=j4 f n+f n*256^n:=rfl;have h0:=(EA n hf).1;have hne:=mH (by omega);rw[Nat.add_sub_cancel]at hne
  have xW:=hf n;have h1:1*256^n<=f n*256^n:=Int.mul_le_mul_of_nonneg_right (by omega) (Int.le_of_lt (Yp n));have h2:B^(n / 4)<=256^n:=by
   rw[<- YB];exact ug (by omega)
  omega
theorem n7 {l:List Int} (hl:aH l) (i:Nat):kF (lv l) i=lg l (i / 4) / 256^(i%4)%256:=by
 unfold kF;have e1:lv l=win l 0 (i / 4)+B^(i / 4)*win l (i / 4) (l.length+1):=by
  have:lv l=win l 0 (i / 4+(l.length+1)):=by
   unfold win;rw[kg (g:=lg l) fun j _=>by rw[Nat.zero_add]];exact(kM (by omega)).symm
  rw[this,iO,Nat.zero_add]
 have b:=kL hl 0 (i / 4);have e2:(256:Int)^i=B^(i / 4)*256^(i%4):=by
  rw[<- YB,<- Int.pow_add];congr 1;omega
 have hp:=Bp (i / 4);rw[e2,<- Int.ediv_ediv_of_nonneg (by omega)];have e3:lv l / B^(i / 4)=win l (i / 4) (l.length+1):=by
  rw[e1,Int.add_mul_ediv_left _ _ (by omega),Int.ediv_eq_zero_of_lt b.1 b.2,Int.zero_add]
 rw[e3,kj];have hB:B=256^(i%4)*(256^(3-i%4)*256):=by
  rw[<- Ys,<- Int.pow_add,show i%4+(3-i%4+1)=4 by omega];rfl
 have e4:lg l (i / 4)+B*win l (i / 4+1) l.length=lg l (i / 4)+256^(i%4)*(256^(3-i%4)*256*win l (i / 4+1) l.length):=by
  rw[hB];grind
 have hy:=Yp (i%4);rw[e4,Int.add_mul_ediv_left _ _ (by omega)];have e5:(256:Int)^(3-i%4)*256*win l (i / 4+1) l.length=256*(256^(3-i%4)*win l (i / 4+1) l.length):=by grind
 rw[e5,Int.add_mul_emod_self_left]
end Go.Proofs.YtfcjnhkkfmgmpaaGreat.mG
