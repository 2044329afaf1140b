import Derived.Test.YtfcjnhkkfmgmpaaGreatZtG11
import Derived.Lib.Mul64
import Derived.Laws.Bits64b
import Derived.Deep.OwnRows
import Derived.Laws.OwnMore
import Derived.Laws.NewBlocks
import Derived.Deep.DeepCutAuto
import Derived.Deep.CutBlock
import Derived.Tactics2
import Derived.Laws.AppendOwn
set_option linter.all false
set_option maxRecDepth 100000
set_option maxHeartbeats 8000000
namespace Go.Proofs.YtfcjnhkkfmgmpaaGreat
open Go.RowKit aS Go.Lib
namespace rB
theorem maskN (a:Nat) (ha:a<18446744073709551616):bits .and .u64 (a:Int) 4294967295=((a%4294967296:Nat):Int):=by
 have h:=bits_and_u64_nat a 4294967295 ha aD;have e:a &&& 4294967295=a%4294967296:=Nat.and_two_pow_sub_one_eq_mod a 32;rw[e]at h
 exact h
theorem divN (a:Nat):(a:Int) / 4294967296=((a / 4294967296:Nat):Int):=by omega
theorem mulN (a b:Nat):(a:Int)*(b:Int)=((a*b:Nat):Int):=(Int.natCast_mul a b).symm
theorem addN (a b:Nat):(a:Int)+(b:Int)=((a+b:Nat):Int):=(Int.natCast_add a b).symm
theorem wrapN (a:Nat) (ha:a<18446744073709551616):IntKind.u64.wrap (a:Int)=(a:Int):=by rw[IntKind.wrap_u64];omega
theorem wrapM (a:Nat):IntKind.u64.wrap (a:Int)=((a%18446744073709551616:Nat):Int):=by rw[IntKind.wrap_u64];omega
end rB
theorem alm (x y:Nat) (hx:x<18446744073709551616) (hy:y<18446744073709551616) (w:World) :
  Calls Tryz.prog 145 #[.int .u64 x,.int .u64 y] w fun e w'=>e = .returned (.tuple #[.int .u64 ((x*y / 18446744073709551616:Nat):Int),.int .u64 ((x*y%18446744073709551616:Nat):Int)])/\w'=w:=by
 obtain⟨bd,bt,bw,hhi⟩:=Lib.mul64_hi x y hx hy;have ba:=Lib.half_mul_le (a:=x / 4294967296) (b:=y / 4294967296) aD aD;have bb:=Lib.half_mul_le (a:=x / 4294967296) (b:=y%4294967296) aD aD;have bc:=Lib.half_mul_le (a:=x%4294967296) (b:=y / 4294967296) aD aD;have ba':x / 4294967296*(y / 4294967296)<18446744073709551616:=by omega
 have bb':x / 4294967296*(y%4294967296)<18446744073709551616:=by omega
 have bc':x%4294967296*(y / 4294967296)<18446744073709551616:=by omega
 have bh1:x / 4294967296*(y / 4294967296)+(x / 4294967296*(y%4294967296)+x%4294967296*(y%4294967296) / 4294967296) / 4294967296<18446744073709551616:=by omega
 have bh:x / 4294967296*(y / 4294967296)+(x / 4294967296*(y%4294967296)+x%4294967296*(y%4294967296) / 4294967296) / 4294967296+((x / 4294967296*(y%4294967296)+x%4294967296*(y%4294967296) / 4294967296)%4294967296+x%4294967296*(y / 4294967296)) / 4294967296<18446744073709551616:=by omega
 go_enter Tryz.func145,Tryz.ntmps145;go_wp2
 simp only[rB.maskN x hx,rB.maskN y hy,rB.divN,rB.mulN,rB.addN,rB.wrapN _ bd,rB.wrapN _ bb',rB.wrapN _ bt,rB.maskN _ bt,rB.wrapN _ bc',rB.wrapN _ bw,rB.wrapN _ ba',rB.wrapN _ bh1,rB.wrapN _ bh,rB.wrapM (x*y)];rw[hhi];go_ret2
 exact⟨rfl,rfl⟩
theorem aln (x y:Int) (hx:0<=x/\x<B) (hy:0<=y/\y<B) (w:World) :
  Calls Tryz.prog 145 #[.int .u64 x,.int .u64 y] w fun e w'=>e = .returned (.tuple #[.int .u64 (x*y / B),.int .u64 (x*y%B)])/\w'=w:=by
 obtain⟨x,rfl⟩:=Int.eq_ofNat_of_zero_le hx.1;obtain⟨y,rfl⟩:=Int.eq_ofNat_of_zero_le hy.1;rw[B_eq]at *
 have h:=alm x y aD aD w;rw[Int.natCast_ediv,Int.natCast_emod,Int.natCast_mul]at h
 exact h
theorem cJ (a:Int) (h:0<=a/\a<B):IntKind.u64.wrap a=a:=by rw[IntKind.wrap_u64];rw[B_eq]at h;omega
def apY (g o n:Nat) (L l:List Int) (x:Int) (w:World) (e:Ending) (w':World):Prop:=∃ L' c,e = .returned (.int .u64 c)/\cV w' g L'/\L'.length=L.length/\aH L'/\(∀ j,(j<o\/o+n<=j)->lg L' j=lg L j)/\(0<=c/\c<B)/\win L' o n+c*B^n=win L o n+x*aQ (lg l) n/\bW g w w'
structure adW (g o:Nat) (L l:List Int) (x:Int) (w:World) (k:Nat) (c:Int) (L':List Int) (w1:World):Prop where
 blk:cV w1 g L'
 len:L'.length=L.length
 bL:aH L'
 Bx:∀ j,(j<o\/o+k<=j)->lg L' j=lg L j
 z8:0<=c/\c<B
 val:win L' o k+c*B^k=win L o k+x*aQ (lg l) k
 only:bW g w w1
theorem aah (g o n c0:Nat) (L:List Int) (A1:Option Addr) (c1:Nat) (l:List Int) (x:Int) (hm:l.length=n) (w:World) (hB:cV w g L) (hL:aH L) (ho:o+n<=L.length)
  (hl:RL w A1 l) (j3:aH l) (hne:0<l.length->∀ ad,A1=some ad->ad.block≠g) (hx:0<=x/\x<B) :
  Calls Tryz.prog 132 #[.slice (some ⟨g,o,none⟩) n c0,.slice A1 n c1,.int .u64 x] w (apY g o n L l x w):=by
 have hm2:n<=9223372036854775807:=by have:=hl.1;omega
 have H0:adW g o L l x w 0 0 L w:=⟨hB,rfl,hL,fun _ _=>rfl,⟨Int.le_refl _,by decide⟩,by simp[win,aQ],bW.refl _ _⟩
 have HM:=Lib.hid hm;have HO:=Lib.hid ho;have HL:=Lib.hid hl;have Db:=Lib.hid j3;have By:=Lib.hid hne;have HX:=Lib.hid hx;clear hm hB hL ho hl j3 hne hx;go_enter Tryz.func132,Tryz.ntmps132;go_wp2
 go_loopw [7,8,9,10,11,12,15] (fun cv _ _ _ _ _ t w1=>∃ (k:Nat) (c:Int) (L':List Int),k<=n/\t = .int .i64 k/\cv = .int .u64 c/\adW g o L l x w k c L' w1) (fun _ _ _ _ _ _ t _=>n-(intOf t).toNat)
 case atStart=>exact⟨0,0,L,Nat.zero_le _,rfl,rfl,H0⟩
 case round =>
  clear H0;obtain⟨k,c,L',hk,rfl,rfl,hI⟩:=hrel;have HI:=Lib.hid hI;by_cases hlt:k<n
  ·have hc:=hI.blk.cell (o+k) (by rw[hI.len];have:=HO.out;omega)
   have hf:=hI.blk.free (o+k);obtain⟨m1,m2,m3,m4,m5,m6⟩:=mul_one HX.out (Db.out k) (hI.bL (o+k)) hI.z8;have hS:=nP (o:=o) (L:=L) (by rw[hI.len];have:=HO.out;omega) hI.bL Db.out hI.Bx HX.out hI.z8 hI.val m4 m6;have h1:decide ((k:Int)<(n:Int))=true:=by simp;omega
   obtain⟨ad,rfl,cC⟩:=(HL.out.only hI.only By.out).2 (by have:=HM.out;omega);have hc2:=cC k (by have:=HM.out;omega);have Wn:=Tg (x*lg l k%B) (lg L' (o+k)) 0 m1 (hI.bL _) (Or.inl rfl);have ayL:=Tg (gp (x*lg l k%B) (lg L' (o+k)) 0) c 0 m2 hI.z8 (Or.inl rfl);have HS:=Lib.hid hS;have M3:=Lib.hid m3;have M5:=Lib.hid m5;clear hS hI cC m1 m2 m3 m4 m5 m6;go_wp2_with (go_at_call 145;refine(aln x (lg l k) HX.out (Db.out k) _).mono ?_;rintro e w' ⟨rfl,rfl⟩)
   have pg:=HI.out;obtain⟨s1,s2,s4⟩:=HS.out;have W1:=cJ _ M3.out;have W2:=cJ _ M5.out;refine⟨⟨k+1,_,_,by omega,by go_num,?_,⟨pg.blk.set _ _,by rw[List.length_set];exact pg.len,s1,s2,M5.out,s4,pg.only.set _ _⟩⟩,by simp[intOf];omega⟩;rw[W1,W2]
  ·have he:k=n:=by omega
   subst he;have h1:decide ((k:Int)<(k:Int))=false:=by simp
   go_wp2
   go_ret
   exact⟨L',c,rfl,hI.blk,hI.len,hI.bL,hI.Bx,hI.z8,hI.val,hI.only⟩
end Go.Proofs.YtfcjnhkkfmgmpaaGreat
namespace Go.Proofs.YtfcjnhkkfmgmpaaGreat
open Go.RowKit aS Go.Lib
theorem abi (ad:Addr) (n c:Nat) (w:World) (hn:n<=4000)
  (h:∀ j,j<n->∃ (A:Option Addr) (l c':Nat),w.cell? (ad.add j)=some (.slice A l c')/\l<=4000) :
  Calls Tryz.prog 125 #[.slice (some ad) n c] w fun e w'=>e = .returned (.bool false)/\w=w':=by
 have H:=Lib.hid h;clear h;go_enter Tryz.func125,Tryz.ntmps125;go_wp2
 go_loop [4,7] (fun _ t=>∃ k:Nat,k<=n/\t = .int .i64 k) (fun _ t=>n-(intOf t).toNat)
 case atStart=>exact⟨0,Nat.zero_le _,rfl⟩
 case round =>
  obtain⟨k,hk,rfl⟩:=hrel;by_cases hlt:k<n
  ·obtain⟨A,l,c',hc,hl⟩:=H.out k hlt
   have h1:decide ((k:Int)<(n:Int))=true:=by simp;omega
   have h2:decide ((4000:Int)<(l:Int))=false:=by simp;omega
   go_wp2
   exact⟨⟨k+1,by omega,by go_num⟩,by simp[intOf];omega⟩
  ·have h1:decide ((k:Int)<(n:Int))=false:=by simp;omega
   go_wp2
   go_ret
   exact⟨rfl,rfl⟩
theorem afX (A0:Option Addr) (n c0:Nat) (l:List Int) (i:Int) (hn:l.length=n) (h0:0<=i) (w:World) (hr:RL w A0 l) :
  Calls Tryz.prog 154 #[.slice A0 n c0,.int .i64 i] w fun e w'=>e = .returned (.int .u64 (lg l i.toNat))/\w=w':=by
 obtain⟨k,rfl⟩:=Int.eq_ofNat_of_zero_le h0;rw[Int.toNat_natCast];have hl:=hr.1;by_cases hlt:k<n
 ·obtain⟨ad,rfl,hc⟩:=hr.2 aD
  have hc1:=hc k aD;have h1:decide ((k:Int)<(n:Int))=true:=by simp;omega
  clear hc hr hn hl;go_enter Tryz.func154,Tryz.ntmps154;go_wp2
  go_ret
  exact⟨rfl,rfl⟩
 ·have h1:decide ((k:Int)<(n:Int))=false:=by simp;omega
  have hz:lg l k=0:=oz aD;rw[hz];clear hr hn hl hz;go_enter Tryz.func154,Tryz.ntmps154;go_wp2
  go_ret
  exact⟨rfl,rfl⟩
theorem CX (w:World) (A0 A1:Option Addr) (n m c0 c1:Nat) (hn:n<=4000) (hm:m<=4000) :
  Calls Tryz.prog 125 #[.slice (some ⟨w.heap.size,0,none⟩) 2 2] (w.alloc (.cells #[.slice A0 n c0,.slice A1 m c1] 124)) fun e w'=>e = .returned (.bool false)/\w.alloc (.cells #[.slice A0 n c0,.slice A1 m c1] 124)=w':=by
 refine abi _ _ _ _ aD (fun j hj=>?_);match j,hj with
 | 0,_=>exact⟨A0,n,c0,by simp[Addr.add,go_sem],hn⟩
 | 1,_=>exact⟨A1,m,c1,by simp[Addr.add,go_sem],hm⟩
theorem adX (w:World) (A0:Option Addr) (n c0:Nat) (hn:n<=4000) :
  Calls Tryz.prog 125 #[.slice (some ⟨w.heap.size,0,none⟩) 1 1] (w.alloc (.cells #[.slice A0 n c0] 124)) fun e w'=>e = .returned (.bool false)/\w.alloc (.cells #[.slice A0 n c0] 124)=w':=by
 refine abi _ _ _ _ aD (fun j hj=>?_);match j,hj with
 | 0,_=>exact⟨A0,n,c0,by simp[Addr.add,go_sem],hn⟩
theorem aaT:(Tryz.prog.info? 122).map (fun i=>(i.zero,i.size,i.bytes))=some (some (.int .u64 0),1,8):=by kernel_rfl
theorem r_ (n:Nat) (hn:n<=100000) (w:World):(Instr.makeSlice 124 (.int .i64 (n:Int)) (.int .i64 (n:Int))).run Tryz.prog w = .ok (.slice (some ⟨w.heap.size,0,none⟩) n n) (w.alloc (.cells (madeCells #[.int .u64 0] n) 122)) :=
 run_make_row' 124 122 (.int .u64 0) 8 Tryz.underlying124 aaT (by kernel_rfl) .i64 .i64 n aD aD w
theorem sj (w:World) (n:Nat):cV (w.alloc (.cells (madeCells #[.int .u64 0] n) 122)) w.heap.size (List.replicate n 0):=by
 refine⟨madeCells #[.int .u64 0] n,?_,by rw[size_madeCells];simp,fun j hj=>?_⟩
 ·rw[show(w.alloc (.cells (madeCells #[.int .u64 0] n) 122)).heap=w.heap.push (.cells (madeCells #[.int .u64 0] n) 122) from rfl,Array.getElem?_push_size]
 ·rw[mX]
  rw[List.length_replicate]at hj
  have:(madeCells #[.int .u64 0] n).toList[j]?=some (.int .u64 0):=by rw[toList_madeCells_one];simp[hj]
  simpa using this
def Mq (v:Int) (w:World) (e:Ending) (w':World):Prop:=∃ x r,e = .returned (.tuple #[x,.int .i64 0])/\qz w' x r/\aH r/\Tr r/\lv r=v/\Below w.heap.size w w'
theorem UQ {w wr:World} {A:Option Addr} {L:List Int} {n nd:Nat} {v:Int} (hn:L.length=n) (hr:RL wr A L) (hl:aH L) (hv:lv L=v) (hb:Below w.heap.size w wr) :
  Mq v w (.returned (.tuple #[.slice A (bG L n) (bG L n),.int .i64 0])) (wr.drewN nd):=by
 subst hn;exact⟨_,L.take (bG L L.length),rfl,⟨A,_,by rw[gK],by rw[gK];exact Nat.le_refl _,(hr.take _).dP _⟩,hl.take _,lF _,by rw[eH];exact hv,iy hb _⟩
structure afY (g N:Nat) (x y:List Int) (w:World) (k:Nat) (c:Int) (L':List Int) (w1:World):Prop where
 blk:cV w1 g L'
 len:L'.length=N
 bL:aH L'
 bit:c=0\/c=1
 val:win L' 0 k+c*B^k=aQ (lg x) k+aQ (lg y) k
 only:bW g w w1
theorem apZ (A0 A1:Option Addr) (n m c0 c1:Nat) (a b:List Int) (hn:a.length=n) (hm:b.length=m) (gP:n<=4000) (kE:m<=4000) (w:World) (ha:RL w A0 a) (hb:RL w A1 b) (hla:aH a) (hlb:aH b) :
  Calls Tryz.prog 139 #[.slice A0 n c0,.slice A1 m c1] w (Mq (lv a+lv b) w):=by
 have HA:=Lib.hid ha;have HN:=Lib.hid hn;have HB:=Lib.hid hb;have HM:=Lib.hid hm;have tv:=Lib.hid hla;have qF:=Lib.hid hlb;clear ha hn hb hm hla hlb;go_enter Tryz.func139,Tryz.ntmps139;go_wp2_with fail
 refine(CX _ _ _ _ _ _ _ gP kE).mono ?_;rintro e w' ⟨rfl,rfl⟩;have hb0:Below w.heap.size w (w.alloc (.cells #[.slice A0 n c0,.slice A1 m c1] 124)):=(Below.refl _ _).alloc (Nat.le_refl _) _;generalize hw1:w.alloc (.cells #[.slice A0 n c0,.slice A1 m c1] 124)=w1 at *;have lH:=Lib.hid (HA.out.below hb0 (Nat.le_refl _));have bI:=Lib.hid (HB.out.below hb0 (Nat.le_refl _));have HS:=Lib.hid hb0;clear hb0 hw1;go_upto_if 18 with fail
 go_cut [0,1] (fun s t w2=>∃ (X Y:Option Addr) (p q cx cy:Nat) (x y:List Int),s = .slice X p cx/\t = .slice Y q cy/\q<=p/\p<=4000/\Hid (x.length=p/\y.length=q/\RL w1 X x/\RL w1 Y y/\aH x/\aH y/\lv x+lv y=lv a+lv b)/\w1=w2)
 case first =>
  by_cases hlt:n<m
  ·have h1:decide (n<m)=true:=by simpa using hlt
   go_wp2
   go_meet
   exact⟨A1,A0,m,n,c1,c0,b,a,rfl,rfl,by omega,by omega,⟨HM.out,HN.out,bI.out,lH.out,qF.out,tv.out,by omega⟩,rfl⟩
  ·have h1:decide (n<m)=false:=by simpa using hlt
   go_wp2
   go_meet
   exact⟨A0,A1,n,m,c0,c1,a,b,rfl,rfl,by omega,by omega,⟨HN.out,HM.out,lH.out,bI.out,tv.out,qF.out,rfl⟩,rfl⟩
 case rest =>
  obtain⟨X,Y,p,q,cx,cy,x,y,rfl,rfl,Bz,hp,HH,rfl⟩:=hcut;have hmk:=r_ (p+1) aD;rw[show((p+1:Nat):Int)=(p:Int)+1 by omega]at hmk
  go_wp2
  have hb1:Below w1.heap.size w1 (w1.alloc (.cells (madeCells #[.int .u64 0] (p+1)) 122)):=(Below.refl _ _).alloc (Nat.le_refl _) _;have dz:=sj w1 (p+1);have hsz:=HS.out.size;generalize hg:w1.heap.size=g at *;obtain⟨hxl,hyl,hx,hy,pz,xQ,hsum⟩:=HH.out;have hX:=Lib.hid (hx.below hb1 aD);have hY:=Lib.hid (hy.below hb1 aD);have hXg:=Lib.hid (fun h ad e=>Nat.ne_of_lt (by rw[<- hg];exact hx.lt h ad e):0<x.length->∀ ad,X=some ad->ad.block≠g);have hYg:=Lib.hid (fun h ad e=>Nat.ne_of_lt (by rw[<- hg];exact hy.lt h ad e):0<y.length->∀ ad,Y=some ad->ad.block≠g);have hW:=Lib.hid (HS.out.trans (hb1.mono hsz));generalize hw3:w1.alloc (.cells (madeCells #[.int .u64 0] (p+1)) 122)=w3 at *;have HK:=Lib.hid (show afY g (p+1) x y w3 0 0 (List.replicate (p+1) 0) w3 from ⟨dz,by simp,jd _,.inl rfl,by simp[win,aQ],bW.refl _ _⟩);have HG:=Lib.hid hg;clear hb1 dz hmk hxl hyl hx hy hsum hw3 hg;go_loopw [7,9,27] (fun cv _ t w4=>∃ (k:Nat) (c:Int) (L':List Int),k<=p+1/\t = .int .i64 k/\cv = .int .u64 c/\afY g (p+1) x y w3 k c L' w4) (fun _ _ t _=>p+1-(intOf t).toNat)
  case atStart=>exact⟨0,0,_,Nat.zero_le _,rfl,rfl,HK.out⟩
  case round =>
   obtain⟨k,c,L',hk,rfl,rfl,hI⟩:=hrel;have HI:=Lib.hid hI;by_cases hlt:k<p+1
   ·have h1:decide ((k:Int)<(p:Int)+1)=true:=by simp;omega
    have hfr:=hI.blk.free k;have hce:=hI.blk.cell k (by rw[hI.len];omega);have Wn:=Tg (lg x k) (lg y k) c (pz k) (xQ k) hI.bit;have hst:=Lib.hid (nU (by rw[hI.len];omega) hI.bL pz xQ hI.bit hI.val);have Nc:=hX.out.only hI.only hXg.out;have R4:=hY.out.only hI.only hYg.out;have xR:=Lib.hid Nc;have BA:=Lib.hid R4;clear hI Nc R4 HK;go_wp2_with fail
    refine(afX _ _ _ x _ HH.out.1 aD _ xR.out).mono ?_;rintro e w5 ⟨rfl,rfl⟩;rw[Int.toNat_natCast];go_wp2_with fail
    refine(afX _ _ _ y _ HH.out.2.1 aD _ BA.out).mono ?_;rintro e w5 ⟨rfl,rfl⟩;rw[Int.toNat_natCast];go_wp2
    have pg:=HI.out;obtain⟨s1,s2,s3⟩:=hst.out;exact⟨⟨k+1,_,_,by omega,by go_num,rfl,⟨pg.blk.set _ _,by rw[List.length_set];exact pg.len,s1,s2,s3,pg.only.set _ _⟩⟩,by simp[intOf];omega⟩
   ·have he:k=p+1:=by omega
    subst he;have h1:decide (((p+1:Nat):Int)<(p:Int)+1)=false:=by simp
    have hrl:=hI.blk.RL (by rw[hI.len];omega);have uo:=nY (n:=p) hI.len hI.bL pz xQ (by rw[HH.out.1];exact Nat.le_refl _) (by rw[HH.out.2.1];exact Bz) hI.bit hI.val;have hlen:=hI.len;have HF:=Lib.hid uo;have HR:=Lib.hid hrl;have xS:=Lib.hid hlen;clear hI hrl uo hlen HK;go_wp2_with fail
    refine(lD _ (p+1) _ L' xS.out (Nat.le_refl _) _ HR.out).mono ?_;rintro e w5 ⟨rfl,⟨nd,rfl⟩⟩;go_wp2
    go_ret2
    exact UQ xS.out HR.out HI.out.bL (HF.out.trans HH.out.2.2.2.2.2.2) (bW.below hW.out HI.out.only (by have:=HG.out;omega))
theorem aiX {P:Program} (w:World) (base:Nat) (t ty e:TypeId) (i:TypeInfo) (size:Nat) (ht:P.underlying t=some (.slice e)) (hi:P.info? e=some i)
  (v:Value) (n:Nat) (xs:List Value) (hown:w.ownsRow base e size v n xs) (c:Nat):(Builtin.append_ #[t,t] ty #[v,.slice none 0 c]).run P w = .ok v w:=by
 rcases hown.2 with ⟨rfl,rfl⟩|⟨g,cap,cur,rfl,_,_,hnc,_⟩
 ·simp[Builtin.append_,run_underlying ht,sizeOf,typeInfo,hi,Builtin.lenOf,Builtin.firstCells]
 ·simp[Builtin.append_,run_underlying ht,sizeOf,typeInfo,hi,Builtin.lenOf,Builtin.firstCells,hnc,storeCells]
theorem akC (W:World) (g0 m c ty:Nat) (A:Option Addr) (l:List Int) (hg:W.heap[g0]?=some (.cells #[] 122 (0,0))) (hl:l.length=m) (hm:m<=100000) (hr:RL W A l) :
  ∃ g cap w',(Builtin.append_ #[124,124] ty #[.slice (some ⟨g0,0,none⟩) 0 0,.slice A m c]).run Tryz.prog W = .ok (.slice (some ⟨g,0,none⟩) m cap) w'/\cV w' g l/\g0<=g/\Below g0 W w'/\m<=cap:=by
 have hlt:g0<W.heap.size:=(Array.getElem?_eq_some_iff.1 hg).1;have hown:W.ownsRow g0 122 1 (.slice (some ⟨g0,0,none⟩) 0 0) 0 []:=⟨rfl,.inr ⟨g0,0,#[],rfl,Nat.le_refl _,hg,Nat.le_refl _,by simp[maxLen],rfl,rfl⟩⟩
 obtain⟨i,hi,hzz⟩:=Option.map_eq_some_iff.1 aaT;simp only[Prod.mk.injEq]at hzz;obtain⟨hz,hs,hb⟩:=hzz;rcases A with _|ad
 ·have h0:m=0:=by
   rcases Nat.eq_zero_or_pos m with h0|h0
   ·exact h0
   ·obtain⟨ad,h,_⟩:=hr.2 aD
    cases h
  subst h0;refine⟨g0,0,W,aiX W g0 _ _ 122 i 1 Tryz.underlying124 hi _ 0 [] hown c,⟨#[],hg,by simp[hl],fun j hj=>by omega⟩,Nat.le_refl _,Below.refl _ _,Nat.le_refl _⟩
 ·have hcells:∀ j u,(l.map (Value.int .u64))[j]?=some u->W.cell? (ad.add j)=some u:=by
   intro j u hu;rw[List.getElem?_map]at hu
   obtain⟨x,hx,rfl⟩:=Option.map_eq_some_iff.1 hu;have hj:j<l.length:=(List.getElem?_eq_some_iff.1 hx).1;obtain⟨zZ,h,hc⟩:=hr.2 aD;cases h;rw[hc j hj];unfold lg;rw[List.getD_eq_getElem?_getD,hx];rfl
  obtain⟨v',w',hrun,h2,h3,h4⟩:=run_append_own (P:=Tryz.prog) W g0 124 ty 122 i (.int .u64 0) 1 8 Tryz.underlying124 hi hz hs hb rfl aD _ 0 [] hown ad m c (l.map (Value.int .u64)) (by simp[hl]) hcells (by
   intro u hu;obtain⟨x,_,rfl⟩:=List.mem_map.1 hu;rfl) (by simp only[maxLen];omega) aD aD
  rcases h2.2 with ⟨e,_⟩|⟨g,cap,cur,rfl,hbg,hh,hnc,hcm,hcs,htk⟩
  ·have:=(h4.1 e).1
   cases this
  ·rw[Nat.zero_add]at *
   refine⟨g,cap,w',hrun,⟨cur,hh,by omega,fun j hj=>?_⟩,hbg,?_,hnc⟩
   ·have hq:(cur.toList.take (m*1))[j]?=(l.map (Value.int .u64))[j]?:=by rw[htk];rfl
    rw[List.getElem?_take,if_pos aD,List.getElem?_map,List.getElem?_eq_getElem hj]at hq
    rw[<- Array.getElem?_toList,hq];unfold lg;rw[List.getD_eq_getElem?_getD,List.getElem?_eq_getElem hj];rfl
   ·exact⟨h3.os,h3.tape,h3.output,h3.size,fun k hk=>h3.block k aD (fun e=>by simp[Value.ownBlock]at e;omega)⟩
theorem abj {ops:Array Oper} {rest:List Oper} {o:Oper} {a:Act} {Q:Exit->Act->World->Prop} (hgd:o.guard=none) (s x:Operand)
  (ho:o.op = .call { callee := .builtin .append,args:=#[s,x],argTypes:=#[124,124] })
  (W:World) (g0 m c:Nat) (A:Option Addr) (l:List Int) (hs:a.eval s = .slice (some ⟨g0,0,none⟩) 0 0) (hx:a.eval x = .slice A m c)
  (hg:W.heap[g0]?=some (.cells #[] 122 (0,0))) (hl:l.length=m) (hm:m<=100000) (hr:RL W A l)
  (h:∀ g cap w',cV w' g l->g0<=g->Below g0 W w'->m<=cap->wpList Tryz.prog ops Q rest (a.put o.dst (.slice (some ⟨g,0,none⟩) m cap)) w'):wpList Tryz.prog ops Q (o::rest) a W :=
 wpList_plain hgd fun K hK=>by
  obtain⟨g,cap,w',hrun,h1,h2,h3,h4⟩:=akC W g0 m c o.type A l hg hl hm hr
  unfold Oper.wp execOp
  simp only[ho,resolve,invoke,builtin,Sem.run_bind,Sem.run_pure,Result.andThen_ok,List.map_toArray,List.map_cons,List.map_nil,hs,hx,hrun]
  exact hK _ _ (h g cap w' h1 h2 h3 h4)
theorem aap (W:World) (o:Obj) (g:Nat) (hg:g=W.heap.size):(W.alloc o).heap[g]?=some o:=by
 subst hg;show(W.heap.push o)[W.heap.size]?=_;rw[Array.getElem?_push_size]
def atB (a b:List Int) (w:World) (e:Ending) (w':World):Prop:=(lv b<=lv a->Mq (lv a-lv b) w e w')/\(lv a<lv b->e = .returned (.tuple #[.slice none 0 0,.int .i64 2])/\Below w.heap.size w w')
theorem Wq (A0 A1:Option Addr) (n m c0 c1:Nat) (a b:List Int) (hn:a.length=n) (hm:b.length=m) (gP:n<=4000) (kE:m<=4000) (hc0:n<=c0) (hc1:m<=c1) (w:World) (ha:RL w A0 a) (hb:RL w A1 b) (hla:aH a) (hlb:aH b) :
  Calls Tryz.prog 140 #[.slice A0 n c0,.slice A1 m c1] w (atB a b w):=by
 have hb0:Below w.heap.size w (w.alloc (.cells #[.slice A0 n c0,.slice A1 m c1] 124)):=(Below.refl _ _).alloc (Nat.le_refl _) _;have lH:=Lib.hid (ha.below hb0 (Nat.le_refl _));have bI:=Lib.hid (hb.below hb0 (Nat.le_refl _));have HN:=Lib.hid hn;have HM:=Lib.hid hm;have k7:=lN (hla.take (bG a a.length)) (hlb.take (bG b b.length)) (lF a) (lF b);rw[eH,eH,gK,gK,hn,hm]at k7
 have lU:=Lib.hid (eH a);have qG:=Lib.hid (eH b);have hpl:=gK a;have ju:=gK b;rw[hn]at lU hpl
 rw[hm]at qG ju
 have HP:=Lib.hid hpl;have HQ:=Lib.hid ju;have J1:=qU a n;have BB:=qU b m;have tv:=Lib.hid (hla.take (bG a n));have qF:=Lib.hid (hlb.take (bG b m));generalize hx:a.take (bG a n)=x at *;generalize hy:b.take (bG b m)=y at *;have HYE:=Lib.hid hy;have HX:=Lib.hid (show RL _ A0 x from hx ▸ lH.out.take _);have HY:=Lib.hid (show RL _ A1 y from hy ▸ bI.out.take _);have HS:=Lib.hid hb0;clear ha hb hn hm hla hlb hpl ju hx hy hb0;by_cases hlt:lv a<lv b
 ·rw[yL hlt]at k7
  have HO:=Lib.hid k7;have dx:=Lib.hid hlt;clear k7 hlt;go_enter Tryz.func140,Tryz.ntmps140;go_wp2_with fail
  refine(CX _ _ _ _ _ _ _ gP kE).mono ?_;rintro e w' ⟨rfl,rfl⟩;go_wp2_with fail
  refine(lD _ _ _ a HN.out hc0 _ lH.out).mono ?_;rintro e w5 ⟨rfl,⟨nd,rfl⟩⟩;go_wp2_with fail
  refine(lD _ _ _ b HM.out hc1 _ (bI.out.dP _)).mono ?_;rintro e w5 ⟨rfl,⟨tA,rfl⟩⟩;go_wp2_with fail
  refine(Ez _ _ _ _ _ _ x y HP.out HQ.out _ (HX.out.dP _) (HY.out.dP _)).mono ?_;rintro e w5 ⟨rfl,⟨DG,rfl⟩⟩;rw[HO.out];go_wp2
  go_ret2
  exact⟨fun h=>by have:=dx.out;omega,fun _=>⟨rfl,iy HS.out _⟩⟩
 ·have h1:decide (dY (lv a) (lv b)<0)=false:=by
   rcases tP (lv a) (lv b) with ⟨h,hc⟩|⟨h,hc⟩|⟨h,hc⟩ <;> rw[hc] <;> first|rfl|omega
  rw[<- k7]at h1
  have hpq:bG b m<=bG a n:=by
   rw[<- HP.out,<- HQ.out];apply Nat.le_of_not_lt;intro hgt;have hy:Tr y:=by rw[<- HYE.out,<- HM.out];exact lF b
   have:=lM tv.out qF.out hy hgt;rw[lU.out,qG.out]at this
   omega
  have dx:=Lib.hid (show lv y<=lv x by rw[lU.out,qG.out];omega);have HO:=Lib.hid k7;clear k7 hlt;go_enter Tryz.func140,Tryz.ntmps140;go_wp2_with fail
  refine(CX _ _ _ _ _ _ _ gP kE).mono ?_;rintro e w' ⟨rfl,rfl⟩;go_wp2_with fail
  refine(lD _ _ _ a HN.out hc0 _ lH.out).mono ?_;rintro e w5 ⟨rfl,⟨nd,rfl⟩⟩;go_wp2_with fail
  refine(lD _ _ _ b HM.out hc1 _ (bI.out.dP _)).mono ?_;rintro e w5 ⟨rfl,⟨tA,rfl⟩⟩;go_wp2_with fail
  refine(Ez _ _ _ _ _ _ x y HP.out HQ.out _ (HX.out.dP _) (HY.out.dP _)).mono ?_;rintro e w5 ⟨rfl,⟨DG,rfl⟩⟩;go_wp2_with (at_builtin;go_must (refine abj rfl (.tmp 19) (.tmp 20) rfl _ (w.heap.size+1) (bG a n) (bG a n) A0 x rfl rfl ?_ HP.out aD ?_ ?_);go_must (exact aap _ _ _ (by simp));go_must (exact(HX.out.dP _).below ((Below.refl _ _).alloc (Nat.le_refl _) _) (Nat.le_refl _));intro g cap w2 hk hg hb2 hcap)
  have hb3:Below (w.heap.size+1) ((w.alloc (.cells #[.slice A0 n c0,.slice A1 m c1] 124)).drewN (nd+tA+DG)) w2:=((Below.refl _ _).alloc (by simp) _).trans hb2;have YW:=(HY.out.dP (nd+tA+DG)).below hb3 (by simp);have YX:0<y.length->∀ ad,A1=some ad->ad.block≠g:=fun h ad e=>by
   have:=(HY.out.dP (nd+tA+DG)).lt h ad e;simp at this;omega
  refine(VW g 0 _ _ x A1 _ _ y HQ.out _ hk tv.out (by rw[HP.out];omega) aD YW qF.out YX).mono ?_;rintro e w6 ⟨L',bb,rfl,DI,xz,xA,_,sP,hval,xB⟩;have uo:=nW (n:=bG a n) (by rw[xz];exact HP.out) xA tv.out HP.out qF.out (by rw[HQ.out];exact hpq) sP dx.out (by rw[HQ.out];exact hval);rw[lU.out,qG.out]at uo
  have HF:=Lib.hid uo;have HK:=Lib.hid (DI.RL (by rw[xz,HP.out];omega));have eL:=Lib.hid (xz.trans HP.out);have Db:=Lib.hid xA;have mL:Below w.heap.size w w6:=bW.below ((iy HS.out _).trans (hb3.mono aD)) xB aD;clear uo DI xz xA hval sP YW YX hk xB;have n9:=Lib.hid mL;clear mL;go_wp2_with fail
  refine(lD _ _ _ L' eL.out aD _ HK.out).mono ?_;rintro e w7 ⟨rfl,⟨YY,rfl⟩⟩;go_wp2
  go_ret2
  exact⟨fun _=>UQ eL.out HK.out Db.out HF.out n9.out,fun h=>by have:=dx.out;rw[lU.out,qG.out]at this;omega⟩
structure afZ (g N m:Nat) (a b:List Int) (w:World) (k:Nat) (L':List Int) (w1:World):Prop where
 blk:cV w1 g L'
 len:L'.length=N
 bL:aH L'
 zero:∀ j,k+m<=j->lg L' j=0
 val:win L' 0 (k+m)=aQ (lg a) k*lv b
 only:bW g w w1
theorem bW.trans {g:Nat} {a b c:World} (h:bW g a b) (k:bW g b c):bW g a c :=
 ⟨k.os.trans h.os,k.tape.trans h.tape,k.output.trans h.output,k.size.trans h.size,fun i hi=>(k.block i hi).trans (h.block i hi)⟩
theorem ap0 (A0 A1:Option Addr) (n m c0 c1:Nat) (a b:List Int) (hn:a.length=n) (hm:b.length=m) (gP:n<=4000) (kE:m<=4000) (w:World) (ha:RL w A0 a) (hb:RL w A1 b) (hla:aH a) (hlb:aH b) :
  Calls Tryz.prog 138 #[.slice A0 n c0,.slice A1 m c1] w (Mq (lv a*lv b) w):=by
 have hb0:Below w.heap.size w (w.alloc (.cells #[.slice A0 n c0,.slice A1 m c1] 124)):=(Below.refl _ _).alloc (Nat.le_refl _) _;have ha1:=ha.below hb0 (Nat.le_refl _);have hb1:=hb.below hb0 (Nat.le_refl _);have hmk:=r_ (n+m) aD;rw[show((n+m:Nat):Int)=(n:Int)+(m:Int) by omega]at hmk
 have HN:=Lib.hid hn;have HM:=Lib.hid hm;have tv:=Lib.hid hla;have qF:=Lib.hid hlb;have lH:=Lib.hid ha1;have bI:=Lib.hid hb1;have HS:=Lib.hid hb0;clear ha hb hn hm hla hlb hb0 ha1 hb1;go_enter Tryz.func138,Tryz.ntmps138;go_wp2_with (go_at_call 125;refine(CX _ _ _ _ _ _ _ gP kE).mono ?_;rintro e w' ⟨rfl,rfl⟩)
 have hb1:Below (w.heap.size+1) (w.alloc (.cells #[.slice A0 n c0,.slice A1 m c1] 124)) ((w.alloc (.cells #[.slice A0 n c0,.slice A1 m c1] 124)).alloc (.cells (madeCells #[.int .u64 0] (n+m)) 122)):=(Below.refl _ _).alloc (by simp) _;have dz:=sj (w.alloc (.cells #[.slice A0 n c0,.slice A1 m c1] 124)) (n+m);rw[show(w.alloc (.cells #[.slice A0 n c0,.slice A1 m c1] 124)).heap.size=w.heap.size+1 by simp]at dz
 have hx1:=lH.out.below hb1 (by simp);have hy1:=bI.out.below hb1 (by simp);have jl:0<a.length->∀ ad,A0=some ad->ad.block≠w.heap.size+1:=fun h ad e=>Nat.ne_of_lt (by have:=lH.out.lt h ad e;simpa using this);have uC:0<b.length->∀ ad,A1=some ad->ad.block≠w.heap.size+1:=fun h ad e=>Nat.ne_of_lt (by have:=bI.out.lt h ad e;simpa using this);have mL:=HS.out.trans (hb1.mono aD);generalize hw3:(w.alloc (.cells #[.slice A0 n c0,.slice A1 m c1] 124)).alloc (.cells (madeCells #[.int .u64 0] (n+m)) 122)=w3 at *;have HG:w.heap.size<=w.heap.size+1:=by omega
 generalize w.heap.size+1=g at *;have j5:=Lib.hid (show afZ g (n+m) m a b w3 0 (List.replicate (n+m) 0) w3 from ⟨dz,by simp,jd _,fun j _=>mX _ _,by
  have:win (List.replicate (n+m) 0) 0 (0+m)=0:=jH (m:=0) aD fun j _ _=>mX _ _;rw[this];simp[aQ],bW.refl _ _⟩)
 have HX:=Lib.hid hx1;have HY:=Lib.hid hy1;have p_:=Lib.hid jl;have DJ:=Lib.hid uC;have n9:=Lib.hid mL;clear dz hx1 hy1 jl uC mL hb1 hw3 hmk;go_loopw [7,8,21] (fun _ _ t w4=>∃ (k:Nat) (L':List Int),k<=n/\t = .int .i64 k/\afZ g (n+m) m a b w3 k L' w4) (fun _ _ t _=>n-(intOf t).toNat)
 case atStart=>exact⟨0,_,Nat.zero_le _,rfl,j5.out⟩
 case round =>
  obtain⟨k,L',hk,rfl,hI⟩:=hrel;by_cases hlt:k<n
  ·have h1:decide ((k:Int)<(n:Int))=true:=by simp;omega
   obtain⟨ad,rfl,cC⟩:=(HX.out.only hI.only p_.out).2 (by have:=HN.out;omega);have hc2:=cC k (by have:=HN.out;omega);have R4:=Lib.hid (HY.out.only hI.only DJ.out);have HI:=Lib.hid hI;clear hI cC;go_wp2_with fail
   refine(aah g k m _ L' A1 _ b (lg a k) HM.out _ HI.out.blk HI.out.bL (by rw[HI.out.len];omega) R4.out qF.out DJ.out (tv.out k)).mono ?_;rintro e w5 ⟨L2,c,rfl,R5,Qx,adY,adZ,hcc,ad1,adf⟩;have hv:win L2 k m+c*B^m=win L' k m+lg a k*lv b:=by
    rw[ad1,<- HM.out];rfl
   have hst:=nX (L':=L') Qx (by rw[HI.out.len];omega) adY adZ HI.out.zero hcc hv HI.out.val;have hce:=R5.cell (k+m) (by rw[Qx,HI.out.len];omega);have hfr:=R5.free (k+m);have HST:=Lib.hid hst;have H5:=Lib.hid (And.intro R5 (And.intro (Qx.trans HI.out.len) (HI.out.only.trans adf)));clear hst R5 Qx adY adZ hcc ad1 adf hv;go_wp2
   obtain⟨s1,s2,s3⟩:=HST.out;obtain⟨t1,t2,t3⟩:=H5.out;exact⟨⟨k+1,_,by omega,by go_num,⟨t1.set _ _,by rw[List.length_set];exact t2,s1,s2,s3,t3.set _ _⟩⟩,by simp[intOf];omega⟩
  ·have he:k=n:=by omega
   subst he;have h1:decide ((k:Int)<(k:Int))=false:=by simp
   have hlv:lv L'=lv a*lv b:=by
    have h2:=hI.val;have h3:=hI.len;rw[<- h3,fj]at h2
    rw[h2];unfold lv;rw[HN.out]
   have HF:=Lib.hid hlv;have HR:=Lib.hid (hI.blk.RL (by rw[hI.len];omega));have HI:=Lib.hid hI;clear hI hlv;go_wp2_with fail
   refine(lD _ _ _ L' HI.out.len aD _ HR.out).mono ?_;rintro e w7 ⟨rfl,⟨YY,rfl⟩⟩;go_wp2
   go_ret2
   exact UQ HI.out.len HR.out HI.out.bL HF.out (bW.below n9.out HI.out.only HG)
end Go.Proofs.YtfcjnhkkfmgmpaaGreat
