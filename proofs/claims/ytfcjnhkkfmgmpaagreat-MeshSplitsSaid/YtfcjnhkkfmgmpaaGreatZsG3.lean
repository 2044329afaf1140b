import Derived.Test.YtfcjnhkkfmgmpaaGreatZsG0
import Derived.Lib.Mul64
import Derived.Laws.Bits64b
import Derived.Deep.OwnRows
import Derived.Laws.OwnMore
import Derived.Laws.NewBlocks
import Derived.Deep.DeepCutAuto
import Derived.Deep.CutBlock
import Derived.Tactics2
import Derived.Laws.AppendOwn
set_option linter.all false
set_option maxRecDepth 100000
set_option maxHeartbeats 8000000
namespace Go.Proofs.YtfcjnhkkfmgmpaaGreat
open Go.RowKit aR Go.Lib
namespace pO
theorem maskN (a:Nat) (ha:a<18446744073709551616):bits .and .u64 (a:Int) 4294967295=((a%4294967296:Nat):Int):=by
 have h:=bits_and_u64_nat a 4294967295 ha (by omega);have e:a &&& 4294967295=a%4294967296:=Nat.and_two_pow_sub_one_eq_mod a 32;rw[e]at h
 exact h
theorem divN (a:Nat):(a:Int) / 4294967296=((a / 4294967296:Nat):Int):=by omega
theorem mulN (a b:Nat):(a:Int)*(b:Int)=((a*b:Nat):Int):=(Int.natCast_mul a b).symm
theorem addN (a b:Nat):(a:Int)+(b:Int)=((a+b:Nat):Int):=(Int.natCast_add a b).symm
theorem wrapN (a:Nat) (ha:a<18446744073709551616):IntKind.u64.wrap (a:Int)=(a:Int):=by rw[IntKind.wrap_u64];omega
theorem wrapM (a:Nat):IntKind.u64.wrap (a:Int)=((a%18446744073709551616:Nat):Int):=by rw[IntKind.wrap_u64];omega
end pO
theorem agW (x y:Nat) (hx:x<18446744073709551616) (hy:y<18446744073709551616) (w:World) :
  Calls Tryz.prog 145 #[.int .u64 x,.int .u64 y] w fun e w'=>e = .returned (.tuple #[.int .u64 ((x*y / 18446744073709551616:Nat):Int),.int .u64 ((x*y%18446744073709551616:Nat):Int)])∧w'=w:=by
 obtain⟨bd,bt,bw,hhi⟩:=Lib.mul64_hi x y hx hy;have ba:=Lib.half_mul_le (a:=x / 4294967296) (b:=y / 4294967296) (by omega) (by omega);have bb:=Lib.half_mul_le (a:=x / 4294967296) (b:=y%4294967296) (by omega) (by omega);have bc:=Lib.half_mul_le (a:=x%4294967296) (b:=y / 4294967296) (by omega) (by omega);have ba':x / 4294967296*(y / 4294967296)<18446744073709551616:=by omega
 have bb':x / 4294967296*(y%4294967296)<18446744073709551616:=by omega
 have bc':x%4294967296*(y / 4294967296)<18446744073709551616:=by omega
 have bh1:x / 4294967296*(y / 4294967296)+(x / 4294967296*(y%4294967296)+x%4294967296*(y%4294967296) / 4294967296) / 4294967296<18446744073709551616:=by omega
 have bh:x / 4294967296*(y / 4294967296)+(x / 4294967296*(y%4294967296)+x%4294967296*(y%4294967296) / 4294967296) / 4294967296+((x / 4294967296*(y%4294967296)+x%4294967296*(y%4294967296) / 4294967296)%4294967296+x%4294967296*(y / 4294967296)) / 4294967296<18446744073709551616:=by omega
 go_enter Tryz.func145,Tryz.ntmps145;go_wp2
 simp only[pO.maskN x hx,pO.maskN y hy,pO.divN,pO.mulN,pO.addN,pO.wrapN _ bd,pO.wrapN _ bb',pO.wrapN _ bt,pO.maskN _ bt,pO.wrapN _ bc',pO.wrapN _ bw,pO.wrapN _ ba',pO.wrapN _ bh1,pO.wrapN _ bh,pO.wrapM (x*y)];rw[hhi];go_ret2
 exact⟨rfl,rfl⟩
theorem agX (x y:Int) (hx:0≤x∧x<B) (hy:0≤y∧y<B) (w:World) :
  Calls Tryz.prog 145 #[.int .u64 x,.int .u64 y] w fun e w'=>e = .returned (.tuple #[.int .u64 (x*y / B),.int .u64 (x*y%B)])∧w'=w:=by
 obtain⟨x,rfl⟩:=Int.eq_ofNat_of_zero_le hx.1;obtain⟨y,rfl⟩:=Int.eq_ofNat_of_zero_le hy.1;rw[B_eq]at *
 have h:=agW x y (by omega) (by omega) w;rw[Int.natCast_ediv,Int.natCast_emod,Int.natCast_mul]at h
 exact h
theorem cm (a:Int) (h:0≤a∧a<B):IntKind.u64.wrap a=a:=by rw[IntKind.wrap_u64];rw[B_eq]at h;omega
def alq (g o n:Nat) (L l:List Int) (x:Int) (w:World) (e:Ending) (w':World):Prop:=∃ L' c,e = .returned (.int .u64 c)∧cK w' g L'∧L'.length=L.length∧aJ L'∧(∀ j,(j<o∨o+n≤j)→lg L' j=lg L j)∧(0≤c∧c<B)∧win L' o n+c*B^n=win L o n+x*aL (lg l) n∧bU g w w'
structure aaM (g o:Nat) (L l:List Int) (x:Int) (w:World) (k:Nat) (c:Int) (L':List Int) (w1:World):Prop where
 blk:cK w1 g L'
 len:L'.length=L.length
 bF:aJ L'
 yH:∀ j,(j<o∨o+k≤j)→lg L' j=lg L j
 xg:0≤c∧c<B
 val:win L' o k+c*B^k=win L o k+x*aL (lg l) k
 only:bU g w w1
theorem Xq (g o n c0:Nat) (L:List Int) (A1:Option Addr) (c1:Nat) (l:List Int) (x:Int) (hm:l.length=n) (w:World) (hB:cK w g L) (hL:aJ L) (ho:o+n≤L.length)
  (hl:RL w A1 l) (jI:aJ l) (hne:0<l.length→∀ ad,A1=some ad→ad.block≠g) (hx:0≤x∧x<B) :
  Calls Tryz.prog 132 #[.slice (some ⟨g,o,none⟩) n c0,.slice A1 n c1,.int .u64 x] w (alq g o n L l x w):=by
 have hm2:n≤9223372036854775807:=by have:=hl.1;omega
 have H0:aaM g o L l x w 0 0 L w:=⟨hB,rfl,hL,fun _ _=>rfl,⟨Int.le_refl _,by decide⟩,by simp[win,aL],bU.refl _ _⟩
 have HM:=Lib.hid hm;have HO:=Lib.hid ho;have HL:=Lib.hid hl;have AH:=Lib.hid jI;have yI:=Lib.hid hne;have HX:=Lib.hid hx;clear hm hB hL ho hl jI hne hx;go_enter Tryz.func132,Tryz.ntmps132;go_wp2
 go_loopw [7,8,9,10,11,12,15] (fun cv _ _ _ _ _ t w1=>∃ (k:Nat) (c:Int) (L':List Int),k≤n∧t = .int .i64 k∧cv = .int .u64 c∧aaM g o L l x w k c L' w1) (fun _ _ _ _ _ _ t _=>n-(intOf t).toNat)
 case atStart=>exact⟨0,0,L,Nat.zero_le _,rfl,rfl,H0⟩
 case round =>
  clear H0;obtain⟨k,c,L',hk,rfl,rfl,hI⟩:=hrel;have HI:=Lib.hid hI;by_cases hlt:k<n
  ·have hc:=hI.blk.cell (o+k) (by rw[hI.len];have:=HO.out;omega)
   have hf:=hI.blk.free (o+k);obtain⟨m1,m2,m3,m4,m5,m6⟩:=mul_one HX.out (AH.out k) (hI.bF (o+k)) hI.xg;have hS:=mN (o:=o) (L:=L) (by rw[hI.len];have:=HO.out;omega) hI.bF AH.out hI.yH HX.out hI.xg hI.val m4 m6;have h1:decide ((k:Int)<(n:Int))=true:=by simp;omega
   obtain⟨ad,rfl,cj⟩:=(HL.out.only hI.only yI.out).2 (by have:=HM.out;omega);have hc2:=cj k (by have:=HM.out;omega);have SQ:=P9 (x*lg l k%B) (lg L' (o+k)) 0 m1 (hI.bF _) (Or.inl rfl);have awl:=P9 (fL (x*lg l k%B) (lg L' (o+k)) 0) c 0 m2 hI.xg (Or.inl rfl);have HS:=Lib.hid hS;have M3:=Lib.hid m3;have M5:=Lib.hid m5;clear hS hI cj m1 m2 m3 m4 m5 m6;go_wp2_with (go_at_call 145;refine(agX x (lg l k) HX.out (AH.out k) _).mono ?_;rintro e w' ⟨rfl,rfl⟩)
   have n9:=HI.out;obtain⟨s1,s2,s4⟩:=HS.out;have W1:=cm _ M3.out;have W2:=cm _ M5.out;refine⟨⟨k+1,_,_,by omega,by go_num,?_,⟨n9.blk.set _ _,by rw[List.length_set];exact n9.len,s1,s2,M5.out,s4,n9.only.set _ _⟩⟩,by simp[intOf];omega⟩;rw[W1,W2]
  ·have he:k=n:=by omega
   subst he;have h1:decide ((k:Int)<(k:Int))=false:=by simp
   go_wp2
   go_ret
   exact⟨L',c,rfl,hI.blk,hI.len,hI.bF,hI.yH,hI.xg,hI.val,hI.only⟩
end Go.Proofs.YtfcjnhkkfmgmpaaGreat
namespace Go.Proofs.YtfcjnhkkfmgmpaaGreat
open Go.RowKit aR Go.Lib
theorem Yr (ad:Addr) (n c:Nat) (w:World) (hn:n≤4000)
  (h:∀ j,j<n→∃ (A:Option Addr) (l c':Nat),w.cell? (ad.add j)=some (.slice A l c')∧l≤4000) :
  Calls Tryz.prog 125 #[.slice (some ad) n c] w fun e w'=>e = .returned (.bool false)∧w=w':=by
 have H:=Lib.hid h;clear h;go_enter Tryz.func125,Tryz.ntmps125;go_wp2
 go_loop [4,7] (fun _ t=>∃ k:Nat,k≤n∧t = .int .i64 k) (fun _ t=>n-(intOf t).toNat)
 case atStart=>exact⟨0,Nat.zero_le _,rfl⟩
 case round =>
  obtain⟨k,hk,rfl⟩:=hrel;by_cases hlt:k<n
  ·obtain⟨A,l,c',hc,hl⟩:=H.out k hlt
   have h1:decide ((k:Int)<(n:Int))=true:=by simp;omega
   have h2:decide ((4000:Int)<(l:Int))=false:=by simp;omega
   go_wp2
   exact⟨⟨k+1,by omega,by go_num⟩,by simp[intOf];omega⟩
  ·have h1:decide ((k:Int)<(n:Int))=false:=by simp;omega
   go_wp2
   go_ret
   exact⟨rfl,rfl⟩
theorem acs (A0:Option Addr) (n c0:Nat) (l:List Int) (i:Int) (hn:l.length=n) (h0:0≤i) (w:World) (hr:RL w A0 l) :
  Calls Tryz.prog 154 #[.slice A0 n c0,.int .i64 i] w fun e w'=>e = .returned (.int .u64 (lg l i.toNat))∧w=w':=by
 obtain⟨k,rfl⟩:=Int.eq_ofNat_of_zero_le h0;rw[Int.toNat_natCast];have hl:=hr.1;by_cases hlt:k<n
 ·obtain⟨ad,rfl,hc⟩:=hr.2 (by omega)
  have hc1:=hc k (by omega);have h1:decide ((k:Int)<(n:Int))=true:=by simp;omega
  clear hc hr hn hl;go_enter Tryz.func154,Tryz.ntmps154;go_wp2
  go_ret
  exact⟨rfl,rfl⟩
 ·have h1:decide ((k:Int)<(n:Int))=false:=by simp;omega
  have hz:lg l k=0:=nH (by omega);rw[hz];clear hr hn hl hz;go_enter Tryz.func154,Tryz.ntmps154;go_wp2
  go_ret
  exact⟨rfl,rfl⟩
theorem Au (w:World) (A0 A1:Option Addr) (n m c0 c1:Nat) (hn:n≤4000) (hm:m≤4000) :
  Calls Tryz.prog 125 #[.slice (some ⟨w.heap.size,0,none⟩) 2 2] (w.alloc (.cells #[.slice A0 n c0,.slice A1 m c1] 124)) fun e w'=>e = .returned (.bool false)∧w.alloc (.cells #[.slice A0 n c0,.slice A1 m c1] 124)=w':=by
 refine Yr _ _ _ _ (by omega) (fun j hj=>?_);match j,hj with
 | 0,_=>exact⟨A0,n,c0,by simp[Addr.add,go_sem],hn⟩
 | 1,_=>exact⟨A1,m,c1,by simp[Addr.add,go_sem],hm⟩
theorem aaN (w:World) (A0:Option Addr) (n c0:Nat) (hn:n≤4000) :
  Calls Tryz.prog 125 #[.slice (some ⟨w.heap.size,0,none⟩) 1 1] (w.alloc (.cells #[.slice A0 n c0] 124)) fun e w'=>e = .returned (.bool false)∧w.alloc (.cells #[.slice A0 n c0] 124)=w':=by
 refine Yr _ _ _ _ (by omega) (fun j hj=>?_);match j,hj with
 | 0,_=>exact⟨A0,n,c0,by simp[Addr.add,go_sem],hn⟩
theorem XU:(Tryz.prog.info? 122).map (fun i=>(i.zero,i.size,i.bytes))=some (some (.int .u64 0),1,8):=by kernel_rfl
theorem qm (n:Nat) (hn:n≤100000) (w:World):(Instr.makeSlice 124 (.int .i64 (n:Int)) (.int .i64 (n:Int))).run Tryz.prog w = .ok (.slice (some ⟨w.heap.size,0,none⟩) n n) (w.alloc (.cells (madeCells #[.int .u64 0] n) 122)) :=
 run_make_row' 124 122 (.int .u64 0) 8 Tryz.underlying124 XU (by kernel_rfl) .i64 .i64 n (by omega) (by omega) w
theorem qo (w:World) (n:Nat):cK (w.alloc (.cells (madeCells #[.int .u64 0] n) 122)) w.heap.size (List.replicate n 0):=by
 refine⟨madeCells #[.int .u64 0] n,?_,by rw[size_madeCells];simp,fun j hj=>?_⟩
 ·rw[show(w.alloc (.cells (madeCells #[.int .u64 0] n) 122)).heap=w.heap.push (.cells (madeCells #[.int .u64 0] n) 122) from rfl,Array.getElem?_push_size]
 ·rw[l8]
  rw[List.length_replicate]at hj
  have:(madeCells #[.int .u64 0] n).toList[j]?=some (.int .u64 0):=by rw[toList_madeCells_one];simp[hj]
  simpa using this
def JW (v:Int) (w:World) (e:Ending) (w':World):Prop:=∃ x r,e = .returned (.tuple #[x,.int .i64 0])∧oT w' x r∧aJ r∧Tr r∧lv r=v∧Below w.heap.size w w'
theorem Q4 {w wr:World} {A:Option Addr} {L:List Int} {n nd:Nat} {v:Int} (hn:L.length=n) (hr:RL wr A L) (hl:aJ L) (hv:lv L=v) (hb:Below w.heap.size w wr) :
  JW v w (.returned (.tuple #[.slice A (bn L n) (bn L n),.int .i64 0])) (wr.drewN nd):=by
 subst hn;exact⟨_,L.take (bn L L.length),rfl,⟨A,_,by rw[f_],by rw[f_];exact Nat.le_refl _,(hr.take _).dO _⟩,hl.take _,kM _,by rw[eB];exact hv,gR hb _⟩
structure acu (g N:Nat) (x y:List Int) (w:World) (k:Nat) (c:Int) (L':List Int) (w1:World):Prop where
 blk:cK w1 g L'
 len:L'.length=N
 bF:aJ L'
 bit:c=0∨c=1
 val:win L' 0 k+c*B^k=aL (lg x) k+aL (lg y) k
 only:bU g w w1
theorem alr (A0 A1:Option Addr) (n m c0 c1:Nat) (a b:List Int) (hn:a.length=n) (hm:b.length=m) (gp:n≤4000) (jU:m≤4000) (w:World) (ha:RL w A0 a) (hb:RL w A1 b) (hla:aJ a) (hlb:aJ b) :
  Calls Tryz.prog 139 #[.slice A0 n c0,.slice A1 m c1] w (JW (lv a+lv b) w):=by
 have HA:=Lib.hid ha;have HN:=Lib.hid hn;have HB:=Lib.hid hb;have HM:=Lib.hid hm;have qJ:=Lib.hid hla;have oX:=Lib.hid hlb;clear ha hn hb hm hla hlb;go_enter Tryz.func139,Tryz.ntmps139;go_wp2_with fail
 refine(Au _ _ _ _ _ _ _ gp jU).mono ?_;rintro e w' ⟨rfl,rfl⟩;have hb0:Below w.heap.size w (w.alloc (.cells #[.slice A0 n c0,.slice A1 m c1] 124)):=(Below.refl _ _).alloc (Nat.le_refl _) _;generalize hw1:w.alloc (.cells #[.slice A0 n c0,.slice A1 m c1] 124)=w1 at *;have kO:=Lib.hid (HA.out.below hb0 (Nat.le_refl _));have bD:=Lib.hid (HB.out.below hb0 (Nat.le_refl _));have HS:=Lib.hid hb0;clear hb0 hw1;go_upto_if 18 with fail
 go_cut [0,1] (fun s t w2=>∃ (X Y:Option Addr) (p q cx cy:Nat) (x y:List Int),s = .slice X p cx∧t = .slice Y q cy∧q≤p∧p≤4000∧Hid (x.length=p∧y.length=q∧RL w1 X x∧RL w1 Y y∧aJ x∧aJ y∧lv x+lv y=lv a+lv b)∧w1=w2)
 case first =>
  by_cases hlt:n<m
  ·have h1:decide (n<m)=true:=by simpa using hlt
   go_wp2
   go_meet
   exact⟨A1,A0,m,n,c1,c0,b,a,rfl,rfl,by omega,by omega,⟨HM.out,HN.out,bD.out,kO.out,oX.out,qJ.out,by omega⟩,rfl⟩
  ·have h1:decide (n<m)=false:=by simpa using hlt
   go_wp2
   go_meet
   exact⟨A0,A1,n,m,c0,c1,a,b,rfl,rfl,by omega,by omega,⟨HN.out,HM.out,kO.out,bD.out,qJ.out,oX.out,rfl⟩,rfl⟩
 case rest =>
  obtain⟨X,Y,p,q,cx,cy,x,y,rfl,rfl,yJ,hp,HH,rfl⟩:=hcut;have hmk:=qm (p+1) (by omega);rw[show((p+1:Nat):Int)=(p:Int)+1 by omega]at hmk
  go_wp2
  have hb1:Below w1.heap.size w1 (w1.alloc (.cells (madeCells #[.int .u64 0] (p+1)) 122)):=(Below.refl _ _).alloc (Nat.le_refl _) _;have dA:=qo w1 (p+1);have hsz:=HS.out.size;generalize hg:w1.heap.size=g at *;obtain⟨hxl,hyl,hx,hy,n_,vN,hsum⟩:=HH.out;have hX:=Lib.hid (hx.below hb1 (by omega));have hY:=Lib.hid (hy.below hb1 (by omega));have hXg:=Lib.hid (fun h ad e=>Nat.ne_of_lt (by rw[← hg];exact hx.lt h ad e):0<x.length→∀ ad,X=some ad→ad.block≠g);have hYg:=Lib.hid (fun h ad e=>Nat.ne_of_lt (by rw[← hg];exact hy.lt h ad e):0<y.length→∀ ad,Y=some ad→ad.block≠g);have hW:=Lib.hid (HS.out.trans (hb1.mono hsz));generalize hw3:w1.alloc (.cells (madeCells #[.int .u64 0] (p+1)) 122)=w3 at *;have HK:=Lib.hid (show acu g (p+1) x y w3 0 0 (List.replicate (p+1) 0) w3 from ⟨dA,by simp,iN _,.inl rfl,by simp[win,aL],bU.refl _ _⟩);have HG:=Lib.hid hg;clear hb1 dA hmk hxl hyl hx hy hsum hw3 hg;go_loopw [7,9,27] (fun cv _ t w4=>∃ (k:Nat) (c:Int) (L':List Int),k≤p+1∧t = .int .i64 k∧cv = .int .u64 c∧acu g (p+1) x y w3 k c L' w4) (fun _ _ t _=>p+1-(intOf t).toNat)
  case atStart=>exact⟨0,0,_,Nat.zero_le _,rfl,rfl,HK.out⟩
  case round =>
   obtain⟨k,c,L',hk,rfl,rfl,hI⟩:=hrel;have HI:=Lib.hid hI;by_cases hlt:k<p+1
   ·have h1:decide ((k:Int)<(p:Int)+1)=true:=by simp;omega
    have hfr:=hI.blk.free k;have hce:=hI.blk.cell k (by rw[hI.len];omega);have SQ:=P9 (lg x k) (lg y k) c (n_ k) (vN k) hI.bit;have hst:=Lib.hid (mQ (by rw[hI.len];omega) hI.bF n_ vN hI.bit hI.val);have KA:=hX.out.only hI.only hXg.out;have OY:=hY.out.only hI.only hYg.out;have vO:=Lib.hid KA;have yK:=Lib.hid OY;clear hI KA OY HK;go_wp2_with fail
    refine(acs _ _ _ x _ HH.out.1 (by omega) _ vO.out).mono ?_;rintro e w5 ⟨rfl,rfl⟩;rw[Int.toNat_natCast];go_wp2_with fail
    refine(acs _ _ _ y _ HH.out.2.1 (by omega) _ yK.out).mono ?_;rintro e w5 ⟨rfl,rfl⟩;rw[Int.toNat_natCast];go_wp2
    have n9:=HI.out;obtain⟨s1,s2,s3⟩:=hst.out;exact⟨⟨k+1,_,_,by omega,by go_num,rfl,⟨n9.blk.set _ _,by rw[List.length_set];exact n9.len,s1,s2,s3,n9.only.set _ _⟩⟩,by simp[intOf];omega⟩
   ·have he:k=p+1:=by omega
    subst he;have h1:decide (((p+1:Nat):Int)<(p:Int)+1)=false:=by simp
    have hrl:=hI.blk.RL (by rw[hI.len];omega);have rJ:=mV (n:=p) hI.len hI.bF n_ vN (by rw[HH.out.1];exact Nat.le_refl _) (by rw[HH.out.2.1];exact yJ) hI.bit hI.val;have hlen:=hI.len;have HF:=Lib.hid rJ;have HR:=Lib.hid hrl;have vP:=Lib.hid hlen;clear hI hrl rJ hlen HK;go_wp2_with fail
    refine(kL _ (p+1) _ L' vP.out (Nat.le_refl _) _ HR.out).mono ?_;rintro e w5 ⟨rfl,⟨nd,rfl⟩⟩;go_wp2
    go_ret2
    exact Q4 vP.out HR.out HI.out.bF (HF.out.trans HH.out.2.2.2.2.2.2) (bU.below hW.out HI.out.only (by have:=HG.out;omega))
theorem aes {P:Program} (w:World) (base:Nat) (t ty e:TypeId) (i:TypeInfo) (size:Nat) (ht:P.underlying t=some (.slice e)) (hi:P.info? e=some i)
  (v:Value) (n:Nat) (xs:List Value) (hown:w.ownsRow base e size v n xs) (c:Nat):(Builtin.append_ #[t,t] ty #[v,.slice none 0 c]).run P w = .ok v w:=by
 rcases hown.2 with ⟨rfl,rfl⟩|⟨g,cap,cur,rfl,_,_,hnc,_⟩
 ·simp[Builtin.append_,run_underlying ht,sizeOf,typeInfo,hi,Builtin.lenOf,Builtin.firstCells]
 ·simp[Builtin.append_,run_underlying ht,sizeOf,typeInfo,hi,Builtin.lenOf,Builtin.firstCells,hnc,storeCells]
theorem af9 (W:World) (g0 m c ty:Nat) (A:Option Addr) (l:List Int) (hg:W.heap[g0]?=some (.cells #[] 122 (0,0))) (hl:l.length=m) (hm:m≤100000) (hr:RL W A l) :
  ∃ g cap w',(Builtin.append_ #[124,124] ty #[.slice (some ⟨g0,0,none⟩) 0 0,.slice A m c]).run Tryz.prog W = .ok (.slice (some ⟨g,0,none⟩) m cap) w'∧cK w' g l∧g0≤g∧Below g0 W w'∧m≤cap:=by
 have hlt:g0<W.heap.size:=(Array.getElem?_eq_some_iff.1 hg).1;have hown:W.ownsRow g0 122 1 (.slice (some ⟨g0,0,none⟩) 0 0) 0 []:=⟨rfl,.inr ⟨g0,0,#[],rfl,Nat.le_refl _,hg,Nat.le_refl _,by simp[maxLen],rfl,rfl⟩⟩
 obtain⟨i,hi,hzz⟩:=Option.map_eq_some_iff.1 XU;simp only[Prod.mk.injEq]at hzz;obtain⟨hz,hs,hb⟩:=hzz;rcases A with _|ad
 ·have h0:m=0:=by
   rcases Nat.eq_zero_or_pos m with h0|h0
   ·exact h0
   ·obtain⟨ad,h,_⟩:=hr.2 (by omega)
    cases h
  subst h0;refine⟨g0,0,W,aes W g0 _ _ 122 i 1 Tryz.underlying124 hi _ 0 [] hown c,⟨#[],hg,by simp[hl],fun j hj=>by omega⟩,Nat.le_refl _,Below.refl _ _,Nat.le_refl _⟩
 ·have hcells:∀ j u,(l.map (Value.int .u64))[j]?=some u→W.cell? (ad.add j)=some u:=by
   intro j u hu;rw[List.getElem?_map]at hu
   obtain⟨x,hx,rfl⟩:=Option.map_eq_some_iff.1 hu;have hj:j<l.length:=(List.getElem?_eq_some_iff.1 hx).1;obtain⟨yG,h,hc⟩:=hr.2 (by omega);cases h;rw[hc j hj];unfold lg;rw[List.getD_eq_getElem?_getD,hx];rfl
  obtain⟨v',w',hrun,h2,h3,h4⟩:=run_append_own (P:=Tryz.prog) W g0 124 ty 122 i (.int .u64 0) 1 8 Tryz.underlying124 hi hz hs hb rfl (by omega) _ 0 [] hown ad m c (l.map (Value.int .u64)) (by simp[hl]) hcells (by
   intro u hu;obtain⟨x,_,rfl⟩:=List.mem_map.1 hu;rfl) (by simp only[maxLen];omega) (by omega) (by omega)
  rcases h2.2 with ⟨e,_⟩|⟨g,cap,cur,rfl,hbg,hh,hnc,hcm,hcs,htk⟩
  ·have:=(h4.1 e).1
   cases this
  ·rw[Nat.zero_add]at *
   refine⟨g,cap,w',hrun,⟨cur,hh,by omega,fun j hj=>?_⟩,hbg,?_,hnc⟩
   ·have hq:(cur.toList.take (m*1))[j]?=(l.map (Value.int .u64))[j]?:=by rw[htk];rfl
    rw[List.getElem?_take,if_pos (by omega),List.getElem?_map,List.getElem?_eq_getElem hj]at hq
    rw[← Array.getElem?_toList,hq];unfold lg;rw[List.getD_eq_getElem?_getD,List.getElem?_eq_getElem hj];rfl
   ·exact⟨h3.os,h3.tape,h3.output,h3.size,fun k hk=>h3.block k (by omega) (fun e=>by simp[Value.ownBlock]at e;omega)⟩
theorem Yt {ops:Array Oper} {rest:List Oper} {o:Oper} {a:Act} {Q:Exit→Act→World→Prop} (hgd:o.guard=none) (s x:Operand)
  (ho:o.op = .call { callee := .builtin .append,args:=#[s,x],argTypes:=#[124,124] })
  (W:World) (g0 m c:Nat) (A:Option Addr) (l:List Int) (hs:a.eval s = .slice (some ⟨g0,0,none⟩) 0 0) (hx:a.eval x = .slice A m c)
  (hg:W.heap[g0]?=some (.cells #[] 122 (0,0))) (hl:l.length=m) (hm:m≤100000) (hr:RL W A l)
  (h:∀ g cap w',cK w' g l→g0≤g→Below g0 W w'→m≤cap→wpList Tryz.prog ops Q rest (a.put o.dst (.slice (some ⟨g,0,none⟩) m cap)) w'):wpList Tryz.prog ops Q (o::rest) a W :=
 wpList_plain hgd fun K hK=>by
  obtain⟨g,cap,w',hrun,h1,h2,h3,h4⟩:=af9 W g0 m c o.type A l hg hl hm hr
  unfold Oper.wp execOp
  simp only[ho,resolve,invoke,builtin,Sem.run_bind,Sem.run_pure,Result.andThen_ok,List.map_toArray,List.map_cons,List.map_nil,hs,hx,hrun]
  exact hK _ _ (h g cap w' h1 h2 h3 h4)
theorem Xx (W:World) (o:Obj) (g:Nat) (hg:g=W.heap.size):(W.alloc o).heap[g]?=some o:=by
 subst hg;show(W.heap.push o)[W.heap.size]?=_;rw[Array.getElem?_push_size]
def aoG (a b:List Int) (w:World) (e:Ending) (w':World):Prop:=(lv b≤lv a→JW (lv a-lv b) w e w')∧(lv a<lv b→e = .returned (.tuple #[.slice none 0 0,.int .i64 2])∧Below w.heap.size w w')
theorem SV (A0 A1:Option Addr) (n m c0 c1:Nat) (a b:List Int) (hn:a.length=n) (hm:b.length=m) (gp:n≤4000) (jU:m≤4000) (hc0:n≤c0) (hc1:m≤c1) (w:World) (ha:RL w A0 a) (hb:RL w A1 b) (hla:aJ a) (hlb:aJ b) :
  Calls Tryz.prog 140 #[.slice A0 n c0,.slice A1 m c1] w (aoG a b w):=by
 have hb0:Below w.heap.size w (w.alloc (.cells #[.slice A0 n c0,.slice A1 m c1] 124)):=(Below.refl _ _).alloc (Nat.le_refl _) _;have kO:=Lib.hid (ha.below hb0 (Nat.le_refl _));have bD:=Lib.hid (hb.below hb0 (Nat.le_refl _));have HN:=Lib.hid hn;have HM:=Lib.hid hm;have kC:=kU (hla.take (bn a a.length)) (hlb.take (bn b b.length)) (kM a) (kM b);rw[eB,eB,f_,f_,hn,hm]at kC
 have kY:=Lib.hid (eB a);have sW:=Lib.hid (eB b);have hpl:=f_ a;have iZ:=f_ b;rw[hn]at kY hpl
 rw[hm]at sW iZ
 have HP:=Lib.hid hpl;have HQ:=Lib.hid iZ;have GR:=pH a n;have yL:=pH b m;have qJ:=Lib.hid (hla.take (bn a n));have oX:=Lib.hid (hlb.take (bn b m));generalize hx:a.take (bn a n)=x at *;generalize hy:b.take (bn b m)=y at *;have HYE:=Lib.hid hy;have HX:=Lib.hid (show RL _ A0 x from hx ▸ kO.out.take _);have HY:=Lib.hid (show RL _ A1 y from hy ▸ bD.out.take _);have HS:=Lib.hid hb0;clear ha hb hn hm hla hlb hpl iZ hx hy hb0;by_cases hlt:lv a<lv b
 ·rw[wF hlt]at kC
  have HO:=Lib.hid kC;have dV:=Lib.hid hlt;clear kC hlt;go_enter Tryz.func140,Tryz.ntmps140;go_wp2_with fail
  refine(Au _ _ _ _ _ _ _ gp jU).mono ?_;rintro e w' ⟨rfl,rfl⟩;go_wp2_with fail
  refine(kL _ _ _ a HN.out hc0 _ kO.out).mono ?_;rintro e w5 ⟨rfl,⟨nd,rfl⟩⟩;go_wp2_with fail
  refine(kL _ _ _ b HM.out hc1 _ (bD.out.dO _)).mono ?_;rintro e w5 ⟨rfl,⟨qK,rfl⟩⟩;go_wp2_with fail
  refine(Cj _ _ _ _ _ _ x y HP.out HQ.out _ (HX.out.dO _) (HY.out.dO _)).mono ?_;rintro e w5 ⟨rfl,⟨Bf,rfl⟩⟩;rw[HO.out];go_wp2
  go_ret2
  exact⟨fun h=>by have:=dV.out;omega,fun _=>⟨rfl,gR HS.out _⟩⟩
 ·have h1:decide (dX (lv a) (lv b)<0)=false:=by
   rcases qY (lv a) (lv b) with ⟨h,hc⟩|⟨h,hc⟩|⟨h,hc⟩ <;> rw[hc] <;> first|rfl|omega
  rw[← kC]at h1
  have hpq:bn b m≤bn a n:=by
   rw[← HP.out,← HQ.out];apply Nat.le_of_not_lt;intro hgt;have hy:Tr y:=by rw[← HYE.out,← HM.out];exact kM b
   have:=kS qJ.out oX.out hy hgt;rw[kY.out,sW.out]at this
   omega
  have dV:=Lib.hid (show lv y≤lv x by rw[kY.out,sW.out];omega);have HO:=Lib.hid kC;clear kC hlt;go_enter Tryz.func140,Tryz.ntmps140;go_wp2_with fail
  refine(Au _ _ _ _ _ _ _ gp jU).mono ?_;rintro e w' ⟨rfl,rfl⟩;go_wp2_with fail
  refine(kL _ _ _ a HN.out hc0 _ kO.out).mono ?_;rintro e w5 ⟨rfl,⟨nd,rfl⟩⟩;go_wp2_with fail
  refine(kL _ _ _ b HM.out hc1 _ (bD.out.dO _)).mono ?_;rintro e w5 ⟨rfl,⟨qK,rfl⟩⟩;go_wp2_with fail
  refine(Cj _ _ _ _ _ _ x y HP.out HQ.out _ (HX.out.dO _) (HY.out.dO _)).mono ?_;rintro e w5 ⟨rfl,⟨Bf,rfl⟩⟩;go_wp2_with (at_builtin;go_must (refine Yt rfl (.tmp 19) (.tmp 20) rfl _ (w.heap.size+1) (bn a n) (bn a n) A0 x rfl rfl ?_ HP.out (by omega) ?_ ?_);go_must (exact Xx _ _ _ (by simp));go_must (exact(HX.out.dO _).below ((Below.refl _ _).alloc (Nat.le_refl _) _) (Nat.le_refl _));intro g cap w2 hk hg hb2 hcap)
  have hb3:Below (w.heap.size+1) ((w.alloc (.cells #[.slice A0 n c0,.slice A1 m c1] 124)).drewN (nd+qK+Bf)) w2:=((Below.refl _ _).alloc (by simp) _).trans hb2;have Vl:=(HY.out.dO (nd+qK+Bf)).below hb3 (by simp);have Vm:0<y.length→∀ ad,A1=some ad→ad.block≠g:=fun h ad e=>by
   have:=(HY.out.dO (nd+qK+Bf)).lt h ad e;simp at this;omega
  refine(Ss g 0 _ _ x A1 _ _ y HQ.out _ hk qJ.out (by rw[HP.out];omega) (by omega) Vl oX.out Vm).mono ?_;rintro e w6 ⟨L',bb,rfl,Bg,uQ,uR,_,qC,hval,uS⟩;have rJ:=mS (n:=bn a n) (by rw[uQ];exact HP.out) uR qJ.out HP.out oX.out (by rw[HQ.out];exact hpq) qC dV.out (by rw[HQ.out];exact hval);rw[kY.out,sW.out]at rJ
  have HF:=Lib.hid rJ;have HK:=Lib.hid (Bg.RL (by rw[uQ,HP.out];omega));have eE:=Lib.hid (uQ.trans HP.out);have AH:=Lib.hid uR;have lT:Below w.heap.size w w6:=bU.below ((gR HS.out _).trans (hb3.mono (by omega))) uS (by omega);clear rJ Bg uQ uR hval qC Vl Vm hk uS;have m_:=Lib.hid lT;clear lT;go_wp2_with fail
  refine(kL _ _ _ L' eE.out (by omega) _ HK.out).mono ?_;rintro e w7 ⟨rfl,⟨Vn,rfl⟩⟩;go_wp2
  go_ret2
  exact⟨fun _=>Q4 eE.out HK.out AH.out HF.out m_.out,fun h=>by have:=dV.out;rw[kY.out,sW.out]at this;omega⟩
structure acv (g N m:Nat) (a b:List Int) (w:World) (k:Nat) (L':List Int) (w1:World):Prop where
 blk:cK w1 g L'
 len:L'.length=N
 bF:aJ L'
 zero:∀ j,k+m≤j→lg L' j=0
 val:win L' 0 (k+m)=aL (lg a) k*lv b
 only:bU g w w1
theorem bU.trans {g:Nat} {a b c:World} (h:bU g a b) (k:bU g b c):bU g a c :=
 ⟨k.os.trans h.os,k.tape.trans h.tape,k.output.trans h.output,k.size.trans h.size,fun i hi=>(k.block i hi).trans (h.block i hi)⟩
theorem als (A0 A1:Option Addr) (n m c0 c1:Nat) (a b:List Int) (hn:a.length=n) (hm:b.length=m) (gp:n≤4000) (jU:m≤4000) (w:World) (ha:RL w A0 a) (hb:RL w A1 b) (hla:aJ a) (hlb:aJ b) :
  Calls Tryz.prog 138 #[.slice A0 n c0,.slice A1 m c1] w (JW (lv a*lv b) w):=by
 have hb0:Below w.heap.size w (w.alloc (.cells #[.slice A0 n c0,.slice A1 m c1] 124)):=(Below.refl _ _).alloc (Nat.le_refl _) _;have ha1:=ha.below hb0 (Nat.le_refl _);have hb1:=hb.below hb0 (Nat.le_refl _);have hmk:=qm (n+m) (by omega);rw[show((n+m:Nat):Int)=(n:Int)+(m:Int) by omega]at hmk
 have HN:=Lib.hid hn;have HM:=Lib.hid hm;have qJ:=Lib.hid hla;have oX:=Lib.hid hlb;have kO:=Lib.hid ha1;have bD:=Lib.hid hb1;have HS:=Lib.hid hb0;clear ha hb hn hm hla hlb hb0 ha1 hb1;go_enter Tryz.func138,Tryz.ntmps138;go_wp2_with (go_at_call 125;refine(Au _ _ _ _ _ _ _ gp jU).mono ?_;rintro e w' ⟨rfl,rfl⟩)
 have hb1:Below (w.heap.size+1) (w.alloc (.cells #[.slice A0 n c0,.slice A1 m c1] 124)) ((w.alloc (.cells #[.slice A0 n c0,.slice A1 m c1] 124)).alloc (.cells (madeCells #[.int .u64 0] (n+m)) 122)):=(Below.refl _ _).alloc (by simp) _;have dA:=qo (w.alloc (.cells #[.slice A0 n c0,.slice A1 m c1] 124)) (n+m);rw[show(w.alloc (.cells #[.slice A0 n c0,.slice A1 m c1] 124)).heap.size=w.heap.size+1 by simp]at dA
 have hx1:=kO.out.below hb1 (by simp);have hy1:=bD.out.below hb1 (by simp);have iR:0<a.length→∀ ad,A0=some ad→ad.block≠w.heap.size+1:=fun h ad e=>Nat.ne_of_lt (by have:=kO.out.lt h ad e;simpa using this);have rU:0<b.length→∀ ad,A1=some ad→ad.block≠w.heap.size+1:=fun h ad e=>Nat.ne_of_lt (by have:=bD.out.lt h ad e;simpa using this);have lT:=HS.out.trans (hb1.mono (by omega));generalize hw3:(w.alloc (.cells #[.slice A0 n c0,.slice A1 m c1] 124)).alloc (.cells (madeCells #[.int .u64 0] (n+m)) 122)=w3 at *;have HG:w.heap.size≤w.heap.size+1:=by omega
 generalize w.heap.size+1=g at *;have jK:=Lib.hid (show acv g (n+m) m a b w3 0 (List.replicate (n+m) 0) w3 from ⟨dA,by simp,iN _,fun j _=>l8 _ _,by
  have:win (List.replicate (n+m) 0) 0 (0+m)=0:=jm (m:=0) (by omega) fun j _ _=>l8 _ _;rw[this];simp[aL],bU.refl _ _⟩)
 have HX:=Lib.hid hx1;have HY:=Lib.hid hy1;have oK:=Lib.hid iR;have Bh:=Lib.hid rU;have m_:=Lib.hid lT;clear dA hx1 hy1 iR rU lT hb1 hw3 hmk;go_loopw [7,8,21] (fun _ _ t w4=>∃ (k:Nat) (L':List Int),k≤n∧t = .int .i64 k∧acv g (n+m) m a b w3 k L' w4) (fun _ _ t _=>n-(intOf t).toNat)
 case atStart=>exact⟨0,_,Nat.zero_le _,rfl,jK.out⟩
 case round =>
  obtain⟨k,L',hk,rfl,hI⟩:=hrel;by_cases hlt:k<n
  ·have h1:decide ((k:Int)<(n:Int))=true:=by simp;omega
   obtain⟨ad,rfl,cj⟩:=(HX.out.only hI.only oK.out).2 (by have:=HN.out;omega);have hc2:=cj k (by have:=HN.out;omega);have OY:=Lib.hid (HY.out.only hI.only Bh.out);have HI:=Lib.hid hI;clear hI cj;go_wp2_with fail
   refine(Xq g k m _ L' A1 _ b (lg a k) HM.out _ HI.out.blk HI.out.bF (by rw[HI.out.len];omega) OY.out oX.out Bh.out (qJ.out k)).mono ?_;rintro e w5 ⟨L2,c,rfl,OZ,Nt,aaO,aaP,hcc,aaQ,Z0⟩;have hv:win L2 k m+c*B^m=win L' k m+lg a k*lv b:=by
    rw[aaQ,← HM.out];rfl
   have hst:=mU (L':=L') Nt (by rw[HI.out.len];omega) aaO aaP HI.out.zero hcc hv HI.out.val;have hce:=OZ.cell (k+m) (by rw[Nt,HI.out.len];omega);have hfr:=OZ.free (k+m);have HST:=Lib.hid hst;have H5:=Lib.hid (And.intro OZ (And.intro (Nt.trans HI.out.len) (HI.out.only.trans Z0)));clear hst OZ Nt aaO aaP hcc aaQ Z0 hv;go_wp2
   obtain⟨s1,s2,s3⟩:=HST.out;obtain⟨t1,t2,t3⟩:=H5.out;exact⟨⟨k+1,_,by omega,by go_num,⟨t1.set _ _,by rw[List.length_set];exact t2,s1,s2,s3,t3.set _ _⟩⟩,by simp[intOf];omega⟩
  ·have he:k=n:=by omega
   subst he;have h1:decide ((k:Int)<(k:Int))=false:=by simp
   have hlv:lv L'=lv a*lv b:=by
    have h2:=hI.val;have h3:=hI.len;rw[← h3,eW]at h2
    rw[h2];unfold lv;rw[HN.out]
   have HF:=Lib.hid hlv;have HR:=Lib.hid (hI.blk.RL (by rw[hI.len];omega));have HI:=Lib.hid hI;clear hI hlv;go_wp2_with fail
   refine(kL _ _ _ L' HI.out.len (by omega) _ HR.out).mono ?_;rintro e w7 ⟨rfl,⟨Vn,rfl⟩⟩;go_wp2
   go_ret2
   exact Q4 HI.out.len HR.out HI.out.bF HF.out (bU.below m_.out HI.out.only HG)
end Go.Proofs.YtfcjnhkkfmgmpaaGreat
