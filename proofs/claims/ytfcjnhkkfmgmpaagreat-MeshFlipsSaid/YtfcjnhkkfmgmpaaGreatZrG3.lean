import Derived.Test.YtfcjnhkkfmgmpaaGreatZrG0
import Derived.Lib.Mul64
import Derived.Laws.Bits64b
import Derived.Deep.OwnRows
import Derived.Laws.OwnMore
import Derived.Laws.NewBlocks
import Derived.Deep.DeepCutAuto
import Derived.Deep.CutBlock
import Derived.Tactics2
import Derived.Laws.AppendOwn
set_option linter.all false
set_option maxRecDepth 100000
set_option maxHeartbeats 8000000
namespace Go.Proofs.YtfcjnhkkfmgmpaaGreat
open Go.RowKit Num Go.Lib
namespace M64
theorem maskN (a:Nat) (ha:a<18446744073709551616):bits .and .u64 (a:Int) 4294967295=((a%4294967296:Nat):Int):=by
 have h:=bits_and_u64_nat a 4294967295 ha (by omega);have e:a &&& 4294967295=a%4294967296:=Nat.and_two_pow_sub_one_eq_mod a 32;rw[e]at h
 exact h
theorem divN (a:Nat):(a:Int) / 4294967296=((a / 4294967296:Nat):Int):=by omega
theorem mulN (a b:Nat):(a:Int)*(b:Int)=((a*b:Nat):Int):=(Int.natCast_mul a b).symm
theorem addN (a b:Nat):(a:Int)+(b:Int)=((a+b:Nat):Int):=(Int.natCast_add a b).symm
theorem wrapN (a:Nat) (ha:a<18446744073709551616):IntKind.u64.wrap (a:Int)=(a:Int):=by rw[IntKind.wrap_u64];omega
theorem wrapM (a:Nat):IntKind.u64.wrap (a:Int)=((a%18446744073709551616:Nat):Int):=by rw[IntKind.wrap_u64];omega
end M64
theorem mul64_n (x y:Nat) (hx:x<18446744073709551616) (hy:y<18446744073709551616) (w:World) :
  Calls Tryz.prog 145 #[.int .u64 x,.int .u64 y] w fun e w'=>e = .returned (.tuple #[.int .u64 ((x*y / 18446744073709551616:Nat):Int),.int .u64 ((x*y%18446744073709551616:Nat):Int)])∧w'=w:=by
 obtain⟨bd,bt,bw,hhi⟩:=Lib.mul64_hi x y hx hy;have ba:=Lib.half_mul_le (a:=x / 4294967296) (b:=y / 4294967296) (by omega) (by omega);have bb:=Lib.half_mul_le (a:=x / 4294967296) (b:=y%4294967296) (by omega) (by omega);have bc:=Lib.half_mul_le (a:=x%4294967296) (b:=y / 4294967296) (by omega) (by omega);have ba':x / 4294967296*(y / 4294967296)<18446744073709551616:=by omega
 have bb':x / 4294967296*(y%4294967296)<18446744073709551616:=by omega
 have bc':x%4294967296*(y / 4294967296)<18446744073709551616:=by omega
 have bh1:x / 4294967296*(y / 4294967296)+(x / 4294967296*(y%4294967296)+x%4294967296*(y%4294967296) / 4294967296) / 4294967296<18446744073709551616:=by omega
 have bh:x / 4294967296*(y / 4294967296)+(x / 4294967296*(y%4294967296)+x%4294967296*(y%4294967296) / 4294967296) / 4294967296+((x / 4294967296*(y%4294967296)+x%4294967296*(y%4294967296) / 4294967296)%4294967296+x%4294967296*(y / 4294967296)) / 4294967296<18446744073709551616:=by omega
 go_enter Tryz.func145,Tryz.ntmps145;go_wp2
 simp only[M64.maskN x hx,M64.maskN y hy,M64.divN,M64.mulN,M64.addN,M64.wrapN _ bd,M64.wrapN _ bb',M64.wrapN _ bt,M64.maskN _ bt,M64.wrapN _ bc',M64.wrapN _ bw,M64.wrapN _ ba',M64.wrapN _ bh1,M64.wrapN _ bh,M64.wrapM (x*y)];rw[hhi];go_ret2
 exact⟨rfl,rfl⟩
theorem mul64_c (x y:Int) (hx:0≤x∧x<B) (hy:0≤y∧y<B) (w:World) :
  Calls Tryz.prog 145 #[.int .u64 x,.int .u64 y] w fun e w'=>e = .returned (.tuple #[.int .u64 (x*y / B),.int .u64 (x*y%B)])∧w'=w:=by
 obtain⟨x,rfl⟩:=Int.eq_ofNat_of_zero_le hx.1;obtain⟨y,rfl⟩:=Int.eq_ofNat_of_zero_le hy.1;rw[B_eq]at *
 have h:=mul64_n x y (by omega) (by omega) w;rw[Int.natCast_ediv,Int.natCast_emod,Int.natCast_mul]at h
 exact h
theorem wrap_u (a:Int) (h:0≤a∧a<B):IntKind.u64.wrap a=a:=by rw[IntKind.wrap_u64];rw[B_eq]at h;omega
def AddPP (g o n:Nat) (L l:List Int) (x:Int) (w:World) (e:Ending) (w':World):Prop:=∃ L' c,e = .returned (.int .u64 c)∧Blk w' g L'∧L'.length=L.length∧Lim L'∧(∀ j,(j<o∨o+n≤j)→lg L' j=lg L j)∧(0≤c∧c<B)∧win L' o n+c*B^n=win L o n+x*sumB (lg l) n∧Only g w w'
structure AddPI (g o:Nat) (L l:List Int) (x:Int) (w:World) (k:Nat) (c:Int) (L':List Int) (w1:World):Prop where
 blk:Blk w1 g L'
 len:L'.length=L.length
 lim:Lim L'
 far:∀ j,(j<o∨o+k≤j)→lg L' j=lg L j
 car:0≤c∧c<B
 val:win L' o k+c*B^k=win L o k+x*sumB (lg l) k
 only:Only g w w1
theorem addProduct_c (g o n c0:Nat) (L:List Int) (A1:Option Addr) (c1:Nat) (l:List Int) (x:Int) (hm:l.length=n) (w:World) (hB:Blk w g L) (hL:Lim L) (ho:o+n≤L.length)
  (hl:RL w A1 l) (hlim:Lim l) (hne:0<l.length→∀ ad,A1=some ad→ad.block≠g) (hx:0≤x∧x<B) :
  Calls Tryz.prog 132 #[.slice (some ⟨g,o,none⟩) n c0,.slice A1 n c1,.int .u64 x] w (AddPP g o n L l x w):=by
 have hm2:n≤9223372036854775807:=by have:=hl.1;omega
 have H0:AddPI g o L l x w 0 0 L w:=⟨hB,rfl,hL,fun _ _=>rfl,⟨Int.le_refl _,by decide⟩,by simp[win,sumB],Only.refl _ _⟩
 have HM:=Lib.hid hm;have HO:=Lib.hid ho;have HL:=Lib.hid hl;have HLim:=Lib.hid hlim;have HNE:=Lib.hid hne;have HX:=Lib.hid hx;clear hm hB hL ho hl hlim hne hx;go_enter Tryz.func132,Tryz.ntmps132;go_wp2
 go_loopw [7,8,9,10,11,12,15] (fun cv _ _ _ _ _ t w1=>∃ (k:Nat) (c:Int) (L':List Int),k≤n∧t = .int .i64 k∧cv = .int .u64 c∧AddPI g o L l x w k c L' w1) (fun _ _ _ _ _ _ t _=>n-(intOf t).toNat)
 case atStart=>exact⟨0,0,L,Nat.zero_le _,rfl,rfl,H0⟩
 case round =>
  clear H0;obtain⟨k,c,L',hk,rfl,rfl,hI⟩:=hrel;have HI:=Lib.hid hI;by_cases hlt:k<n
  ·have hc:=hI.blk.cell (o+k) (by rw[hI.len];have:=HO.out;omega)
   have hf:=hI.blk.free (o+k);obtain⟨m1,m2,m3,m4,m5,m6⟩:=mul_one HX.out (HLim.out k) (hI.lim (o+k)) hI.car;have hS:=addp_step (o:=o) (L:=L) (by rw[hI.len];have:=HO.out;omega) hI.lim HLim.out hI.far HX.out hI.car hI.val m4 m6;have h1:decide ((k:Int)<(n:Int))=true:=by simp;omega
   obtain⟨ad,rfl,hcl⟩:=(HL.out.only hI.only HNE.out).2 (by have:=HM.out;omega);have hc2:=hcl k (by have:=HM.out;omega);have hcall:=call_add64 (x*lg l k%B) (lg L' (o+k)) 0 m1 (hI.lim _) (Or.inl rfl);have hcall2:=call_add64 (addD (x*lg l k%B) (lg L' (o+k)) 0) c 0 m2 hI.car (Or.inl rfl);have HS:=Lib.hid hS;have M3:=Lib.hid m3;have M5:=Lib.hid m5;clear hS hI hcl m1 m2 m3 m4 m5 m6;go_wp2_with (go_at_call 145;refine(mul64_c x (lg l k) HX.out (HLim.out k) _).mono ?_;rintro e w' ⟨rfl,rfl⟩)
   have HI2:=HI.out;obtain⟨s1,s2,s4⟩:=HS.out;have W1:=wrap_u _ M3.out;have W2:=wrap_u _ M5.out;refine⟨⟨k+1,_,_,by omega,by go_num,?_,⟨HI2.blk.set _ _,by rw[List.length_set];exact HI2.len,s1,s2,M5.out,s4,HI2.only.set _ _⟩⟩,by simp[intOf];omega⟩;rw[W1,W2]
  ·have he:k=n:=by omega
   subst he;have h1:decide ((k:Int)<(k:Int))=false:=by simp
   go_wp2
   go_ret
   exact⟨L',c,rfl,hI.blk,hI.len,hI.lim,hI.far,hI.car,hI.val,hI.only⟩
end Go.Proofs.YtfcjnhkkfmgmpaaGreat
namespace Go.Proofs.YtfcjnhkkfmgmpaaGreat
open Go.RowKit Num Go.Lib
theorem long_no (ad:Addr) (n c:Nat) (w:World) (hn:n≤4000)
  (h:∀ j,j<n→∃ (A:Option Addr) (l c':Nat),w.cell? (ad.add j)=some (.slice A l c')∧l≤4000) :
  Calls Tryz.prog 125 #[.slice (some ad) n c] w fun e w'=>e = .returned (.bool false)∧w=w':=by
 have H:=Lib.hid h;clear h;go_enter Tryz.func125,Tryz.ntmps125;go_wp2
 go_loop [4,7] (fun _ t=>∃ k:Nat,k≤n∧t = .int .i64 k) (fun _ t=>n-(intOf t).toNat)
 case atStart=>exact⟨0,Nat.zero_le _,rfl⟩
 case round =>
  obtain⟨k,hk,rfl⟩:=hrel;by_cases hlt:k<n
  ·obtain⟨A,l,c',hc,hl⟩:=H.out k hlt
   have h1:decide ((k:Int)<(n:Int))=true:=by simp;omega
   have h2:decide ((4000:Int)<(l:Int))=false:=by simp;omega
   go_wp2
   exact⟨⟨k+1,by omega,by go_num⟩,by simp[intOf];omega⟩
  ·have h1:decide ((k:Int)<(n:Int))=false:=by simp;omega
   go_wp2
   go_ret
   exact⟨rfl,rfl⟩
theorem at_c (A0:Option Addr) (n c0:Nat) (l:List Int) (i:Int) (hn:l.length=n) (h0:0≤i) (w:World) (hr:RL w A0 l) :
  Calls Tryz.prog 154 #[.slice A0 n c0,.int .i64 i] w fun e w'=>e = .returned (.int .u64 (lg l i.toNat))∧w=w':=by
 obtain⟨k,rfl⟩:=Int.eq_ofNat_of_zero_le h0;rw[Int.toNat_natCast];have hl:=hr.1;by_cases hlt:k<n
 ·obtain⟨ad,rfl,hc⟩:=hr.2 (by omega)
  have hc1:=hc k (by omega);have h1:decide ((k:Int)<(n:Int))=true:=by simp;omega
  clear hc hr hn hl;go_enter Tryz.func154,Tryz.ntmps154;go_wp2
  go_ret
  exact⟨rfl,rfl⟩
 ·have h1:decide ((k:Int)<(n:Int))=false:=by simp;omega
  have hz:lg l k=0:=lg_out (by omega);rw[hz];clear hr hn hl hz;go_enter Tryz.func154,Tryz.ntmps154;go_wp2
  go_ret
  exact⟨rfl,rfl⟩
theorem long2 (w:World) (A0 A1:Option Addr) (n m c0 c1:Nat) (hn:n≤4000) (hm:m≤4000) :
  Calls Tryz.prog 125 #[.slice (some ⟨w.heap.size,0,none⟩) 2 2] (w.alloc (.cells #[.slice A0 n c0,.slice A1 m c1] 124)) fun e w'=>e = .returned (.bool false)∧w.alloc (.cells #[.slice A0 n c0,.slice A1 m c1] 124)=w':=by
 refine long_no _ _ _ _ (by omega) (fun j hj=>?_);match j,hj with
 | 0,_=>exact⟨A0,n,c0,by simp[Addr.add,go_sem],hn⟩
 | 1,_=>exact⟨A1,m,c1,by simp[Addr.add,go_sem],hm⟩
theorem long1 (w:World) (A0:Option Addr) (n c0:Nat) (hn:n≤4000) :
  Calls Tryz.prog 125 #[.slice (some ⟨w.heap.size,0,none⟩) 1 1] (w.alloc (.cells #[.slice A0 n c0] 124)) fun e w'=>e = .returned (.bool false)∧w.alloc (.cells #[.slice A0 n c0] 124)=w':=by
 refine long_no _ _ _ _ (by omega) (fun j hj=>?_);match j,hj with
 | 0,_=>exact⟨A0,n,c0,by simp[Addr.add,go_sem],hn⟩
theorem u64_info:(Tryz.prog.info? 122).map (fun i=>(i.zero,i.size,i.bytes))=some (some (.int .u64 0),1,8):=by kernel_rfl
theorem make_run (n:Nat) (hn:n≤100000) (w:World):(Instr.makeSlice 124 (.int .i64 (n:Int)) (.int .i64 (n:Int))).run Tryz.prog w = .ok (.slice (some ⟨w.heap.size,0,none⟩) n n) (w.alloc (.cells (madeCells #[.int .u64 0] n) 122)) :=
 run_make_row' 124 122 (.int .u64 0) 8 Tryz.underlying124 u64_info (by kernel_rfl) .i64 .i64 n (by omega) (by omega) w
theorem made_blk (w:World) (n:Nat):Blk (w.alloc (.cells (madeCells #[.int .u64 0] n) 122)) w.heap.size (List.replicate n 0):=by
 refine⟨madeCells #[.int .u64 0] n,?_,by rw[size_madeCells];simp,fun j hj=>?_⟩
 ·rw[show(w.alloc (.cells (madeCells #[.int .u64 0] n) 122)).heap=w.heap.push (.cells (madeCells #[.int .u64 0] n) 122) from rfl,Array.getElem?_push_size]
 ·rw[lg_replicate]
  rw[List.length_replicate]at hj
  have:(madeCells #[.int .u64 0] n).toList[j]?=some (.int .u64 0):=by rw[toList_madeCells_one];simp[hj]
  simpa using this
def ResP (v:Int) (w:World) (e:Ending) (w':World):Prop:=∃ x r,e = .returned (.tuple #[x,.int .i64 0])∧IsRow w' x r∧Lim r∧Tr r∧lv r=v∧Below w.heap.size w w'
theorem resP_end {w wr:World} {A:Option Addr} {L:List Int} {n nd:Nat} {v:Int} (hn:L.length=n) (hr:RL wr A L) (hl:Lim L) (hv:lv L=v) (hb:Below w.heap.size w wr) :
  ResP v w (.returned (.tuple #[.slice A (trimN L n) (trimN L n),.int .i64 0])) (wr.drewN nd):=by
 subst hn;exact⟨_,L.take (trimN L L.length),rfl,⟨A,_,by rw[take_trim_len],by rw[take_trim_len];exact Nat.le_refl _,(hr.take _).drN _⟩,hl.take _,Tr_trim _,by rw[lv_trim];exact hv,bdrN hb _⟩
structure AddI (g N:Nat) (x y:List Int) (w:World) (k:Nat) (c:Int) (L':List Int) (w1:World):Prop where
 blk:Blk w1 g L'
 len:L'.length=N
 lim:Lim L'
 bit:c=0∨c=1
 val:win L' 0 k+c*B^k=sumB (lg x) k+sumB (lg y) k
 only:Only g w w1
theorem add_c (A0 A1:Option Addr) (n m c0 c1:Nat) (a b:List Int) (hn:a.length=n) (hm:b.length=m) (hn4:n≤4000) (hm4:m≤4000) (w:World) (ha:RL w A0 a) (hb:RL w A1 b) (hla:Lim a) (hlb:Lim b) :
  Calls Tryz.prog 139 #[.slice A0 n c0,.slice A1 m c1] w (ResP (lv a+lv b) w):=by
 have HA:=Lib.hid ha;have HN:=Lib.hid hn;have HB:=Lib.hid hb;have HM:=Lib.hid hm;have HLA:=Lib.hid hla;have HLB:=Lib.hid hlb;clear ha hn hb hm hla hlb;go_enter Tryz.func139,Tryz.ntmps139;go_wp2_with fail
 refine(long2 _ _ _ _ _ _ _ hn4 hm4).mono ?_;rintro e w' ⟨rfl,rfl⟩;have hb0:Below w.heap.size w (w.alloc (.cells #[.slice A0 n c0,.slice A1 m c1] 124)):=(Below.refl _ _).alloc (Nat.le_refl _) _;generalize hw1:w.alloc (.cells #[.slice A0 n c0,.slice A1 m c1] 124)=w1 at *;have HA1:=Lib.hid (HA.out.below hb0 (Nat.le_refl _));have HB1:=Lib.hid (HB.out.below hb0 (Nat.le_refl _));have HS:=Lib.hid hb0;clear hb0 hw1;go_upto_if 18 with fail
 go_cut [0,1] (fun s t w2=>∃ (X Y:Option Addr) (p q cx cy:Nat) (x y:List Int),s = .slice X p cx∧t = .slice Y q cy∧q≤p∧p≤4000∧Hid (x.length=p∧y.length=q∧RL w1 X x∧RL w1 Y y∧Lim x∧Lim y∧lv x+lv y=lv a+lv b)∧w1=w2)
 case first =>
  by_cases hlt:n<m
  ·have h1:decide (n<m)=true:=by simpa using hlt
   go_wp2
   go_meet
   exact⟨A1,A0,m,n,c1,c0,b,a,rfl,rfl,by omega,by omega,⟨HM.out,HN.out,HB1.out,HA1.out,HLB.out,HLA.out,by omega⟩,rfl⟩
  ·have h1:decide (n<m)=false:=by simpa using hlt
   go_wp2
   go_meet
   exact⟨A0,A1,n,m,c0,c1,a,b,rfl,rfl,by omega,by omega,⟨HN.out,HM.out,HA1.out,HB1.out,HLA.out,HLB.out,rfl⟩,rfl⟩
 case rest =>
  obtain⟨X,Y,p,q,cx,cy,x,y,rfl,rfl,hqp,hp,HH,rfl⟩:=hcut;have hmk:=make_run (p+1) (by omega);rw[show((p+1:Nat):Int)=(p:Int)+1 by omega]at hmk
  go_wp2
  have hb1:Below w1.heap.size w1 (w1.alloc (.cells (madeCells #[.int .u64 0] (p+1)) 122)):=(Below.refl _ _).alloc (Nat.le_refl _) _;have hk0:=made_blk w1 (p+1);have hsz:=HS.out.size;generalize hg:w1.heap.size=g at *;obtain⟨hxl,hyl,hx,hy,hlx,hly,hsum⟩:=HH.out;have hX:=Lib.hid (hx.below hb1 (by omega));have hY:=Lib.hid (hy.below hb1 (by omega));have hXg:=Lib.hid (fun h ad e=>Nat.ne_of_lt (by rw[← hg];exact hx.lt h ad e):0<x.length→∀ ad,X=some ad→ad.block≠g);have hYg:=Lib.hid (fun h ad e=>Nat.ne_of_lt (by rw[← hg];exact hy.lt h ad e):0<y.length→∀ ad,Y=some ad→ad.block≠g);have hW:=Lib.hid (HS.out.trans (hb1.mono hsz));generalize hw3:w1.alloc (.cells (madeCells #[.int .u64 0] (p+1)) 122)=w3 at *;have HK:=Lib.hid (show AddI g (p+1) x y w3 0 0 (List.replicate (p+1) 0) w3 from ⟨hk0,by simp,Lim_zero _,.inl rfl,by simp[win,sumB],Only.refl _ _⟩);have HG:=Lib.hid hg;clear hb1 hk0 hmk hxl hyl hx hy hsum hw3 hg;go_loopw [7,9,27] (fun cv _ t w4=>∃ (k:Nat) (c:Int) (L':List Int),k≤p+1∧t = .int .i64 k∧cv = .int .u64 c∧AddI g (p+1) x y w3 k c L' w4) (fun _ _ t _=>p+1-(intOf t).toNat)
  case atStart=>exact⟨0,0,_,Nat.zero_le _,rfl,rfl,HK.out⟩
  case round =>
   obtain⟨k,c,L',hk,rfl,rfl,hI⟩:=hrel;have HI:=Lib.hid hI;by_cases hlt:k<p+1
   ·have h1:decide ((k:Int)<(p:Int)+1)=true:=by simp;omega
    have hfr:=hI.blk.free k;have hce:=hI.blk.cell k (by rw[hI.len];omega);have hcall:=call_add64 (lg x k) (lg y k) c (hlx k) (hly k) hI.bit;have hst:=Lib.hid (sum_step (by rw[hI.len];omega) hI.lim hlx hly hI.bit hI.val);have hX2:=hX.out.only hI.only hXg.out;have hY2:=hY.out.only hI.only hYg.out;have HX2:=Lib.hid hX2;have HY2:=Lib.hid hY2;clear hI hX2 hY2 HK;go_wp2_with fail
    refine(at_c _ _ _ x _ HH.out.1 (by omega) _ HX2.out).mono ?_;rintro e w5 ⟨rfl,rfl⟩;rw[Int.toNat_natCast];go_wp2_with fail
    refine(at_c _ _ _ y _ HH.out.2.1 (by omega) _ HY2.out).mono ?_;rintro e w5 ⟨rfl,rfl⟩;rw[Int.toNat_natCast];go_wp2
    have HI2:=HI.out;obtain⟨s1,s2,s3⟩:=hst.out;exact⟨⟨k+1,_,_,by omega,by go_num,rfl,⟨HI2.blk.set _ _,by rw[List.length_set];exact HI2.len,s1,s2,s3,HI2.only.set _ _⟩⟩,by simp[intOf];omega⟩
   ·have he:k=p+1:=by omega
    subst he;have h1:decide (((p+1:Nat):Int)<(p:Int)+1)=false:=by simp
    have hrl:=hI.blk.RL (by rw[hI.len];omega);have hfin:=sum_end (n:=p) hI.len hI.lim hlx hly (by rw[HH.out.1];exact Nat.le_refl _) (by rw[HH.out.2.1];exact hqp) hI.bit hI.val;have hlen:=hI.len;have HF:=Lib.hid hfin;have HR:=Lib.hid hrl;have HN2:=Lib.hid hlen;clear hI hrl hfin hlen HK;go_wp2_with fail
    refine(trimmed_c _ (p+1) _ L' HN2.out (Nat.le_refl _) _ HR.out).mono ?_;rintro e w5 ⟨rfl,⟨nd,rfl⟩⟩;go_wp2
    go_ret2
    exact resP_end HN2.out HR.out HI.out.lim (HF.out.trans HH.out.2.2.2.2.2.2) (Only.below hW.out HI.out.only (by have:=HG.out;omega))
theorem run_append_nil_ {P:Program} (w:World) (base:Nat) (t ty e:TypeId) (i:TypeInfo) (size:Nat) (ht:P.underlying t=some (.slice e)) (hi:P.info? e=some i)
  (v:Value) (n:Nat) (xs:List Value) (hown:w.ownsRow base e size v n xs) (c:Nat):(Builtin.append_ #[t,t] ty #[v,.slice none 0 c]).run P w = .ok v w:=by
 rcases hown.2 with ⟨rfl,rfl⟩|⟨g,cap,cur,rfl,_,_,hnc,_⟩
 ·simp[Builtin.append_,run_underlying ht,sizeOf,typeInfo,hi,Builtin.lenOf,Builtin.firstCells]
 ·simp[Builtin.append_,run_underlying ht,sizeOf,typeInfo,hi,Builtin.lenOf,Builtin.firstCells,hnc,storeCells]
theorem run_copy (W:World) (g0 m c ty:Nat) (A:Option Addr) (l:List Int) (hg:W.heap[g0]?=some (.cells #[] 122 (0,0))) (hl:l.length=m) (hm:m≤100000) (hr:RL W A l) :
  ∃ g cap w',(Builtin.append_ #[124,124] ty #[.slice (some ⟨g0,0,none⟩) 0 0,.slice A m c]).run Tryz.prog W = .ok (.slice (some ⟨g,0,none⟩) m cap) w'∧Blk w' g l∧g0≤g∧Below g0 W w'∧m≤cap:=by
 have hlt:g0<W.heap.size:=(Array.getElem?_eq_some_iff.1 hg).1;have hown:W.ownsRow g0 122 1 (.slice (some ⟨g0,0,none⟩) 0 0) 0 []:=⟨rfl,.inr ⟨g0,0,#[],rfl,Nat.le_refl _,hg,Nat.le_refl _,by simp[maxLen],rfl,rfl⟩⟩
 obtain⟨i,hi,hzz⟩:=Option.map_eq_some_iff.1 u64_info;simp only[Prod.mk.injEq]at hzz;obtain⟨hz,hs,hb⟩:=hzz;rcases A with _|ad
 ·have h0:m=0:=by
   rcases Nat.eq_zero_or_pos m with h0|h0
   ·exact h0
   ·obtain⟨ad,h,_⟩:=hr.2 (by omega)
    cases h
  subst h0;refine⟨g0,0,W,run_append_nil_ W g0 _ _ 122 i 1 Tryz.underlying124 hi _ 0 [] hown c,⟨#[],hg,by simp[hl],fun j hj=>by omega⟩,Nat.le_refl _,Below.refl _ _,Nat.le_refl _⟩
 ·have hcells:∀ j u,(l.map (Value.int .u64))[j]?=some u→W.cell? (ad.add j)=some u:=by
   intro j u hu;rw[List.getElem?_map]at hu
   obtain⟨x,hx,rfl⟩:=Option.map_eq_some_iff.1 hu;have hj:j<l.length:=(List.getElem?_eq_some_iff.1 hx).1;obtain⟨ad',h,hc⟩:=hr.2 (by omega);cases h;rw[hc j hj];unfold lg;rw[List.getD_eq_getElem?_getD,hx];rfl
  obtain⟨v',w',hrun,h2,h3,h4⟩:=run_append_own (P:=Tryz.prog) W g0 124 ty 122 i (.int .u64 0) 1 8 Tryz.underlying124 hi hz hs hb rfl (by omega) _ 0 [] hown ad m c (l.map (Value.int .u64)) (by simp[hl]) hcells (by
   intro u hu;obtain⟨x,_,rfl⟩:=List.mem_map.1 hu;rfl) (by simp only[maxLen];omega) (by omega) (by omega)
  rcases h2.2 with ⟨e,_⟩|⟨g,cap,cur,rfl,hbg,hh,hnc,hcm,hcs,htk⟩
  ·have:=(h4.1 e).1
   cases this
  ·rw[Nat.zero_add]at *
   refine⟨g,cap,w',hrun,⟨cur,hh,by omega,fun j hj=>?_⟩,hbg,?_,hnc⟩
   ·have hq:(cur.toList.take (m*1))[j]?=(l.map (Value.int .u64))[j]?:=by rw[htk];rfl
    rw[List.getElem?_take,if_pos (by omega),List.getElem?_map,List.getElem?_eq_getElem hj]at hq
    rw[← Array.getElem?_toList,hq];unfold lg;rw[List.getD_eq_getElem?_getD,List.getElem?_eq_getElem hj];rfl
   ·exact⟨h3.os,h3.tape,h3.output,h3.size,fun k hk=>h3.block k (by omega) (fun e=>by simp[Value.ownBlock]at e;omega)⟩
theorem wp_copy {ops:Array Oper} {rest:List Oper} {o:Oper} {a:Act} {Q:Exit→Act→World→Prop} (hgd:o.guard=none) (s x:Operand)
  (ho:o.op = .call { callee := .builtin .append,args:=#[s,x],argTypes:=#[124,124] })
  (W:World) (g0 m c:Nat) (A:Option Addr) (l:List Int) (hs:a.eval s = .slice (some ⟨g0,0,none⟩) 0 0) (hx:a.eval x = .slice A m c)
  (hg:W.heap[g0]?=some (.cells #[] 122 (0,0))) (hl:l.length=m) (hm:m≤100000) (hr:RL W A l)
  (h:∀ g cap w',Blk w' g l→g0≤g→Below g0 W w'→m≤cap→wpList Tryz.prog ops Q rest (a.put o.dst (.slice (some ⟨g,0,none⟩) m cap)) w'):wpList Tryz.prog ops Q (o::rest) a W :=
 wpList_plain hgd fun K hK=>by
  obtain⟨g,cap,w',hrun,h1,h2,h3,h4⟩:=run_copy W g0 m c o.type A l hg hl hm hr
  unfold Oper.wp execOp
  simp only[ho,resolve,invoke,builtin,Sem.run_bind,Sem.run_pure,Result.andThen_ok,List.map_toArray,List.map_cons,List.map_nil,hs,hx,hrun]
  exact hK _ _ (h g cap w' h1 h2 h3 h4)
theorem alloc_last (W:World) (o:Obj) (g:Nat) (hg:g=W.heap.size):(W.alloc o).heap[g]?=some o:=by
 subst hg;show(W.heap.push o)[W.heap.size]?=_;rw[Array.getElem?_push_size]
def SubP (a b:List Int) (w:World) (e:Ending) (w':World):Prop:=(lv b≤lv a→ResP (lv a-lv b) w e w')∧(lv a<lv b→e = .returned (.tuple #[.slice none 0 0,.int .i64 2])∧Below w.heap.size w w')
theorem sub_c (A0 A1:Option Addr) (n m c0 c1:Nat) (a b:List Int) (hn:a.length=n) (hm:b.length=m) (hn4:n≤4000) (hm4:m≤4000) (hc0:n≤c0) (hc1:m≤c1) (w:World) (ha:RL w A0 a) (hb:RL w A1 b) (hla:Lim a) (hlb:Lim b) :
  Calls Tryz.prog 140 #[.slice A0 n c0,.slice A1 m c1] w (SubP a b w):=by
 have hb0:Below w.heap.size w (w.alloc (.cells #[.slice A0 n c0,.slice A1 m c1] 124)):=(Below.refl _ _).alloc (Nat.le_refl _) _;have HA1:=Lib.hid (ha.below hb0 (Nat.le_refl _));have HB1:=Lib.hid (hb.below hb0 (Nat.le_refl _));have HN:=Lib.hid hn;have HM:=Lib.hid hm;have hord:=ordL_val (hla.take (trimN a a.length)) (hlb.take (trimN b b.length)) (Tr_trim a) (Tr_trim b);rw[lv_trim,lv_trim,take_trim_len,take_trim_len,hn,hm]at hord
 have hva:=Lib.hid (lv_trim a);have hvb:=Lib.hid (lv_trim b);have hpl:=take_trim_len a;have hql:=take_trim_len b;rw[hn]at hva hpl
 rw[hm]at hvb hql
 have HP:=Lib.hid hpl;have HQ:=Lib.hid hql;have hp4:=trimN_le a n;have hq4:=trimN_le b m;have HLA:=Lib.hid (hla.take (trimN a n));have HLB:=Lib.hid (hlb.take (trimN b m));generalize hx:a.take (trimN a n)=x at *;generalize hy:b.take (trimN b m)=y at *;have HYE:=Lib.hid hy;have HX:=Lib.hid (show RL _ A0 x from hx ▸ HA1.out.take _);have HY:=Lib.hid (show RL _ A1 y from hy ▸ HB1.out.take _);have HS:=Lib.hid hb0;clear ha hb hn hm hla hlb hpl hql hx hy hb0;by_cases hlt:lv a<lv b
 ·rw[cmpI_lt hlt]at hord
  have HO:=Lib.hid hord;have HLT:=Lib.hid hlt;clear hord hlt;go_enter Tryz.func140,Tryz.ntmps140;go_wp2_with fail
  refine(long2 _ _ _ _ _ _ _ hn4 hm4).mono ?_;rintro e w' ⟨rfl,rfl⟩;go_wp2_with fail
  refine(trimmed_c _ _ _ a HN.out hc0 _ HA1.out).mono ?_;rintro e w5 ⟨rfl,⟨nd,rfl⟩⟩;go_wp2_with fail
  refine(trimmed_c _ _ _ b HM.out hc1 _ (HB1.out.drN _)).mono ?_;rintro e w5 ⟨rfl,⟨nd2,rfl⟩⟩;go_wp2_with fail
  refine(order_c _ _ _ _ _ _ x y HP.out HQ.out _ (HX.out.drN _) (HY.out.drN _)).mono ?_;rintro e w5 ⟨rfl,⟨nd3,rfl⟩⟩;rw[HO.out];go_wp2
  go_ret2
  exact⟨fun h=>by have:=HLT.out;omega,fun _=>⟨rfl,bdrN HS.out _⟩⟩
 ·have h1:decide (cmpI (lv a) (lv b)<0)=false:=by
   rcases cmpI_cases (lv a) (lv b) with ⟨h,hc⟩|⟨h,hc⟩|⟨h,hc⟩ <;> rw[hc] <;> first|rfl|omega
  rw[← hord]at h1
  have hpq:trimN b m≤trimN a n:=by
   rw[← HP.out,← HQ.out];apply Nat.le_of_not_lt;intro hgt;have hy:Tr y:=by rw[← HYE.out,← HM.out];exact Tr_trim b
   have:=lv_lt_of_len HLA.out HLB.out hy hgt;rw[hva.out,hvb.out]at this
   omega
  have HLT:=Lib.hid (show lv y≤lv x by rw[hva.out,hvb.out];omega);have HO:=Lib.hid hord;clear hord hlt;go_enter Tryz.func140,Tryz.ntmps140;go_wp2_with fail
  refine(long2 _ _ _ _ _ _ _ hn4 hm4).mono ?_;rintro e w' ⟨rfl,rfl⟩;go_wp2_with fail
  refine(trimmed_c _ _ _ a HN.out hc0 _ HA1.out).mono ?_;rintro e w5 ⟨rfl,⟨nd,rfl⟩⟩;go_wp2_with fail
  refine(trimmed_c _ _ _ b HM.out hc1 _ (HB1.out.drN _)).mono ?_;rintro e w5 ⟨rfl,⟨nd2,rfl⟩⟩;go_wp2_with fail
  refine(order_c _ _ _ _ _ _ x y HP.out HQ.out _ (HX.out.drN _) (HY.out.drN _)).mono ?_;rintro e w5 ⟨rfl,⟨nd3,rfl⟩⟩;go_wp2_with (at_builtin;go_must (refine wp_copy rfl (.tmp 19) (.tmp 20) rfl _ (w.heap.size+1) (trimN a n) (trimN a n) A0 x rfl rfl ?_ HP.out (by omega) ?_ ?_);go_must (exact alloc_last _ _ _ (by simp));go_must (exact(HX.out.drN _).below ((Below.refl _ _).alloc (Nat.le_refl _) _) (Nat.le_refl _));intro g cap w2 hk hg hb2 hcap)
  have hb3:Below (w.heap.size+1) ((w.alloc (.cells #[.slice A0 n c0,.slice A1 m c1] 124)).drewN (nd+nd2+nd3)) w2:=((Below.refl _ _).alloc (by simp) _).trans hb2;have hy2:=(HY.out.drN (nd+nd2+nd3)).below hb3 (by simp);have hy3:0<y.length→∀ ad,A1=some ad→ad.block≠g:=fun h ad e=>by
   have:=(HY.out.drN (nd+nd2+nd3)).lt h ad e;simp at this;omega
  refine(take_c g 0 _ _ x A1 _ _ y HQ.out _ hk HLA.out (by rw[HP.out];omega) (by omega) hy2 HLB.out hy3).mono ?_;rintro e w6 ⟨L',bb,rfl,hk6,hlen6,hlim6,_,hbit,hval,honly⟩;have hfin:=take_end (n:=trimN a n) (by rw[hlen6];exact HP.out) hlim6 HLA.out HP.out HLB.out (by rw[HQ.out];exact hpq) hbit HLT.out (by rw[HQ.out];exact hval);rw[hva.out,hvb.out]at hfin
  have HF:=Lib.hid hfin;have HK:=Lib.hid (hk6.RL (by rw[hlen6,HP.out];omega));have HL6:=Lib.hid (hlen6.trans HP.out);have HLim:=Lib.hid hlim6;have hbw:Below w.heap.size w w6:=Only.below ((bdrN HS.out _).trans (hb3.mono (by omega))) honly (by omega);clear hfin hk6 hlen6 hlim6 hval hbit hy2 hy3 hk honly;have HBW:=Lib.hid hbw;clear hbw;go_wp2_with fail
  refine(trimmed_c _ _ _ L' HL6.out (by omega) _ HK.out).mono ?_;rintro e w7 ⟨rfl,⟨nd7,rfl⟩⟩;go_wp2
  go_ret2
  exact⟨fun _=>resP_end HL6.out HK.out HLim.out HF.out HBW.out,fun h=>by have:=HLT.out;rw[hva.out,hvb.out]at this;omega⟩
structure MulI (g N m:Nat) (a b:List Int) (w:World) (k:Nat) (L':List Int) (w1:World):Prop where
 blk:Blk w1 g L'
 len:L'.length=N
 lim:Lim L'
 zero:∀ j,k+m≤j→lg L' j=0
 val:win L' 0 (k+m)=sumB (lg a) k*lv b
 only:Only g w w1
theorem Only.trans {g:Nat} {a b c:World} (h:Only g a b) (k:Only g b c):Only g a c :=
 ⟨k.os.trans h.os,k.tape.trans h.tape,k.output.trans h.output,k.size.trans h.size,fun i hi=>(k.block i hi).trans (h.block i hi)⟩
theorem mul_c (A0 A1:Option Addr) (n m c0 c1:Nat) (a b:List Int) (hn:a.length=n) (hm:b.length=m) (hn4:n≤4000) (hm4:m≤4000) (w:World) (ha:RL w A0 a) (hb:RL w A1 b) (hla:Lim a) (hlb:Lim b) :
  Calls Tryz.prog 138 #[.slice A0 n c0,.slice A1 m c1] w (ResP (lv a*lv b) w):=by
 have hb0:Below w.heap.size w (w.alloc (.cells #[.slice A0 n c0,.slice A1 m c1] 124)):=(Below.refl _ _).alloc (Nat.le_refl _) _;have ha1:=ha.below hb0 (Nat.le_refl _);have hb1:=hb.below hb0 (Nat.le_refl _);have hmk:=make_run (n+m) (by omega);rw[show((n+m:Nat):Int)=(n:Int)+(m:Int) by omega]at hmk
 have HN:=Lib.hid hn;have HM:=Lib.hid hm;have HLA:=Lib.hid hla;have HLB:=Lib.hid hlb;have HA1:=Lib.hid ha1;have HB1:=Lib.hid hb1;have HS:=Lib.hid hb0;clear ha hb hn hm hla hlb hb0 ha1 hb1;go_enter Tryz.func138,Tryz.ntmps138;go_wp2_with (go_at_call 125;refine(long2 _ _ _ _ _ _ _ hn4 hm4).mono ?_;rintro e w' ⟨rfl,rfl⟩)
 have hb1:Below (w.heap.size+1) (w.alloc (.cells #[.slice A0 n c0,.slice A1 m c1] 124)) ((w.alloc (.cells #[.slice A0 n c0,.slice A1 m c1] 124)).alloc (.cells (madeCells #[.int .u64 0] (n+m)) 122)):=(Below.refl _ _).alloc (by simp) _;have hk0:=made_blk (w.alloc (.cells #[.slice A0 n c0,.slice A1 m c1] 124)) (n+m);rw[show(w.alloc (.cells #[.slice A0 n c0,.slice A1 m c1] 124)).heap.size=w.heap.size+1 by simp]at hk0
 have hx1:=HA1.out.below hb1 (by simp);have hy1:=HB1.out.below hb1 (by simp);have hax:0<a.length→∀ ad,A0=some ad→ad.block≠w.heap.size+1:=fun h ad e=>Nat.ne_of_lt (by have:=HA1.out.lt h ad e;simpa using this);have hbx:0<b.length→∀ ad,A1=some ad→ad.block≠w.heap.size+1:=fun h ad e=>Nat.ne_of_lt (by have:=HB1.out.lt h ad e;simpa using this);have hbw:=HS.out.trans (hb1.mono (by omega));generalize hw3:(w.alloc (.cells #[.slice A0 n c0,.slice A1 m c1] 124)).alloc (.cells (madeCells #[.int .u64 0] (n+m)) 122)=w3 at *;have HG:w.heap.size≤w.heap.size+1:=by omega
 generalize w.heap.size+1=g at *;have HI0:=Lib.hid (show MulI g (n+m) m a b w3 0 (List.replicate (n+m) 0) w3 from ⟨hk0,by simp,Lim_zero _,fun j _=>lg_replicate _ _,by
  have:win (List.replicate (n+m) 0) 0 (0+m)=0:=sumB_zero (m:=0) (by omega) fun j _ _=>lg_replicate _ _;rw[this];simp[sumB],Only.refl _ _⟩)
 have HX:=Lib.hid hx1;have HY:=Lib.hid hy1;have HAX:=Lib.hid hax;have HBX:=Lib.hid hbx;have HBW:=Lib.hid hbw;clear hk0 hx1 hy1 hax hbx hbw hb1 hw3 hmk;go_loopw [7,8,21] (fun _ _ t w4=>∃ (k:Nat) (L':List Int),k≤n∧t = .int .i64 k∧MulI g (n+m) m a b w3 k L' w4) (fun _ _ t _=>n-(intOf t).toNat)
 case atStart=>exact⟨0,_,Nat.zero_le _,rfl,HI0.out⟩
 case round =>
  obtain⟨k,L',hk,rfl,hI⟩:=hrel;by_cases hlt:k<n
  ·have h1:decide ((k:Int)<(n:Int))=true:=by simp;omega
   obtain⟨ad,rfl,hcl⟩:=(HX.out.only hI.only HAX.out).2 (by have:=HN.out;omega);have hc2:=hcl k (by have:=HN.out;omega);have hY2:=Lib.hid (HY.out.only hI.only HBX.out);have HI:=Lib.hid hI;clear hI hcl;go_wp2_with fail
   refine(addProduct_c g k m _ L' A1 _ b (lg a k) HM.out _ HI.out.blk HI.out.lim (by rw[HI.out.len];omega) hY2.out HLB.out HBX.out (HLA.out k)).mono ?_;rintro e w5 ⟨L2,c,rfl,hk5,hlen5,hlim5,hfar5,hcc,hval5,honly5⟩;have hv:win L2 k m+c*B^m=win L' k m+lg a k*lv b:=by
    rw[hval5,← HM.out];rfl
   have hst:=mul_step (L':=L') hlen5 (by rw[HI.out.len];omega) hlim5 hfar5 HI.out.zero hcc hv HI.out.val;have hce:=hk5.cell (k+m) (by rw[hlen5,HI.out.len];omega);have hfr:=hk5.free (k+m);have HST:=Lib.hid hst;have H5:=Lib.hid (And.intro hk5 (And.intro (hlen5.trans HI.out.len) (HI.out.only.trans honly5)));clear hst hk5 hlen5 hlim5 hfar5 hcc hval5 honly5 hv;go_wp2
   obtain⟨s1,s2,s3⟩:=HST.out;obtain⟨t1,t2,t3⟩:=H5.out;exact⟨⟨k+1,_,by omega,by go_num,⟨t1.set _ _,by rw[List.length_set];exact t2,s1,s2,s3,t3.set _ _⟩⟩,by simp[intOf];omega⟩
  ·have he:k=n:=by omega
   subst he;have h1:decide ((k:Int)<(k:Int))=false:=by simp
   have hlv:lv L'=lv a*lv b:=by
    have h2:=hI.val;have h3:=hI.len;rw[← h3,win_zero]at h2
    rw[h2];unfold lv;rw[HN.out]
   have HF:=Lib.hid hlv;have HR:=Lib.hid (hI.blk.RL (by rw[hI.len];omega));have HI:=Lib.hid hI;clear hI hlv;go_wp2_with fail
   refine(trimmed_c _ _ _ L' HI.out.len (by omega) _ HR.out).mono ?_;rintro e w7 ⟨rfl,⟨nd7,rfl⟩⟩;go_wp2
   go_ret2
   exact resP_end HI.out.len HR.out HI.out.lim HF.out (Only.below HBW.out HI.out.only HG)
end Go.Proofs.YtfcjnhkkfmgmpaaGreat
