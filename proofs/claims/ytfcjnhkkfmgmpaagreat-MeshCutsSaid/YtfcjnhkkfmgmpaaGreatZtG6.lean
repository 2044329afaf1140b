import Derived.Test.YtfcjnhkkfmgmpaaGreatZtG5
import Derived.Lib.ConvBytes
import Derived.Lib.Strings
import Derived.Laws.IdiomStrings
set_option linter.all false
set_option maxRecDepth 100000
set_option maxHeartbeats 8000000
namespace Go.Proofs.YtfcjnhkkfmgmpaaGreat
open Go.RowKit aS
theorem Ao {s:ByteArray} (h:0<s.size):(s.toList==([]:List UInt8))=false/\(s.toList != ([]:List UInt8))=true:=by
 have hn:s.toList≠[]:=by
  intro e;have:s.data.toList.length=0:=by rw[<- Lib.toList_data,e];rfl
  have hs:s.size=s.data.toList.length:=by simp
  omega
 exact⟨beq_eq_false_iff_ne.mpr hn,bne_iff_ne.mpr hn⟩
theorem toList_nil {s:ByteArray} (h:s.size=0):(s.toList==([]:List UInt8))=true/\(s.toList != ([]:List UInt8))=false:=by
 have hn:s.toList=[]:=by
  rw[Lib.toList_data];apply List.eq_nil_of_length_eq_zero;have hs:s.size=s.data.toList.length:=by simp
  omega
 rw[hn];exact⟨rfl,rfl⟩
theorem akO (s:ByteArray) (h:32000<s.size) (w:World) :
  Calls Tryz.prog 116 #[.string s] w fun e w'=>e = .returned (.tuple #[.slice none 0 0,.int .i64 5])/\w'=w:=by
 have h1:decide ((32000:Int)<(s.size:Int))=true:=by simp;omega
 go_enter Tryz.func116,Tryz.ntmps116;go_wp2
 go_ret2
 exact⟨rfl,rfl⟩
theorem ao' (s:ByteArray) (h0:0<s.size) (h:s.size<=32000) (hb:gw s (s.size-1)=0) (w:World) :
  Calls Tryz.prog 116 #[.string s] w fun e w'=>e = .returned (.tuple #[.slice none 0 0,.int .i64 1])/\w'=w:=by
 have h1:decide ((32000:Int)<(s.size:Int))=false:=by simp;omega
 obtain⟨h2,h3⟩:=Ao h0;have hx:∀ h:0<s.size,((s[0]'h).toNat:Int)=0:=fun h=>by
  rw[<- hb];unfold gw;rw[dif_pos aD];congr 3
  omega
 have q1:=eq_true (show(0:Int)<(s.size:Int) by omega);have q2:=eq_true h0;clear h hb;go_enter Tryz.func116,Tryz.ntmps116;go_wp2
 go_ret2
 exact⟨rfl,rfl⟩
theorem akP {w:World} {A:Option Addr} {n c:Nat} {l:List Int} (hl:l.length=n) (hc:n<=c) (hr:RL w A l):qz w (.slice A n c) l:=by
 subst hl;exact⟨A,c,rfl,hc,hr⟩
def OfP (v:Int) (w:World) (e:Ending) (w':World):Prop:=∃ g n r,e = .returned (.tuple #[.slice (some ⟨g,0,none⟩) n n,.int .i64 0])/\w.heap.size<=g/\r.length=n/\n<=4000/\cV w' g r/\aH r/\Tr r/\lv r=v/\Below w.heap.size w w'
structure OfW (g N8:Nat) (s:ByteArray) (w:World) (k:Nat) (L:List Int) (w1:World):Prop where
 blk:cV w1 g L
 inv:iH (gw s) N8 k L
 only:bW g w w1
theorem VZ (s:ByteArray) (h:s.size<=32000) (hb:0<s.size->gw s (s.size-1)≠0) (w:World) :
  Calls Tryz.prog 116 #[.string s] w (OfP (nv s) w):=by
 have h1:decide ((32000:Int)<(s.size:Int))=false:=by simp;omega
 have HT:=Lib.hid hb;have hb1:Below w.heap.size w (w.alloc (.cells (madeCells #[.int .u64 0] ((s.size+7) / 8)) 122)):=(Below.refl _ _).alloc (Nat.le_refl _) _;have dz:=sj w ((s.size+7) / 8);have hmk:=r_ ((s.size+7) / 8) aD;rw[show(((s.size+7) / 8:Nat):Int)=((s.size:Int)+8-1) / 8 by omega]at hmk
 rcases Nat.eq_zero_or_pos s.size with h0|h0
 ·obtain⟨h2,h3⟩:=toList_nil h0
  have hlt:=decide_eq_false (show ¬ (0:Int)<(s.size:Int) by omega);have aB1:=decide_eq_false (show ¬ 0<s.size by omega);have HH:=Lib.hid h0;clear hb h0;go_enter Tryz.func116,Tryz.ntmps116;go_wp2
  go_loopw [5,26] (fun _ t w1=>t = .int .i64 0/\Hid (w1=w.alloc (.cells (madeCells #[.int .u64 0] ((s.size+7) / 8)) 122))) (fun _ t _=>0)
  case atStart=>exact⟨rfl,rfl⟩
  case round =>
   obtain⟨rfl,hw⟩:=hrel;go_wp2
   go_ret2
   rw[hw.out];have hn:(s.size+7) / 8=0:=by rw[HH.out]
   rw[hn]at dz ⊢
   refine⟨w.heap.size,0,[],rfl,Nat.le_refl _,rfl,by omega,dz,abl,.inl rfl,?_,by rw[hn]at hb1;exact hb1⟩;unfold nv;rw[HH.out];rfl
 ·obtain⟨h2,h3⟩:=Ao h0
  obtain⟨t0,BD⟩:∃ t0,gw s (s.size-1)=t0:=⟨_,rfl⟩
  have hx:∀ h:0<s.size,((s[0]'h).toNat:Int)=t0:=fun h=>by
   rw[<- BD];unfold gw;rw[dif_pos aD];congr 3
   omega
  have hne:(t0==0)=false:=beq_eq_false_iff_ne.mpr (by rw[<- BD];exact hb h0);have q1:=eq_true (show(0:Int)<(s.size:Int) by omega);have q2:=eq_true h0;clear hb BD;go_enter Tryz.func116,Tryz.ntmps116;go_wp2
  obtain⟨N8,GJ⟩:∃ N8,(s.size+7) / 8=N8:=⟨_,rfl⟩
  rw[GJ]at hb1 dz ⊢
  have BF:=Lib.hid GJ;generalize hw3:w.alloc (.cells (madeCells #[.int .u64 0] N8) 122)=w3 at *;have HG:w.heap.size<=w.heap.size:=Nat.le_refl _;generalize hg:w.heap.size=g at HG hb1 dz ⊢;have xT:=Lib.hid hg;have bI:=Lib.hid hb1;have H0:=Lib.hid (show OfW g N8 s w3 0 (List.replicate N8 0) w3 from ⟨dz,iH.start _ _,bW.refl _ _⟩);clear GJ hx q1 q2 hne h2 h3 hmk dz hb1 hg hw3;go_loopw [5,26] (fun _ t w1=>∃ (k:Nat) (L:List Int),k<=s.size/\t = .int .i64 k/\OfW g N8 s w3 k L w1) (fun _ t _=>s.size-(intOf t).toNat)
  case atStart=>exact⟨0,_,Nat.zero_le _,rfl,H0.out⟩
  case round =>
   obtain⟨k,L,hk,rfl,hI⟩:=hrel;by_cases hlt:k<s.size
   ·have h1:decide ((k:Int)<(s.size:Int))=true:=by simp;omega
    have ho:=hI.only;have BG:k / 8<N8:=by have:=BF.out;omega
    obtain⟨⟨s1,s2,s3⟩,s4⟩:=hI.inv.step (su s) BG;have hblk:=hI.blk;have hce:=hblk.cell (k / 8) (by rw[hI.inv.len];exact BG);have hfr:=hblk.free (k / 8);obtain⟨j,hj⟩:∃ j,j=s.size-1-k:=⟨_,rfl⟩
    have hx:∀ h:j<s.size,((s[j]'h).toNat:Int)=gw s k:=fun h=>by
     unfold gw;rw[dif_pos hlt];subst hj;rfl
    obtain⟨q8,wK⟩:∃ q8,k / 8=q8:=⟨_,rfl⟩
    obtain⟨e8,vE⟩:∃ e8,8*(k%8)=e8:=⟨_,rfl⟩
    obtain⟨X,hX⟩:∃ X,gw s k*256^(k%8)=X:=⟨_,rfl⟩
    rw[wK]at BG s3 s4 hce hfr
    rw[hX]at s1 s2 s3 s4
    have a4:IntKind.u64.wrap (gw s k*2^e8)=X:=by
     rw[<- vE,<- Y2,hX];exact cJ _ ⟨s1,s2⟩
    have a5:bits .or .u64 (lg L q8) X=lg L q8+X:=by
     have hm:X%2^e8=0:=by rw[<- hX,<- vE,<- Y2];exact Int.mul_emod_left _ _
     have hlo:lg L q8<2^e8:=by rw[<- wK,<- vE,<- Y2];exact hI.inv.low
     rw[or_comm,OC _ _ e8 ⟨s1,s2⟩ (hI.inv.bL _).1 hlo (hI.inv.bL _).2 hm,Int.add_comm]
    have a7:bits .or .u64 (lg L q8) (IntKind.u64.wrap (gw s k*2^min e8 64))=lg L q8+X:=by
     rw[Nat.min_eq_left aD,a4,a5]
    have A7:=Lib.hid a7;clear a4 a5 a7;have a6:IntKind.u64.wrap (gw s k)=gw s k:=cJ _ ⟨(su s k).1,by have:=(su s k).2;rw[B_eq];omega⟩;have b0:=(su s k).1;have HI:=Lib.hid (And.intro hblk ho);have HS:=Lib.hid s4;have HJ:=Lib.hid (And.intro hj hk);have c1:=eq_true (show(q8:Int)<(N8:Int) by omega);have c2:=eq_true (show(0:Int)<=(q8:Int) by omega);have c3:=eq_true (show(j:Int)<(s.size:Int) by omega);have c4:=eq_true (show(0:Int)<=(j:Int) by omega);have c5:=eq_true (show j<s.size by omega);have c6:=eq_true (show(0:Int)<=(e8:Int) by omega);have a0:IntKind.i64.wrap ((k:Int) / 8)=(q8:Int):=by rw[show(k:Int) / 8=(q8:Int) by omega];exact IntWalk.i64_in _ aD
    have a1:=IntWalk.i64_in ((s.size:Int)-1) aD;have a2:IntKind.i64.wrap ((s.size:Int)-1-(k:Int))=(j:Int):=by rw[show(s.size:Int)-1-(k:Int)=(j:Int) by omega];exact IntWalk.i64_in _ aD
    have a3:IntKind.i64.wrap (8*((k:Int)%8))=(e8:Int):=by rw[show 8*((k:Int)%8)=(e8:Int) by omega];exact IntWalk.i64_in _ aD
    have hmd:(k:Int).tmod 8=(k:Int)%8:=Int.tmod_eq_emod_of_nonneg aD;clear hj hk hI s1 s2 s3 s4 hblk ho BG wK vE hX;go_wp2
    go_still_tail 19,(by kernel_rfl)
    change wpList _ _ _ _ _ wr.drew;clear c1 c2 c3 c4 c5 c6 a0 a1 a2 a3 a6 b0 hmd;go_wp2
    rw[A7.out];obtain⟨i1,i2⟩:=HI.out;exact⟨⟨k+1,_,by omega,by go_num,⟨i1.set _ _,HS.out,(i2.set _ _).dr⟩⟩,by simp[intOf];omega⟩
   ·have he:k=s.size:=by omega
    have h1:decide ((k:Int)<(s.size:Int))=false:=by simp;omega
    subst he;have hl:=hI.inv.val;have dD:=iH.top (n:=s.size) (by rw[BF.out];exact hI.inv) (su s) HT.out;have hrl:=hI.blk;have hlen:=hI.inv.len;have j3:=hI.inv.bL;have hbl:Below w.heap.size w wr:=by rw[xT.out];exact bW.below bI.out hI.only (Nat.le_refl _)
    clear hI;have HH:=Lib.hid (And.intro hl (And.intro dD (And.intro hrl (And.intro hlen (And.intro j3 hbl)))));clear hl dD hrl hlen j3 hbl;go_wp2
    go_ret2
    obtain⟨hl,dD,hrl,hlen,j3,hbl⟩:=HH.out;exact⟨g,N8,L,rfl,by rw[xT.out];exact HG,hlen,by have:=BF.out;omega,hrl,j3,dD,hl,hbl⟩
theorem ap2 (s:ByteArray) (h:s.size<=32000) (hb:0<s.size->gw s (s.size-1)≠0) (w:World) :
  Calls Tryz.prog 116 #[.string s] w (Mq (nv s) w) :=
 (VZ s h hb w).mono fun _ _ ⟨g,n,r,he,hg,hl,hn,hk,h1,h2,h3,h4⟩=>⟨_,r,he,akP hl (Nat.le_refl _) (hk.RL aD),h1,h2,h3,h4⟩
def xG (w:World) (g:Nat) (l:List Int):Prop:=∃ cur:Array Value,w.heap[g]?=some (.cells cur 5 (0,0))/\l.length<=cur.size/\∀ j,j<l.length->cur[j]?=some (.int .u8 (lg l j))
theorem xG.cell {w:World} {g:Nat} {l:List Int} (h:xG w g l) (j:Nat) (hj:j<l.length):w.cell? ⟨g,j,none⟩=some (.int .u8 (lg l j)):=by
 obtain⟨cur,h,_,hc⟩:=h;unfold World.cell?;rw[show w.heap[(⟨g,j,none⟩:Addr).block]?=_ from h];simpa using hc j hj
theorem xG.free {w:World} {g:Nat} {l:List Int} (h:xG w g l) (j:Nat):w.frozen? ⟨g,j,none⟩=false:=by
 obtain⟨cur,h,_,hc⟩:=h;unfold World.frozen?;rw[show w.heap[(⟨g,j,none⟩:Addr).block]?=_ from h];simp
theorem xG.set {w:World} {g:Nat} {l:List Int} (h:xG w g l) (j:Nat) (x:Int):xG (w.setCell ⟨g,j,none⟩ (.int .u8 x)) g (l.set j x):=by
 obtain⟨cur,h,hl,hc⟩:=h;refine⟨cur.setIfInBounds j (.int .u8 x),by simp[World.setCell,Array.getElem?_modify,h],by simpa using hl,fun k hk=>?_⟩;rw[List.length_set]at hk
 rw[cO,Array.getElem?_setIfInBounds];by_cases e:j=k
 ·subst e
  rw[if_pos rfl,if_pos aD,if_pos ⟨rfl,hk⟩]
 ·rw[if_neg e,if_neg aD]
  exact hc k hk
theorem alw:(Tryz.prog.info? 5).map (fun i=>(i.zero,i.size,i.bytes))=some (some (.int .u8 0),1,1):=by kernel_rfl
theorem aaK (n:Nat) (hn:n<=100000) (w:World):(Instr.makeSlice 138 (.int .i64 (n:Int)) (.int .i64 (n:Int))).run Tryz.prog w = .ok (.slice (some ⟨w.heap.size,0,none⟩) n n) (w.alloc (.cells (madeCells #[.int .u8 0] n) 5)) :=
 run_make_row' 138 5 (.int .u8 0) 1 Tryz.underlying138 alw (by kernel_rfl) .i64 .i64 n aD aD w
theorem aaL (w:World) (n:Nat):xG (w.alloc (.cells (madeCells #[.int .u8 0] n) 5)) w.heap.size (List.replicate n 0):=by
 refine⟨madeCells #[.int .u8 0] n,?_,by rw[size_madeCells];simp,fun j hj=>?_⟩
 ·rw[show(w.alloc (.cells (madeCells #[.int .u8 0] n) 5)).heap=w.heap.push (.cells (madeCells #[.int .u8 0] n) 5) from rfl,Array.getElem?_push_size]
 ·rw[mX]
  rw[List.length_replicate]at hj
  have:(madeCells #[.int .u8 0] n).toList[j]?=some (.int .u8 0):=by rw[toList_madeCells_one];simp[hj]
  simpa using this
theorem xG.text {w:World} {g n c:Nat} {l:List Int} (h:xG w g l) (hl:l.length=n) (hb:∀ j,0<=lg l j/\lg l j<256) :
  (convert 138 36 (.slice (some ⟨g,0,none⟩) n c)).run Tryz.prog w = .ok (.string ⟨(l.map fun x=>UInt8.ofNat x.toNat).toArray⟩) w:=by
 have:=run_convert_bytes_back (P:=Tryz.prog) w 138 36 5 ⟨g,0,none⟩ c (l.map fun x=>UInt8.ofNat x.toNat) Tryz.underlying138 Tryz.underlying5 Tryz.underlying36 (fun j hj=>by
  rw[List.length_map]at hj
  have hc:=h.cell j hj;rw[show(⟨g,0,none⟩:Addr).add j=⟨g,j,none⟩ by unfold Addr.add;split <;> simp_all,hc];have hx:lg l j=l[j]:=by unfold lg;rw[List.getD_eq_getElem?_getD,List.getElem?_eq_getElem hj];rfl
  have:=hb j;rw[List.getElem_map,S_ (by rw[hx]at this;omega),<- hx];congr 2
  omega)
 rw[List.length_map,hl]at this
 exact this
structure rz (g N:Nat) (v:Int) (w:World) (k:Nat) (b:List Int) (w1:World):Prop where
 blk:xG w1 g b
 len:b.length=N
 bd:∀ j,0<=lg b j/\lg b j<256
 val:∀ i,i<k->lg b (N-1-i)=kF v i
 only:bW g w w1
theorem rz.text {g N:Nat} {v:Int} {w:World} {b:List Int} {w1:World} (h:rz g N v w N b w1) (hN:nb v=N):(⟨(b.map fun x=>UInt8.ofNat x.toNat).toArray⟩:ByteArray)=eF v:=by
 unfold eF;rw[hN];congr 2
 apply List.ext_getElem
 ·simp[h.len]
 ·intro i h1 h2
  rw[List.length_map,h.len]at h1
  have hv:=h.val (N-1-i) aD;rw[show N-1-(N-1-i)=i by omega]at hv
  have hx:lg b i=b[i]'(by rw[h.len];exact h1):=by unfold lg;rw[List.getD_eq_getElem?_getD,List.getElem?_eq_getElem (by rw[h.len];exact h1)];rfl
  rw[hx]at hv
  simp[hv]
theorem ap4 (A0:Option Addr) (n c0:Nat) (l:List Int) (hn:l.length=n) (gP:n<=4000) (hc0:n<=c0) (w:World) (ha:RL w A0 l) (hla:aH l) :
  Calls Tryz.prog 135 #[.slice A0 n c0] w fun e w'=>e = .returned (.tuple #[.string (eF (lv l)),.int .i64 0])/\Below w.heap.size w w':=by
 have hb0:Below w.heap.size w (w.alloc (.cells #[.slice A0 n c0] 124)):=(Below.refl _ _).alloc (Nat.le_refl _) _;have lH:=Lib.hid (ha.below hb0 (Nat.le_refl _));have HN:=Lib.hid hn;have hpl:=gK l;have lU:=eH l;have dD:=lF l;rw[hn]at hpl lU dD
 have J1:=qU l n;have pz:=hla.take (bG l n);have GK:=lH.out.take (bG l n);have aB2:=hb0;rw[<- lU];generalize hx:l.take (bG l n)=x at *;generalize hp:bG l n=p at *;have Sc:=Lib.hid hp;have HS:=Lib.hid hb0;clear ha hn hla hb0 hx hp lU;cases p with
 | zero =>
  have hx0:lv x=0:=by unfold lv;rw[hpl];rfl
  have HX0:=Lib.hid hx0;clear hx0 hpl dD pz GK;go_enter Tryz.func135,Tryz.ntmps135;go_wp2_with fail
  refine(adX _ _ _ _ gP).mono ?_;rintro e w' ⟨rfl,rfl⟩;go_wp2_with fail
  refine(lD _ _ _ l HN.out hc0 _ lH.out).mono ?_;rintro e w5 ⟨rfl,⟨nd,rfl⟩⟩;rw[Sc.out];go_wp2
  go_ret2
  rw[HX0.out,aaJ];exact⟨rfl,iy HS.out _⟩
 | succ p =>
  have mH:0<lg x p/\lg x p<B:=by
   have:=pz p;rcases dD with h|h
   ·omega
   ·rw[hpl]at h
    exact⟨by have:lg x p≠0:=h;omega,this.2⟩
  obtain⟨s,hs,F4,hs1,hs2⟩:=U' (lg x p) mH.1 mH.2;have hnb:=ap3 pz hpl F4 hs1 hs2;obtain⟨N,hN⟩:∃ N,8*(p+1)-s / 8=N:=⟨_,rfl⟩
  rw[hN]at hnb
  obtain⟨ad,rfl,hc⟩:=GK.2 aD;have hct:=hc p aD;have Nf:=Lib.hid (XA (lg x p) ⟨by omega,mH.2⟩);have hmk:=aaK N aD;have DN:=Lib.hid GK;have ew:=Lib.hid hs;have Za:=Lib.hid hnb;have vF:=Lib.hid (And.intro pz hpl);have hz1:((p:Int)+1==0)=false:=beq_eq_false_iff_ne.mpr aD;have a1:((p:Int)+1)*8-(s:Int) / 8=(N:Int):=by omega
  have BF:=Lib.hid hN;clear hs hs1 hs2 hnb GK pz hpl dD mH hc hN;go_enter Tryz.func135,Tryz.ntmps135;go_wp2_with fail
  refine(adX _ _ _ _ gP).mono ?_;rintro e w' ⟨rfl,rfl⟩;go_wp2_with fail
  refine(lD _ _ _ l HN.out hc0 _ lH.out).mono ?_;rintro e w5 ⟨rfl,⟨nd,rfl⟩⟩;rw[Sc.out];go_wp2_with fail
  refine(Nf.out _).mono ?_;rintro e w5 ⟨rfl,rfl⟩;rw[ew.out];go_wp2
  have hb1:Below (w.heap.size+1) ((w.alloc (.cells #[.slice (some ad) n c0] 124)).drewN nd) (((w.alloc (.cells #[.slice (some ad) n c0] 124)).drewN nd).alloc (.cells (madeCells #[.int .u8 0] N) 5)):=(Below.refl _ _).alloc (by simp) _;have dz:=aaL ((w.alloc (.cells #[.slice (some ad) n c0] 124)).drewN nd) N;rw[show((w.alloc (.cells #[.slice (some ad) n c0] 124)).drewN nd).heap.size=w.heap.size+1 by simp]at dz
  have hx1:=(DN.out.dP nd).below hb1 (by simp);have J5:ad.block≠w.heap.size+1:=Nat.ne_of_lt (by have:=DN.out.lt (by rw[vF.out.2];omega) ad rfl;simpa using this);have mL:=(iy HS.out nd).trans (hb1.mono aD);have HG:w.heap.size<=w.heap.size+1:=by omega
  generalize hw3:((w.alloc (.cells #[.slice (some ad) n c0] 124)).drewN nd).alloc (.cells (madeCells #[.int .u8 0] N) 5)=w3 at *;generalize w.heap.size+1=g at *;have H0:=Lib.hid (show rz g N (lv x) w3 0 (List.replicate N 0) w3 from ⟨dz,by simp,fun j=>by rw[mX];exact⟨Int.le_refl _,by decide⟩,fun i h=>by omega,bW.refl _ _⟩);have HX:=Lib.hid hx1;have Zb:=Lib.hid J5;have n9:=Lib.hid mL;clear dz hx1 J5 hb1 mL hw3 hmk hct a1 hz1;go_loopw [6,30] (fun _ t w1=>∃ (k:Nat) (b:List Int),k<=N/\t = .int .i64 k/\rz g N (lv x) w3 k b w1) (fun _ t _=>N-(intOf t).toNat)
  case atStart=>exact⟨0,_,Nat.zero_le _,rfl,H0.out⟩
  case round =>
   obtain⟨k,b,hk,rfl,hI⟩:=hrel;by_cases hlt:k<N
   ·have h1:decide ((k:Int)<(N:Int))=true:=by simp;omega
    obtain⟨q8,wK⟩:∃ q8,k / 8=q8:=⟨_,rfl⟩
    obtain⟨e8,vE⟩:∃ e8,8*(k%8)=e8:=⟨_,rfl⟩
    obtain⟨j,hj⟩:∃ j,j=N-1-k:=⟨_,rfl⟩
    have hq:q8<p+1:=by have:=BF.out;omega
    obtain⟨zZ,had,cC⟩:=(HX.out.only hI.only (fun _ zZ e=>by cases e;exact Zb.out)).2 (by rw[vF.out.2];omega);cases had;have hc2:=cC q8 (by rw[vF.out.2];exact hq);have hce:=hI.blk.cell j (by rw[hI.len];omega);have hfr:=hI.blk.free j;have hd:lg x q8 / 2^e8%256=kF (lv x) k:=by rw[n7 vF.out.1,wK,Y2,vE]
    have HD:=Lib.hid hd;have HI:=Lib.hid hI;have HJ:=Lib.hid (And.intro hj hk);have a0:(k:Int) / 8=(q8:Int):=by omega
    have a2:(N:Int)-1-(k:Int)=(j:Int):=by omega
    have a3:8*((k:Int)%8)=(e8:Int):=by omega
    have hjN:j<N:=by omega
    have hN9:N<=40000:=by have:=BF.out;omega
    have hq9:q8<p+1:=by omega
    have atP:e8<=64:=by omega
    clear hI cC hd hj hk wK vE hq;go_wp2
    rw[HD.out];obtain⟨hj,hk⟩:=HJ.out;refine⟨⟨k+1,_,by omega,by go_num,⟨HI.out.blk.set _ _,by rw[List.length_set];exact HI.out.len,?_,?_,HI.out.only.set _ _⟩⟩,by simp[intOf];omega⟩
    ·intro t
     rw[cO];split
     ·exact PZ _ _
     ·exact HI.out.bd t
    ·intro t ht
     rw[cO];by_cases e:t=k
     ·subst e
      rw[if_pos ⟨hj,by rw[HI.out.len];omega⟩]
     ·rw[if_neg aD]
      exact HI.out.val t aD
   ·have he:k=N:=by omega
    subst he;have h1:decide ((k:Int)<(k:Int))=false:=by simp
    have hcv:=hI.blk.text (c:=k) hI.len hI.bd;rw[hI.text Za.out]at hcv
    have hbl:Below w.heap.size w wr:=bW.below n9.out hI.only HG;have rC:=Lib.hid hbl;clear hI hbl;go_wp2
    go_ret2
    exact⟨rfl,rC.out⟩
def ij (n:Bool) (s:ByteArray):Int:=if 32000<s.size then 5 else if 0<s.size/\gw s (s.size-1)=0 then 1 else if n=true/\s.size=0 then 1 else 0
def fX (n:Bool) (s:ByteArray):Prop:=s.size<=32000/\Canon s/\(n=true->0<s.size)
theorem sw {n:Bool} {s:ByteArray}:ij n s=0↔fX n s:=by
 unfold ij fX Canon;constructor
 ·intro h
  split at h
  ·omega
  ·split at h
   ·omega
   ·split at h
    ·omega
    ·rename_i h1 h2 h3
     refine⟨by omega,fun h0 hz=>h2 ⟨h0,hz⟩,fun hn=>?_⟩;rcases Nat.eq_zero_or_pos s.size with h0|h0
     ·exact absurd ⟨hn,h0⟩ h3
     ·exact h0
 ·rintro⟨h1,h2,h3⟩
  rw[if_neg aD,if_neg (fun h=>h2 h.1 h.2),if_neg (fun h=>by have:=h3 h.1;omega)]
theorem OP (n:Bool) (s:ByteArray) (w:World) :
  Calls Tryz.prog 107 #[.agg #[.bool n,.string s]] w fun e w'=>e = .returned (.int .i64 (ij n s))/\Below w.heap.size w w':=by
 have hu:=Tryz.underlying38;have hb0:Below w.heap.size w (w.alloc (.cells #[.bool n,.string s] 38)):=(Below.refl _ _).alloc (Nat.le_refl _) _;have HS:=Lib.hid hb0;clear hb0;unfold ij;by_cases h1:32000<s.size
 ·rw[if_pos h1]
  have HO:=Lib.hid (akO s h1);clear h1;go_enter Tryz.func107,Tryz.ntmps107;go_wp2_with fail
  refine(HO.out _).mono ?_;rintro e w' ⟨rfl,rfl⟩;go_wp2
  go_ret
  exact⟨rfl,HS.out⟩
 ·rw[if_neg h1]
  by_cases h2:0<s.size/\gw s (s.size-1)=0
  ·rw[if_pos h2]
   have HO:=Lib.hid (ao' s h2.1 aD h2.2);clear h1 h2;go_enter Tryz.func107,Tryz.ntmps107;go_wp2_with fail
   refine(HO.out _).mono ?_;rintro e w' ⟨rfl,rfl⟩;go_wp2
   go_ret
   exact⟨rfl,HS.out⟩
  ·rw[if_neg h2]
   have HO:=Lib.hid (ap2 s aD (fun h0 hz=>h2 ⟨h0,hz⟩));clear h1 h2;cases n with
   | false =>
    rw[if_neg (by simp)];go_enter Tryz.func107,Tryz.ntmps107;go_wp2_with fail
    refine(HO.out _).mono ?_;rintro e w' ⟨x,r,rfl,hr1,hr2,hr3,hr4,gu⟩;have hce:=gu.cell (p:=⟨w.heap.size,0,none⟩) (by simp);have agm:=gu.cell (p:=⟨w.heap.size,1,none⟩) (by simp);have hbl:=HS.out.trans (gu.mono (by simp));have rC:=Lib.hid hbl;clear hr1 hr2 hr3 hr4 gu hbl;go_wp2
    go_ret
    exact⟨rfl,rC.out⟩
   | true =>
    by_cases h0:s.size=0
    ·obtain⟨t1,t2⟩:=toList_nil h0
     rw[if_pos ⟨rfl,h0⟩];clear h0;go_enter Tryz.func107,Tryz.ntmps107;go_wp2_with fail
     refine(HO.out _).mono ?_;rintro e w' ⟨x,r,rfl,hr1,hr2,hr3,hr4,gu⟩;have hce:=gu.cell (p:=⟨w.heap.size,0,none⟩) (by simp);have agm:=gu.cell (p:=⟨w.heap.size,1,none⟩) (by simp);have hbl:=HS.out.trans (gu.mono (by simp));have rC:=Lib.hid hbl;clear hr1 hr2 hr3 hr4 gu hbl;go_wp2
     go_ret
     exact⟨rfl,rC.out⟩
    ·obtain⟨t1,t2⟩:=Ao (by omega:0<s.size)
     rw[if_neg (fun h=>h0 h.2)];clear h0;go_enter Tryz.func107,Tryz.ntmps107;go_wp2_with fail
     refine(HO.out _).mono ?_;rintro e w' ⟨x,r,rfl,hr1,hr2,hr3,hr4,gu⟩;have hce:=gu.cell (p:=⟨w.heap.size,0,none⟩) (by simp);have agm:=gu.cell (p:=⟨w.heap.size,1,none⟩) (by simp);have hbl:=HS.out.trans (gu.mono (by simp));have rC:=Lib.hid hbl;clear hr1 hr2 hr3 hr4 gu hbl;go_wp2
     go_ret
     exact⟨rfl,rC.out⟩
end Go.Proofs.YtfcjnhkkfmgmpaaGreat
