import Derived.Test.YtcmepkhjggpmeaaGreatZuG7
import Derived.Lib.ConvBytes
import Derived.Lib.Strings
import Derived.Laws.IdiomStrings
set_option linter.all false
set_option maxRecDepth 100000
set_option maxHeartbeats 8000000
namespace Go.Proofs.YtcmepkhjggpmeaaGreat
open Go.RowKit aP
theorem yt {s:ByteArray} (h:0<s.size):(s.toList==([]:List UInt8))=false/\(s.toList != ([]:List UInt8))=true:=by
 have hn:s.toList≠[]:=by
  intro e;have:s.data.toList.length=0:=by rw[<- Lib.toList_data,e];rfl
  have hs:s.size=s.data.toList.length:=by simp
  omega
 exact⟨beq_eq_false_iff_ne.mpr hn,bne_iff_ne.mpr hn⟩
theorem toList_nil {s:ByteArray} (h:s.size=0):(s.toList==([]:List UInt8))=true/\(s.toList != ([]:List UInt8))=false:=by
 have hn:s.toList=[]:=by
  rw[Lib.toList_data];apply List.eq_nil_of_length_eq_zero;have hs:s.size=s.data.toList.length:=by simp
  omega
 rw[hn];exact⟨rfl,rfl⟩
theorem ahq (s:ByteArray) (h:32000<s.size) (w:World) :
  Calls Tryz.prog 140 #[.string s] w fun e w'=>e = .returned (.tuple #[.slice none 0 0,.int .i64 5])/\w'=w:=by
 have h1:decide ((32000:Int)<(s.size:Int))=true:=by simp;omega
 go_enter Tryz.func140,Tryz.ntmps140;go_wp2
 go_ret2
 exact⟨rfl,rfl⟩
theorem alW (s:ByteArray) (h0:0<s.size) (h:s.size<=32000) (hb:fF s (s.size-1)=0) (w:World) :
  Calls Tryz.prog 140 #[.string s] w fun e w'=>e = .returned (.tuple #[.slice none 0 0,.int .i64 1])/\w'=w:=by
 have h1:decide ((32000:Int)<(s.size:Int))=false:=by simp;omega
 obtain⟨h2,h3⟩:=yt h0;have hx:∀ h:0<s.size,((s[0]'h).toNat:Int)=0:=fun h=>by
  rw[<- hb];unfold fF;rw[dif_pos aC];congr 3
  omega
 have q1:=eq_true (show(0:Int)<(s.size:Int) by omega);have q2:=eq_true h0;clear h hb;go_enter Tryz.func140,Tryz.ntmps140;go_wp2
 go_ret2
 exact⟨rfl,rfl⟩
theorem ahr {w:World} {A:Option Addr} {n c:Nat} {l:List Int} (hl:l.length=n) (hc:n<=c) (hr:RL w A l):pO w (.slice A n c) l:=by
 subst hl;exact⟨A,c,rfl,hc,hr⟩
def OfP (v:Int) (w:World) (e:Ending) (w':World):Prop:=∃ g n r,e = .returned (.tuple #[.slice (some ⟨g,0,none⟩) n n,.int .i64 0])/\w.heap.size<=g/\r.length=n/\n<=4000/\cO w' g r/\aG r/\Tr r/\lv r=v/\Below w.heap.size w w'
structure OfW (g N8:Nat) (s:ByteArray) (w:World) (k:Nat) (L:List Int) (w1:World):Prop where
 blk:cO w1 g L
 inv:gM (fF s) N8 k L
 only:bN g w w1
theorem SN (s:ByteArray) (h:s.size<=32000) (hb:0<s.size->fF s (s.size-1)≠0) (w:World) :
  Calls Tryz.prog 140 #[.string s] w (OfP (nv s) w):=by
 have h1:decide ((32000:Int)<(s.size:Int))=false:=by simp;omega
 have HT:=Lib.hid hb;have hb1:Below w.heap.size w (w.alloc (.cells (madeCells #[.int .u64 0] ((s.size+7) / 8)) 140)):=(Below.refl _ _).alloc (Nat.le_refl _) _;have dn:=qY w ((s.size+7) / 8);have hmk:=qX ((s.size+7) / 8) aC;rw[show(((s.size+7) / 8:Nat):Int)=((s.size:Int)+8-1) / 8 by omega]at hmk
 rcases Nat.eq_zero_or_pos s.size with h0|h0
 ·obtain⟨h2,h3⟩:=toList_nil h0
  have hlt:=decide_eq_false (show ¬ (0:Int)<(s.size:Int) by omega);have aAO:=decide_eq_false (show ¬ 0<s.size by omega);have HH:=Lib.hid h0;clear hb h0;go_enter Tryz.func140,Tryz.ntmps140;go_wp2
  go_loopw [5,26] (fun _ t w1=>t = .int .i64 0/\Hid (w1=w.alloc (.cells (madeCells #[.int .u64 0] ((s.size+7) / 8)) 140))) (fun _ t _=>0)
  case atStart=>exact⟨rfl,rfl⟩
  case round =>
   obtain⟨rfl,hw⟩:=hrel;go_wp2
   go_ret2
   rw[hw.out];have hn:(s.size+7) / 8=0:=by rw[HH.out]
   rw[hn]at dn ⊢
   refine⟨w.heap.size,0,[],rfl,Nat.le_refl _,rfl,by omega,dn,YE,.inl rfl,?_,by rw[hn]at hb1;exact hb1⟩;unfold nv;rw[HH.out];rfl
 ·obtain⟨h2,h3⟩:=yt h0
  obtain⟨t0,Ai⟩:∃ t0,fF s (s.size-1)=t0:=⟨_,rfl⟩
  have hx:∀ h:0<s.size,((s[0]'h).toNat:Int)=t0:=fun h=>by
   rw[<- Ai];unfold fF;rw[dif_pos aC];congr 3
   omega
  have hne:(t0==0)=false:=beq_eq_false_iff_ne.mpr (by rw[<- Ai];exact hb h0);have q1:=eq_true (show(0:Int)<(s.size:Int) by omega);have q2:=eq_true h0;clear hb Ai;go_enter Tryz.func140,Tryz.ntmps140;go_wp2
  obtain⟨N8,EK⟩:∃ N8,(s.size+7) / 8=N8:=⟨_,rfl⟩
  rw[EK]at hb1 dn ⊢
  have Aj:=Lib.hid EK;generalize hw3:w.alloc (.cells (madeCells #[.int .u64 0] N8) 140)=w3 at *;have HG:w.heap.size<=w.heap.size:=Nat.le_refl _;generalize hg:w.heap.size=g at HG hb1 dn ⊢;have wH:=Lib.hid hg;have bu:=Lib.hid hb1;have H0:=Lib.hid (show OfW g N8 s w3 0 (List.replicate N8 0) w3 from ⟨dn,gM.start _ _,bN.refl _ _⟩);clear EK hx q1 q2 hne h2 h3 hmk dn hb1 hg hw3;go_loopw [5,26] (fun _ t w1=>∃ (k:Nat) (L:List Int),k<=s.size/\t = .int .i64 k/\OfW g N8 s w3 k L w1) (fun _ t _=>s.size-(intOf t).toNat)
  case atStart=>exact⟨0,_,Nat.zero_le _,rfl,H0.out⟩
  case round =>
   obtain⟨k,L,hk,rfl,hI⟩:=hrel;by_cases hlt:k<s.size
   ·have h1:decide ((k:Int)<(s.size:Int))=true:=by simp;omega
    have ho:=hI.only;have Ak:k / 8<N8:=by have:=Aj.out;omega
    obtain⟨⟨s1,s2,s3⟩,s4⟩:=hI.inv.step (q7 s) Ak;have hblk:=hI.blk;have hce:=hblk.cell (k / 8) (by rw[hI.inv.len];exact Ak);have hfr:=hblk.free (k / 8);obtain⟨j,hj⟩:∃ j,j=s.size-1-k:=⟨_,rfl⟩
    have hx:∀ h:j<s.size,((s[j]'h).toNat:Int)=fF s k:=fun h=>by
     unfold fF;rw[dif_pos hlt];subst hj;rfl
    obtain⟨q8,rZ⟩:∃ q8,k / 8=q8:=⟨_,rfl⟩
    obtain⟨e8,tW⟩:∃ e8,8*(k%8)=e8:=⟨_,rfl⟩
    obtain⟨X,hX⟩:∃ X,fF s k*256^(k%8)=X:=⟨_,rfl⟩
    rw[rZ]at Ak s3 s4 hce hfr
    rw[hX]at s1 s2 s3 s4
    have a4:IntKind.u64.wrap (fF s k*2^e8)=X:=by
     rw[<- tW,<- Y2,hX];exact bR _ ⟨s1,s2⟩
    have a5:bits .or .u64 (lg L q8) X=lg L q8+X:=by
     have hm:X%2^e8=0:=by rw[<- hX,<- tW,<- Y2];exact Int.mul_emod_left _ _
     have hlo:lg L q8<2^e8:=by rw[<- rZ,<- tW,<- Y2];exact hI.inv.low
     rw[or_comm,Mm _ _ e8 ⟨s1,s2⟩ (hI.inv.lim _).1 hlo (hI.inv.lim _).2 hm,Int.add_comm]
    have a7:bits .or .u64 (lg L q8) (IntKind.u64.wrap (fF s k*2^min e8 64))=lg L q8+X:=by
     rw[Nat.min_eq_left aC,a4,a5]
    have A7:=Lib.hid a7;clear a4 a5 a7;have a6:IntKind.u64.wrap (fF s k)=fF s k:=bR _ ⟨(q7 s k).1,by have:=(q7 s k).2;rw[B_eq];omega⟩;have b0:=(q7 s k).1;have HI:=Lib.hid (And.intro hblk ho);have HS:=Lib.hid s4;have HJ:=Lib.hid (And.intro hj hk);have c1:=eq_true (show(q8:Int)<(N8:Int) by omega);have c2:=eq_true (show(0:Int)<=(q8:Int) by omega);have c3:=eq_true (show(j:Int)<(s.size:Int) by omega);have c4:=eq_true (show(0:Int)<=(j:Int) by omega);have c5:=eq_true (show j<s.size by omega);have c6:=eq_true (show(0:Int)<=(e8:Int) by omega);have a0:IntKind.i64.wrap ((k:Int) / 8)=(q8:Int):=by rw[show(k:Int) / 8=(q8:Int) by omega];exact IntWalk.i64_in _ aC
    have a1:=IntWalk.i64_in ((s.size:Int)-1) aC;have a2:IntKind.i64.wrap ((s.size:Int)-1-(k:Int))=(j:Int):=by rw[show(s.size:Int)-1-(k:Int)=(j:Int) by omega];exact IntWalk.i64_in _ aC
    have a3:IntKind.i64.wrap (8*((k:Int)%8))=(e8:Int):=by rw[show 8*((k:Int)%8)=(e8:Int) by omega];exact IntWalk.i64_in _ aC
    have hmd:(k:Int).tmod 8=(k:Int)%8:=Int.tmod_eq_emod_of_nonneg aC;clear hj hk hI s1 s2 s3 s4 hblk ho Ak rZ tW hX;go_wp2
    go_still_tail 19,(by kernel_rfl)
    change wpList _ _ _ _ _ wr.drew;clear c1 c2 c3 c4 c5 c6 a0 a1 a2 a3 a6 b0 hmd;go_wp2
    rw[A7.out];obtain⟨i1,i2⟩:=HI.out;exact⟨⟨k+1,_,by omega,by go_num,⟨i1.set _ _,HS.out,(i2.set _ _).dr⟩⟩,by simp[intOf];omega⟩
   ·have he:k=s.size:=by omega
    have h1:decide ((k:Int)<(s.size:Int))=false:=by simp;omega
    subst he;have hl:=hI.inv.val;have htr:=gM.top (n:=s.size) (by rw[Aj.out];exact hI.inv) (q7 s) HT.out;have hrl:=hI.blk;have hlen:=hI.inv.len;have hlim:=hI.inv.lim;have hbl:Below w.heap.size w wr:=by rw[wH.out];exact bN.below bu.out hI.only (Nat.le_refl _)
    clear hI;have HH:=Lib.hid (And.intro hl (And.intro htr (And.intro hrl (And.intro hlen (And.intro hlim hbl)))));clear hl htr hrl hlen hlim hbl;go_wp2
    go_ret2
    obtain⟨hl,htr,hrl,hlen,hlim,hbl⟩:=HH.out;exact⟨g,N8,L,rfl,by rw[wH.out];exact HG,hlen,by have:=Aj.out;omega,hrl,hlim,htr,hl,hbl⟩
theorem amM (s:ByteArray) (h:s.size<=32000) (hb:0<s.size->fF s (s.size-1)≠0) (w:World) :
  Calls Tryz.prog 140 #[.string s] w (Ka (nv s) w) :=
 (SN s h hb w).mono fun _ _ ⟨g,n,r,he,hg,hl,hn,hk,h1,h2,h3,h4⟩=>⟨_,r,he,ahr hl (Nat.le_refl _) (hk.RL aC),h1,h2,h3,h4⟩
def wm (w:World) (g:Nat) (l:List Int):Prop:=∃ cur:Array Value,w.heap[g]?=some (.cells cur 5 (0,0))/\l.length<=cur.size/\∀ j,j<l.length->cur[j]?=some (.int .u8 (lg l j))
theorem wm.cell {w:World} {g:Nat} {l:List Int} (h:wm w g l) (j:Nat) (hj:j<l.length):w.cell? ⟨g,j,none⟩=some (.int .u8 (lg l j)):=by
 obtain⟨cur,h,_,hc⟩:=h;unfold World.cell?;rw[show w.heap[(⟨g,j,none⟩:Addr).block]?=_ from h];simpa using hc j hj
theorem wm.free {w:World} {g:Nat} {l:List Int} (h:wm w g l) (j:Nat):w.frozen? ⟨g,j,none⟩=false:=by
 obtain⟨cur,h,_,hc⟩:=h;unfold World.frozen?;rw[show w.heap[(⟨g,j,none⟩:Addr).block]?=_ from h];simp
theorem wm.set {w:World} {g:Nat} {l:List Int} (h:wm w g l) (j:Nat) (x:Int):wm (w.setCell ⟨g,j,none⟩ (.int .u8 x)) g (l.set j x):=by
 obtain⟨cur,h,hl,hc⟩:=h;refine⟨cur.setIfInBounds j (.int .u8 x),by simp[World.setCell,Array.getElem?_modify,h],by simpa using hl,fun k hk=>?_⟩;rw[List.length_set]at hk
 rw[cK,Array.getElem?_setIfInBounds];by_cases e:j=k
 ·subst e
  rw[if_pos rfl,if_pos aC,if_pos ⟨rfl,hk⟩]
 ·rw[if_neg e,if_neg aC]
  exact hc k hk
theorem aie:(Tryz.prog.info? 5).map (fun i=>(i.zero,i.size,i.bytes))=some (some (.int .u8 0),1,1):=by kernel_rfl
theorem XP (n:Nat) (hn:n<=100000) (w:World):(Instr.makeSlice 185 (.int .i64 (n:Int)) (.int .i64 (n:Int))).run Tryz.prog w = .ok (.slice (some ⟨w.heap.size,0,none⟩) n n) (w.alloc (.cells (madeCells #[.int .u8 0] n) 5)) :=
 run_make_row' 185 5 (.int .u8 0) 1 Tryz.underlying185 aie (by kernel_rfl) .i64 .i64 n aC aC w
theorem XQ (w:World) (n:Nat):wm (w.alloc (.cells (madeCells #[.int .u8 0] n) 5)) w.heap.size (List.replicate n 0):=by
 refine⟨madeCells #[.int .u8 0] n,?_,by rw[size_madeCells];simp,fun j hj=>?_⟩
 ·rw[show(w.alloc (.cells (madeCells #[.int .u8 0] n) 5)).heap=w.heap.push (.cells (madeCells #[.int .u8 0] n) 5) from rfl,Array.getElem?_push_size]
 ·rw[l7]
  rw[List.length_replicate]at hj
  have:(madeCells #[.int .u8 0] n).toList[j]?=some (.int .u8 0):=by rw[toList_madeCells_one];simp[hj]
  simpa using this
theorem wm.text {w:World} {g n c:Nat} {l:List Int} (h:wm w g l) (hl:l.length=n) (hb:∀ j,0<=lg l j/\lg l j<256) :
  (convert 185 36 (.slice (some ⟨g,0,none⟩) n c)).run Tryz.prog w = .ok (.string ⟨(l.map fun x=>UInt8.ofNat x.toNat).toArray⟩) w:=by
 have:=run_convert_bytes_back (P:=Tryz.prog) w 185 36 5 ⟨g,0,none⟩ c (l.map fun x=>UInt8.ofNat x.toNat) Tryz.underlying185 Tryz.underlying5 Tryz.underlying36 (fun j hj=>by
  rw[List.length_map]at hj
  have hc:=h.cell j hj;rw[show(⟨g,0,none⟩:Addr).add j=⟨g,j,none⟩ by unfold Addr.add;split <;> simp_all,hc];have hx:lg l j=l[j]:=by unfold lg;rw[List.getD_eq_getElem?_getD,List.getElem?_eq_getElem hj];rfl
  have:=hb j;rw[List.getElem_map,Qh (by rw[hx]at this;omega),<- hx];congr 2
  omega)
 rw[List.length_map,hl]at this
 exact this
structure qD (g N:Nat) (v:Int) (w:World) (k:Nat) (b:List Int) (w1:World):Prop where
 blk:wm w1 g b
 len:b.length=N
 bd:∀ j,0<=lg b j/\lg b j<256
 val:∀ i,i<k->lg b (N-1-i)=jM v i
 only:bN g w w1
theorem qD.text {g N:Nat} {v:Int} {w:World} {b:List Int} {w1:World} (h:qD g N v w N b w1) (hN:nb v=N):(⟨(b.map fun x=>UInt8.ofNat x.toNat).toArray⟩:ByteArray)=dW v:=by
 unfold dW;rw[hN];congr 2
 apply List.ext_getElem
 ·simp[h.len]
 ·intro i h1 h2
  rw[List.length_map,h.len]at h1
  have hv:=h.val (N-1-i) aC;rw[show N-1-(N-1-i)=i by omega]at hv
  have hx:lg b i=b[i]'(by rw[h.len];exact h1):=by unfold lg;rw[List.getD_eq_getElem?_getD,List.getElem?_eq_getElem (by rw[h.len];exact h1)];rfl
  rw[hx]at hv
  simp[hv]
theorem amO (A0:Option Addr) (n c0:Nat) (l:List Int) (hn:l.length=n) (fW:n<=4000) (hc0:n<=c0) (w:World) (ha:RL w A0 l) (hla:aG l) :
  Calls Tryz.prog 129 #[.slice A0 n c0] w fun e w'=>e = .returned (.tuple #[.string (dW (lv l)),.int .i64 0])/\Below w.heap.size w w':=by
 have hb0:Below w.heap.size w (w.alloc (.cells #[.slice A0 n c0] 141)):=(Below.refl _ _).alloc (Nat.le_refl _) _;have jy:=Lib.hid (ha.below hb0 (Nat.le_refl _));have HN:=Lib.hid hn;have hpl:=fO l;have kM:=eo l;have htr:=kA l;rw[hn]at hpl kM htr
 have Hy:=qb l n;have oD:=hla.take (bl l n);have EM:=jy.out.take (bl l n);have aAP:=hb0;rw[<- kM];generalize hx:l.take (bl l n)=x at *;generalize hp:bl l n=p at *;have Pf:=Lib.hid hp;have HS:=Lib.hid hb0;clear ha hn hla hb0 hx hp kM;cases p with
 | zero =>
  have hx0:lv x=0:=by unfold lv;rw[hpl];rfl
  have HX0:=Lib.hid hx0;clear hx0 hpl htr oD EM;go_enter Tryz.func129,Tryz.ntmps129;go_wp2_with fail
  refine(aaE _ _ _ _ fW).mono ?_;rintro e w' ⟨rfl,rfl⟩;go_wp2_with fail
  refine(ku _ _ _ l HN.out hc0 _ jy.out).mono ?_;rintro e w5 ⟨rfl,⟨nd,rfl⟩⟩;rw[Pf.out];go_wp2
  go_ret2
  rw[HX0.out,XO];exact⟨rfl,gI HS.out _⟩
 | succ p =>
  have lI:0<lg x p/\lg x p<B:=by
   have:=oD p;rcases htr with h|h
   ·omega
   ·rw[hpl]at h
    exact⟨by have:lg x p≠0:=h;omega,this.2⟩
  obtain⟨s,hs,Ei,hs1,hs2⟩:=RX (lg x p) lI.1 lI.2;have hnb:=amN oD hpl Ei hs1 hs2;obtain⟨N,hN⟩:∃ N,8*(p+1)-s / 8=N:=⟨_,rfl⟩
  rw[hN]at hnb
  obtain⟨ad,rfl,hc⟩:=EM.2 aC;have hct:=hc p aC;have KQ:=Lib.hid (UD (lg x p) ⟨by omega,lI.2⟩);have hmk:=XP N aC;have Cs:=Lib.hid EM;have dP:=Lib.hid hs;have VX:=Lib.hid hnb;have tX:=Lib.hid (And.intro oD hpl);have hz1:((p:Int)+1==0)=false:=beq_eq_false_iff_ne.mpr aC;have a1:((p:Int)+1)*8-(s:Int) / 8=(N:Int):=by omega
  have Aj:=Lib.hid hN;clear hs hs1 hs2 hnb EM oD hpl htr lI hc hN;go_enter Tryz.func129,Tryz.ntmps129;go_wp2_with fail
  refine(aaE _ _ _ _ fW).mono ?_;rintro e w' ⟨rfl,rfl⟩;go_wp2_with fail
  refine(ku _ _ _ l HN.out hc0 _ jy.out).mono ?_;rintro e w5 ⟨rfl,⟨nd,rfl⟩⟩;rw[Pf.out];go_wp2_with fail
  refine(KQ.out _).mono ?_;rintro e w5 ⟨rfl,rfl⟩;rw[dP.out];go_wp2
  have hb1:Below (w.heap.size+1) ((w.alloc (.cells #[.slice (some ad) n c0] 141)).drewN nd) (((w.alloc (.cells #[.slice (some ad) n c0] 141)).drewN nd).alloc (.cells (madeCells #[.int .u8 0] N) 5)):=(Below.refl _ _).alloc (by simp) _;have dn:=XQ ((w.alloc (.cells #[.slice (some ad) n c0] 141)).drewN nd) N;rw[show((w.alloc (.cells #[.slice (some ad) n c0] 141)).drewN nd).heap.size=w.heap.size+1 by simp]at dn
  have hx1:=(Cs.out.dI nd).below hb1 (by simp);have Ia:ad.block≠w.heap.size+1:=Nat.ne_of_lt (by have:=Cs.out.lt (by rw[tX.out.2];omega) ad rfl;simpa using this);have lR:=(gI HS.out nd).trans (hb1.mono aC);have HG:w.heap.size<=w.heap.size+1:=by omega
  generalize hw3:((w.alloc (.cells #[.slice (some ad) n c0] 141)).drewN nd).alloc (.cells (madeCells #[.int .u8 0] N) 5)=w3 at *;generalize w.heap.size+1=g at *;have H0:=Lib.hid (show qD g N (lv x) w3 0 (List.replicate N 0) w3 from ⟨dn,by simp,fun j=>by rw[l7];exact⟨Int.le_refl _,by decide⟩,fun i h=>by omega,bN.refl _ _⟩);have HX:=Lib.hid hx1;have VY:=Lib.hid Ia;have ni:=Lib.hid lR;clear dn hx1 Ia hb1 lR hw3 hmk hct a1 hz1;go_loopw [6,30] (fun _ t w1=>∃ (k:Nat) (b:List Int),k<=N/\t = .int .i64 k/\qD g N (lv x) w3 k b w1) (fun _ t _=>N-(intOf t).toNat)
  case atStart=>exact⟨0,_,Nat.zero_le _,rfl,H0.out⟩
  case round =>
   obtain⟨k,b,hk,rfl,hI⟩:=hrel;by_cases hlt:k<N
   ·have h1:decide ((k:Int)<(N:Int))=true:=by simp;omega
    obtain⟨q8,rZ⟩:∃ q8,k / 8=q8:=⟨_,rfl⟩
    obtain⟨e8,tW⟩:∃ e8,8*(k%8)=e8:=⟨_,rfl⟩
    obtain⟨j,hj⟩:∃ j,j=N-1-k:=⟨_,rfl⟩
    have hq:q8<p+1:=by have:=Aj.out;omega
    obtain⟨Ac,had,bW⟩:=(HX.out.only hI.only (fun _ Ac e=>by cases e;exact VY.out)).2 (by rw[tX.out.2];omega);cases had;have hc2:=bW q8 (by rw[tX.out.2];exact hq);have hce:=hI.blk.cell j (by rw[hI.len];omega);have hfr:=hI.blk.free j;have hd:lg x q8 / 2^e8%256=jM (lv x) k:=by rw[mY tX.out.1,rZ,Y2,tW]
    have HD:=Lib.hid hd;have HI:=Lib.hid hI;have HJ:=Lib.hid (And.intro hj hk);have a0:(k:Int) / 8=(q8:Int):=by omega
    have a2:(N:Int)-1-(k:Int)=(j:Int):=by omega
    have a3:8*((k:Int)%8)=(e8:Int):=by omega
    have hjN:j<N:=by omega
    have hN9:N<=40000:=by have:=Aj.out;omega
    have hq9:q8<p+1:=by omega
    have aql:e8<=64:=by omega
    clear hI bW hd hj hk rZ tW hq;go_wp2
    rw[HD.out];obtain⟨hj,hk⟩:=HJ.out;refine⟨⟨k+1,_,by omega,by go_num,⟨HI.out.blk.set _ _,by rw[List.length_set];exact HI.out.len,?_,?_,HI.out.only.set _ _⟩⟩,by simp[intOf];omega⟩
    ·intro t
     rw[cK];split
     ·exact Nk _ _
     ·exact HI.out.bd t
    ·intro t ht
     rw[cK];by_cases e:t=k
     ·subst e
      rw[if_pos ⟨hj,by rw[HI.out.len];omega⟩]
     ·rw[if_neg aC]
      exact HI.out.val t aC
   ·have he:k=N:=by omega
    subst he;have h1:decide ((k:Int)<(k:Int))=false:=by simp
    have hcv:=hI.blk.text (c:=k) hI.len hI.bd;rw[hI.text VX.out]at hcv
    have hbl:Below w.heap.size w wr:=bN.below ni.out hI.only HG;have qI:=Lib.hid hbl;clear hI hbl;go_wp2
    go_ret2
    exact⟨rfl,qI.out⟩
def gF (n:Bool) (s:ByteArray):Int:=if 32000<s.size then 5 else if 0<s.size/\fF s (s.size-1)=0 then 1 else if n=true/\s.size=0 then 1 else 0
def fC (n:Bool) (s:ByteArray):Prop:=s.size<=32000/\Canon s/\(n=true->0<s.size)
theorem q9 {n:Bool} {s:ByteArray}:gF n s=0↔fC n s:=by
 unfold gF fC Canon;constructor
 ·intro h
  split at h
  ·omega
  ·split at h
   ·omega
   ·split at h
    ·omega
    ·rename_i h1 h2 h3
     refine⟨by omega,fun h0 hz=>h2 ⟨h0,hz⟩,fun hn=>?_⟩;rcases Nat.eq_zero_or_pos s.size with h0|h0
     ·exact absurd ⟨hn,h0⟩ h3
     ·exact h0
 ·rintro⟨h1,h2,h3⟩
  rw[if_neg aC,if_neg (fun h=>h2 h.1 h.2),if_neg (fun h=>by have:=h3 h.1;omega)]
theorem Mw (n:Bool) (s:ByteArray) (w:World) :
  Calls Tryz.prog 139 #[.agg #[.bool n,.string s]] w fun e w'=>e = .returned (.int .i64 (gF n s))/\Below w.heap.size w w':=by
 have hu:=Tryz.underlying38;have hb0:Below w.heap.size w (w.alloc (.cells #[.bool n,.string s] 38)):=(Below.refl _ _).alloc (Nat.le_refl _) _;have HS:=Lib.hid hb0;clear hb0;unfold gF;by_cases h1:32000<s.size
 ·rw[if_pos h1]
  have HO:=Lib.hid (ahq s h1);clear h1;go_enter Tryz.func139,Tryz.ntmps139;go_wp2_with fail
  refine(HO.out _).mono ?_;rintro e w' ⟨rfl,rfl⟩;go_wp2
  go_ret
  exact⟨rfl,HS.out⟩
 ·rw[if_neg h1]
  by_cases h2:0<s.size/\fF s (s.size-1)=0
  ·rw[if_pos h2]
   have HO:=Lib.hid (alW s h2.1 aC h2.2);clear h1 h2;go_enter Tryz.func139,Tryz.ntmps139;go_wp2_with fail
   refine(HO.out _).mono ?_;rintro e w' ⟨rfl,rfl⟩;go_wp2
   go_ret
   exact⟨rfl,HS.out⟩
  ·rw[if_neg h2]
   have HO:=Lib.hid (amM s aC (fun h0 hz=>h2 ⟨h0,hz⟩));clear h1 h2;cases n with
   | false =>
    rw[if_neg (by simp)];go_enter Tryz.func139,Tryz.ntmps139;go_wp2_with fail
    refine(HO.out _).mono ?_;rintro e w' ⟨x,r,rfl,hr1,hr2,hr3,hr4,fB⟩;have hce:=fB.cell (p:=⟨w.heap.size,0,none⟩) (by simp);have acF:=fB.cell (p:=⟨w.heap.size,1,none⟩) (by simp);have hbl:=HS.out.trans (fB.mono (by simp));have qI:=Lib.hid hbl;clear hr1 hr2 hr3 hr4 fB hbl;go_wp2
    go_ret
    exact⟨rfl,qI.out⟩
   | true =>
    by_cases h0:s.size=0
    ·obtain⟨t1,t2⟩:=toList_nil h0
     rw[if_pos ⟨rfl,h0⟩];clear h0;go_enter Tryz.func139,Tryz.ntmps139;go_wp2_with fail
     refine(HO.out _).mono ?_;rintro e w' ⟨x,r,rfl,hr1,hr2,hr3,hr4,fB⟩;have hce:=fB.cell (p:=⟨w.heap.size,0,none⟩) (by simp);have acF:=fB.cell (p:=⟨w.heap.size,1,none⟩) (by simp);have hbl:=HS.out.trans (fB.mono (by simp));have qI:=Lib.hid hbl;clear hr1 hr2 hr3 hr4 fB hbl;go_wp2
     go_ret
     exact⟨rfl,qI.out⟩
    ·obtain⟨t1,t2⟩:=yt (by omega:0<s.size)
     rw[if_neg (fun h=>h0 h.2)];clear h0;go_enter Tryz.func139,Tryz.ntmps139;go_wp2_with fail
     refine(HO.out _).mono ?_;rintro e w' ⟨x,r,rfl,hr1,hr2,hr3,hr4,fB⟩;have hce:=fB.cell (p:=⟨w.heap.size,0,none⟩) (by simp);have acF:=fB.cell (p:=⟨w.heap.size,1,none⟩) (by simp);have hbl:=HS.out.trans (fB.mono (by simp));have qI:=Lib.hid hbl;clear hr1 hr2 hr3 hr4 fB hbl;go_wp2
     go_ret
     exact⟨rfl,qI.out⟩
end Go.Proofs.YtcmepkhjggpmeaaGreat
