import Derived.Test.YtfcjnhkkfmgmpaaGreatZsG6
import Derived.Lib.ConvBytes
import Derived.Lib.Strings
set_option linter.all false
set_option maxRecDepth 100000
set_option maxHeartbeats 8000000
namespace Go.Proofs.YtfcjnhkkfmgmpaaGreat
open Go.RowKit aR
def IR (w:World) (A:Option Addr) (m:Nat) (zs:List Int):Prop:=0<m→∃ ad,A=some ad∧∀ j,j<m→w.cell? (ad.add j)=some (.int .i64 (zs.getD j 0))
theorem IR.below {w w':World} {A:Option Addr} {m:Nat} {zs:List Int} {b:Nat} (h:IR w A m zs) (hb:Below b w w') (hz:b=w.heap.size):IR w' A m zs:=by
 intro h0;obtain⟨ad,e,hc⟩:=h h0;refine⟨ad,e,fun j hj=>?_⟩;exact(hb.cell (by rw[hz];exact World.block_lt_of_cell? _ _ (hc j hj))).trans (hc j hj)
def nx (k:Nat):Nat:=if k=2 then 0 else k+1
theorem vv (ad:Addr) (m j:Nat) (hj:0<j):ad.add (m+j)=⟨(ad.add m).block,(ad.add m).off+j,none⟩:=by
 unfold Addr.add;by_cases h:m=0
 ·subst h
  rw[if_pos rfl,if_neg (by omega),Nat.zero_add]
 ·rw[if_neg h,if_neg (by omega)]
  simp only[Nat.add_assoc]
def mv (A0:Option Addr) (n0 c0:Nat) (A1:Option Addr) (n1 c1:Nat) (A2:Option Addr) (n2 c2:Nat):Array Value:=#[.slice A0 n0 c0,.slice A1 n1 c1,.slice A2 n2 c2]
theorem ZW (A0 A1 A2:Option Addr) (n0 c0 n1 c1 n2 c2:Nat) (zs:List Int) (w:World) (hr:IR w A1 (3*n1) zs) (t k:Nat) (ht:t<n1) (hk:k≤2) (hn:n1≤100000) :
  Calls Tryz.prog 20 #[.agg #[.slice A0 n0 c0,.slice A1 n1 c1,.slice A2 n2 c2],.int .i64 t,.int .i64 k] w fun e w'=>e = .returned (.tuple #[.int .i64 (zs.getD (3*t+k) 0),.int .i64 (zs.getD (3*t+nx k) 0)])∧Below w.heap.size w w':=by
 have hb0:Below w.heap.size w (w.alloc (.cells #[.slice A0 n0 c0,.slice A1 n1 c1,.slice A2 n2 c2] 26)):=(Below.refl _ _).alloc (Nat.le_refl _) _;have hr2:=hr.below hb0 rfl;obtain⟨ad,rfl,hc⟩:=hr2 (by omega);have y0:=hc (t*3) (by omega);have y1:=hc (t*3+1) (by omega);have y2:=hc (t*3+2) (by omega);rw[vv _ _ _ (by decide)]at y1 y2
 rw[show zs.getD (t*3) 0=zs.getD (3*t) 0 by rw[Nat.mul_comm]]at y0
 rw[show zs.getD (t*3+1) 0=zs.getD (3*t+1) 0 by rw[Nat.mul_comm]]at y1
 rw[show zs.getD (t*3+2) 0=zs.getD (3*t+2) 0 by rw[Nat.mul_comm]]at y2
 have h1:((t:Int)<(n1:Int))=True:=eq_true (by omega);have h2:(t<n1)=True:=eq_true ht;have h3:((0:Int)≤(t:Int))=True:=eq_true (by omega);clear hr hr2 hc;have HB:=Lib.hid hb0;clear hb0;have hk3:k=0∨k=1∨k=2:=by omega
 rcases hk3 with rfl|rfl|rfl
 all_goals
  go_enter Tryz.func20,Tryz.ntmps20;go_wp2
  go_quiet (fail)
  go_wp2
  go_ret2
  exact⟨rfl,by first|exact HB.out|exact gR HB.out _⟩
def hit (zs:List Int) (a b:Int) (j:Nat):Prop:=zs.getD j 0=a∧zs.getD (3*(j / 3)+nx (j%3)) 0=b
instance (zs:List Int) (a b:Int) (j:Nat):Decidable (hit zs a b j):=by unfold hit;infer_instance
def b_ (zs:List Int) (a b:Int):Nat→Option Nat
 | 0=>none
 | m+1=>match b_ zs a b m with
  | some j=>some j
  | none=>if hit zs a b m then some m else none
theorem Md {zs:List Int} {a b:Int}:∀ {m:Nat},b_ zs a b m=none↔∀ j,j<m→¬ hit zs a b j:=by
 intro m;induction m with
 | zero=>exact⟨fun _ j hj=>absurd hj (Nat.not_lt_zero _),fun _=>rfl⟩
 | succ m ih =>
  unfold b_;constructor
  ·intro h j hj
   cases hf:b_ zs a b m with
   | some x=>rw[hf]at h;cases h
   | none =>
    rw[hf]at h
    by_cases hh:hit zs a b m
    ·simp only[if_pos hh]at h;cases h
    ·rcases Nat.lt_succ_iff_lt_or_eq.1 hj with h1|h1
     ·exact ih.1 hf j h1
     ·subst h1;exact hh
  ·intro h
   rw[ih.2 (fun j hj=>h j (by omega))];exact if_neg (h m (by omega))
theorem akx {zs:List Int} {a b:Int} {j:Nat} (h:hit zs a b j) (h0:∀ i,i<j→¬ hit zs a b i):∀ m,j<m→b_ zs a b m=some j:=by
 intro m;induction m with
 | zero=>intro hj;exact absurd hj (Nat.not_lt_zero _)
 | succ m ih =>
  intro hj;unfold b_;rcases Nat.lt_succ_iff_lt_or_eq.1 hj with h1|h1
  ·rw[ih h1]
  ·subst h1
   rw[Md.2 h0];exact if_pos h
theorem Iu {zs:List Int} {a b:Int}:∀ {m j:Nat},b_ zs a b m=some j→j<m∧hit zs a b j∧∀ i,i<j→¬ hit zs a b i:=by
 intro m;induction m with
 | zero=>intro j h;cases h
 | succ m ih =>
  intro j h;unfold b_ at h;cases hf:b_ zs a b m with
  | some x =>
   rw[hf]at h
   have e:x=j:=Option.some.inj h;subst e;obtain⟨h1,h2,h3⟩:=ih hf;exact⟨by omega,h2,h3⟩
  | none =>
   rw[hf]at h
   by_cases hh:hit zs a b m
   ·simp only[if_pos hh]at h
    have e:m=j:=Option.some.inj h;subst e;exact⟨Nat.lt_succ_self _,hh,Md.1 hf⟩
   ·simp only[if_neg hh]at h
    cases h
def fT (o:Option Nat):Int:=match o with|none => -1|some j=>((j / 3:Nat):Int)
def fK (o:Option Nat):Int:=match o with|none=>0|some j=>((j%3:Nat):Int)
structure xV (g:Nat) (w:World) (A0 A1 A2:Option Addr) (n0 c0 n1 c1 n2 c2:Nat) (zs:List Int) (a b:Int) (m:Nat) (wr:World):Prop where
 below:Below g w wr
 b0:wr.cell? ⟨g,0,none⟩=some (.slice A0 n0 c0)
 b1:wr.cell? ⟨g,1,none⟩=some (.slice A1 n1 c1)
 b2:wr.cell? ⟨g,2,none⟩=some (.slice A2 n2 c2)
 no:∀ j,j<m→¬ hit zs a b j
theorem xV.step {g:Nat} {w:World} {A0 A1 A2:Option Addr} {n0 c0 n1 c1 n2 c2:Nat} {zs:List Int} {a b:Int} {m:Nat} {wr w2:World} (h:xV g w A0 A1 A2 n0 c0 n1 c1 n2 c2 zs a b m wr) (hb:Below wr.heap.size wr w2):xV g w A0 A1 A2 n0 c0 n1 c1 n2 c2 zs a b m w2:=by
 have hl:=World.block_lt_of_cell? _ _ h.b0;exact⟨h.below.trans (hb.mono (by have:g<wr.heap.size:=hl;omega)),(hb.cell (p:=⟨g,0,none⟩) hl).trans h.b0,(hb.cell (p:=⟨g,1,none⟩) hl).trans h.b1,(hb.cell (p:=⟨g,2,none⟩) hl).trans h.b2,h.no⟩
theorem xV.more {g:Nat} {w:World} {A0 A1 A2:Option Addr} {n0 c0 n1 c1 n2 c2:Nat} {zs:List Int} {a b:Int} {m:Nat} {wr:World} (h:xV g w A0 A1 A2 n0 c0 n1 c1 n2 c2 zs a b m wr) (hn:¬ hit zs a b m):xV g w A0 A1 A2 n0 c0 n1 c1 n2 c2 zs a b (m+1) wr :=
 ⟨h.below,h.b0,h.b1,h.b2,fun j hj=>by
  rcases Nat.lt_succ_iff_lt_or_eq.1 hj with h1|h1
  ·exact h.no j h1
  ·subst h1;exact hn⟩
theorem lS {k:Nat} (h:k≤1000000):wrap64 ((k:Int)+1)=((k+1:Nat):Int):=by unfold wrap64;omega
theorem ZX (A0 A1 A2:Option Addr) (n0 c0 n1 c1 n2 c2:Nat) (zs:List Int) (w:World) (hr:IR w A1 (3*n1) zs) (a b:Int) (hn:n1≤100000) :
  Calls Tryz.prog 21 #[.agg #[.slice A0 n0 c0,.slice A1 n1 c1,.slice A2 n2 c2],.int .i64 a,.int .i64 b] w fun e w'=>e = .returned (.tuple #[.int .i64 (fT (b_ zs a b (3*n1))),.int .i64 (fK (b_ zs a b (3*n1)))])∧Below w.heap.size w w':=by
 have OV:xV w.heap.size w A0 A1 A2 n0 c0 n1 c1 n2 c2 zs a b (3*0) (w.alloc (.cells #[.slice A0 n0 c0,.slice A1 n1 c1,.slice A2 n2 c2] 26)) :=
  ⟨(Below.refl _ _).alloc (Nat.le_refl _) _,by simp[go_sem],by simp[go_sem],by simp[go_sem],fun j hj=>absurd hj (Nat.not_lt_zero _)⟩
 have jK:=Lib.hid OV;have HR:=Lib.hid hr;have HN:=Lib.hid hn;obtain⟨g,hg⟩:∃ g,w.heap.size=g:=⟨_,rfl⟩
 have HG:=Lib.hid hg;clear OV hr hn;go_enter Tryz.func21,Tryz.ntmps21;go_wp2
 rw[hg]at jK
 clear hg;go_loopw [8] (fun v wr=>∃ (t:Nat),t≤n1∧v = .int .i64 (t:Int)∧Hid (xV g w A0 A1 A2 n0 c0 n1 c1 n2 c2 zs a b (3*t) wr)) (fun v _=>n1-(intOf v).toNat)
 case atStart=>exact⟨0,Nat.zero_le _,rfl,jK⟩
 case round =>
  obtain⟨t,ht,rfl,hI⟩:=hrel;have q0:=hI.out.b0;have q1:=hI.out.b1;have q2:=hI.out.b2;by_cases htn:t<n1
  ·have h1:decide ((t:Int)<(n1:Int))=true:=decide_eq_true (by omega)
   go_wp2
   go_loopw [9] (fun v wx=>∃ (k:Nat),k≤3∧v = .int .i64 (k:Int)∧Hid (xV g w A0 A1 A2 n0 c0 n1 c1 n2 c2 zs a b (3*t+k) wx)) (fun v _=>3-(intOf v).toNat)
   case atStart=>exact⟨0,by omega,rfl,hI⟩
   case round =>
    obtain⟨k,hk,rfl,hJ⟩:=hrel;have p0:=hJ.out.b0;have p1:=hJ.out.b1;have p2:=hJ.out.b2;by_cases hk3:k<3
    ·have h2:decide ((k:Int)<3)=true:=decide_eq_true (by omega)
     have HE:=Lib.hid (ZW A0 A1 A2 n0 c0 n1 c1 n2 c2 zs _ (HR.out.below hJ.out.below HG.out.symm) t k htn (by omega) HN.out);have OW:=Lib.hid (show hit zs a b (3*t+k)↔(zs.getD (3*t+k) 0=a∧zs.getD (3*t+nx k) 0=b) by unfold hit;rw[show(3*t+k) / 3=t by omega,show(3*t+k)%3=k by omega]);have HK:=Lib.hid hk3;have HT:=Lib.hid htn;clear hk3 htn ht hk;obtain⟨x,hx⟩:∃ x,zs.getD (3*t+k) 0=x:=⟨_,rfl⟩
     obtain⟨y,hy⟩:∃ y,zs.getD (3*t+nx k) 0=y:=⟨_,rfl⟩
     rw[hx,hy]at HE OW
     clear hx hy;by_cases e1:x=a
     ·have f1:(x==a)=true:=beq_iff_eq.mpr e1
      by_cases e2:y=b
      ·have f2:(y==b)=true:=beq_iff_eq.mpr e2
       have HF:=Lib.hid (akx (OW.out.2 ⟨e1,e2⟩) hJ.out.no (3*n1) (by have:=HT.out;have:=HK.out;omega));clear e1 e2;go_wp2_with fail
       refine HE.out.mono ?_;rintro e w9 ⟨rfl,hb⟩;have HB:=Lib.hid (hJ.out.step hb).below;clear hb;go_wp2
       go_ret2
       have hk:=HK.out;have eT:fT (b_ zs a b (3*n1))=(t:Int):=by rw[HF.out];show(((3*t+k) / 3:Nat):Int)=_;omega
       have eK:fK (b_ zs a b (3*n1))=(k:Int):=by rw[HF.out];show(((3*t+k)%3:Nat):Int)=_;omega
       refine⟨?_,by rw[HG.out];exact HB.out⟩;rw[eT,eK];rfl
      ·have f2:(y==b)=false:=beq_eq_false_iff_ne.mpr e2
       have HF:=Lib.hid (fun h=>e2 (OW.out.1 h).2:¬ hit zs a b (3*t+k));clear e1 e2;go_wp2_with fail
       refine HE.out.mono ?_;rintro e w9 ⟨rfl,hb⟩;have HB:=Lib.hid (hJ.out.step hb);clear hb;go_wp2
       rw[lS (by have:=HK.out;omega)];exact⟨⟨k+1,by have:=HK.out;omega,rfl,Lib.hid (HB.out.more HF.out)⟩,by have:=HK.out;show 3-(((k+1:Nat):Int)).toNat<3-((k:Nat):Int).toNat;omega⟩
     ·have f1:(x==a)=false:=beq_eq_false_iff_ne.mpr e1
      have HF:=Lib.hid (fun h=>e1 (OW.out.1 h).1:¬ hit zs a b (3*t+k));clear e1;go_wp2_with fail
      refine HE.out.mono ?_;rintro e w9 ⟨rfl,hb⟩;have HB:=Lib.hid (hJ.out.step hb);clear hb;go_wp2
      rw[lS (by have:=HK.out;omega)];exact⟨⟨k+1,by have:=HK.out;omega,rfl,Lib.hid (HB.out.more HF.out)⟩,by have:=HK.out;show 3-(((k+1:Nat):Int)).toNat<3-((k:Nat):Int).toNat;omega⟩
    ·have h2:decide ((k:Int)<3)=false:=decide_eq_false (by omega)
     go_wp2
     have h9:=HN.out;rw[lS (by omega)];exact⟨⟨t+1,by omega,rfl,Lib.hid (by rw[show 3*(t+1)=3*t+k by omega];exact hJ.out)⟩,by show n1-(((t+1:Nat):Int)).toNat<n1-((t:Nat):Int).toNat;omega⟩
  ·have h1:decide ((t:Int)<(n1:Int))=false:=decide_eq_false (by omega)
   go_wp2
   go_ret2
   refine⟨?_,by rw[HG.out];exact hI.out.below⟩;rw[Md.2 (fun j hj=>hI.out.no j (by omega))];rfl
theorem xE {s:ByteArray} (h:0<s.size):(s.toList==([]:List UInt8))=false∧(s.toList != ([]:List UInt8))=true:=by
 have hn:s.toList≠[]:=by
  intro e;have:s.data.toList.length=0:=by rw[← Lib.toList_data,e];rfl
  have hs:s.size=s.data.toList.length:=by simp
  omega
 exact⟨beq_eq_false_iff_ne.mpr hn,bne_iff_ne.mpr hn⟩
theorem toList_nil {s:ByteArray} (h:s.size=0):(s.toList==([]:List UInt8))=true∧(s.toList != ([]:List UInt8))=false:=by
 have hn:s.toList=[]:=by
  rw[Lib.toList_data];apply List.eq_nil_of_length_eq_zero;have hs:s.size=s.data.toList.length:=by simp
  omega
 rw[hn];exact⟨rfl,rfl⟩
theorem agk (s:ByteArray) (h:32000<s.size) (w:World) :
  Calls Tryz.prog 116 #[.string s] w fun e w'=>e = .returned (.tuple #[.slice none 0 0,.int .i64 5])∧w'=w:=by
 have h1:decide ((32000:Int)<(s.size:Int))=true:=by simp;omega
 go_enter Tryz.func116,Tryz.ntmps116;go_wp2
 go_ret2
 exact⟨rfl,rfl⟩
theorem akF (s:ByteArray) (h0:0<s.size) (h:s.size≤32000) (hb:fP s (s.size-1)=0) (w:World) :
  Calls Tryz.prog 116 #[.string s] w fun e w'=>e = .returned (.tuple #[.slice none 0 0,.int .i64 1])∧w'=w:=by
 have h1:decide ((32000:Int)<(s.size:Int))=false:=by simp;omega
 obtain⟨h2,h3⟩:=xE h0;have hx:∀ h:0<s.size,((s[0]'h).toNat:Int)=0:=fun h=>by
  rw[← hb];unfold fP;rw[dif_pos (by omega)];congr 3
  omega
 have q1:=eq_true (show(0:Int)<(s.size:Int) by omega);have q2:=eq_true h0;clear h hb;go_enter Tryz.func116,Tryz.ntmps116;go_wp2
 go_ret2
 exact⟨rfl,rfl⟩
theorem agl {w:World} {A:Option Addr} {n c:Nat} {l:List Int} (hl:l.length=n) (hc:n≤c) (hr:RL w A l):oT w (.slice A n c) l:=by
 subst hl;exact⟨A,c,rfl,hc,hr⟩
def OfP (v:Int) (w:World) (e:Ending) (w':World):Prop:=∃ g n r,e = .returned (.tuple #[.slice (some ⟨g,0,none⟩) n n,.int .i64 0])∧w.heap.size≤g∧r.length=n∧n≤4000∧cK w' g r∧aJ r∧Tr r∧lv r=v∧Below w.heap.size w w'
structure OfW (g N8:Nat) (s:ByteArray) (w:World) (k:Nat) (L:List Int) (w1:World):Prop where
 blk:cK w1 g L
 inv:gV (fP s) N8 k L
 only:bU g w w1
theorem Sv (s:ByteArray) (h:s.size≤32000) (hb:0<s.size→fP s (s.size-1)≠0) (w:World) :
  Calls Tryz.prog 116 #[.string s] w (OfP (nv s) w):=by
 have h1:decide ((32000:Int)<(s.size:Int))=false:=by simp;omega
 have HT:=Lib.hid hb;have hb1:Below w.heap.size w (w.alloc (.cells (madeCells #[.int .u64 0] ((s.size+7) / 8)) 122)):=(Below.refl _ _).alloc (Nat.le_refl _) _;have dA:=qo w ((s.size+7) / 8);have hmk:=qm ((s.size+7) / 8) (by omega);rw[show(((s.size+7) / 8:Nat):Int)=((s.size:Int)+8-1) / 8 by omega]at hmk
 rcases Nat.eq_zero_or_pos s.size with h0|h0
 ·obtain⟨h2,h3⟩:=toList_nil h0
  have hlt:=decide_eq_false (show ¬ (0:Int)<(s.size:Int) by omega);have azA:=decide_eq_false (show ¬ 0<s.size by omega);have HH:=Lib.hid h0;clear hb h0;go_enter Tryz.func116,Tryz.ntmps116;go_wp2
  go_loopw [5,26] (fun _ t w1=>t = .int .i64 0∧Hid (w1=w.alloc (.cells (madeCells #[.int .u64 0] ((s.size+7) / 8)) 122))) (fun _ t _=>0)
  case atStart=>exact⟨rfl,rfl⟩
  case round =>
   obtain⟨rfl,hw⟩:=hrel;go_wp2
   go_ret2
   rw[hw.out];have hn:(s.size+7) / 8=0:=by rw[HH.out]
   rw[hn]at dA ⊢
   refine⟨w.heap.size,0,[],rfl,Nat.le_refl _,rfl,by omega,dA,Yv,.inl rfl,?_,by rw[hn]at hb1;exact hb1⟩;unfold nv;rw[HH.out];rfl
 ·obtain⟨h2,h3⟩:=xE h0
  obtain⟨t0,yN⟩:∃ t0,fP s (s.size-1)=t0:=⟨_,rfl⟩
  have hx:∀ h:0<s.size,((s[0]'h).toNat:Int)=t0:=fun h=>by
   rw[← yN];unfold fP;rw[dif_pos (by omega)];congr 3
   omega
  have hne:(t0==0)=false:=beq_eq_false_iff_ne.mpr (by rw[← yN];exact hb h0);have q1:=eq_true (show(0:Int)<(s.size:Int) by omega);have q2:=eq_true h0;clear hb yN;go_enter Tryz.func116,Tryz.ntmps116;go_wp2
  obtain⟨N8,Ef⟩:∃ N8,(s.size+7) / 8=N8:=⟨_,rfl⟩
  rw[Ef]at hb1 dA ⊢
  have yO:=Lib.hid Ef;generalize hw3:w.alloc (.cells (madeCells #[.int .u64 0] N8) 122)=w3 at *;have HG:w.heap.size≤w.heap.size:=Nat.le_refl _;generalize hg:w.heap.size=g at HG hb1 dA ⊢;have vQ:=Lib.hid hg;have bD:=Lib.hid hb1;have H0:=Lib.hid (show OfW g N8 s w3 0 (List.replicate N8 0) w3 from ⟨dA,gV.start _ _,bU.refl _ _⟩);clear Ef hx q1 q2 hne h2 h3 hmk dA hb1 hg hw3;go_loopw [5,26] (fun _ t w1=>∃ (k:Nat) (L:List Int),k≤s.size∧t = .int .i64 k∧OfW g N8 s w3 k L w1) (fun _ t _=>s.size-(intOf t).toNat)
  case atStart=>exact⟨0,_,Nat.zero_le _,rfl,H0.out⟩
  case round =>
   obtain⟨k,L,hk,rfl,hI⟩:=hrel;by_cases hlt:k<s.size
   ·have h1:decide ((k:Int)<(s.size:Int))=true:=by simp;omega
    have ho:=hI.only;have yP:k / 8<N8:=by have:=yO.out;omega
    obtain⟨⟨s1,s2,s3⟩,s4⟩:=hI.inv.step (qu s) yP;have hblk:=hI.blk;have hce:=hblk.cell (k / 8) (by rw[hI.inv.len];exact yP);have hfr:=hblk.free (k / 8);obtain⟨j,hj⟩:∃ j,j=s.size-1-k:=⟨_,rfl⟩
    have hx:∀ h:j<s.size,((s[j]'h).toNat:Int)=fP s k:=fun h=>by
     unfold fP;rw[dif_pos hlt];subst hj;rfl
    obtain⟨q8,ug⟩:∃ q8,k / 8=q8:=⟨_,rfl⟩
    obtain⟨e8,sX⟩:∃ e8,8*(k%8)=e8:=⟨_,rfl⟩
    obtain⟨X,hX⟩:∃ X,fP s k*256^(k%8)=X:=⟨_,rfl⟩
    rw[ug]at yP s3 s4 hce hfr
    rw[hX]at s1 s2 s3 s4
    have a4:IntKind.u64.wrap (fP s k*2^e8)=X:=by
     rw[← sX,← Y2,hX];exact cm _ ⟨s1,s2⟩
    have a5:bits .or .u64 (lg L q8) X=lg L q8+X:=by
     have hm:X%2^e8=0:=by rw[← hX,← sX,← Y2];exact Int.mul_emod_left _ _
     have hlo:lg L q8<2^e8:=by rw[← ug,← sX,← Y2];exact hI.inv.low
     rw[or_comm,Mg _ _ e8 ⟨s1,s2⟩ (hI.inv.bF _).1 hlo (hI.inv.bF _).2 hm,Int.add_comm]
    have a7:bits .or .u64 (lg L q8) (IntKind.u64.wrap (fP s k*2^min e8 64))=lg L q8+X:=by
     rw[Nat.min_eq_left (by omega),a4,a5]
    have A7:=Lib.hid a7;clear a4 a5 a7;have a6:IntKind.u64.wrap (fP s k)=fP s k:=cm _ ⟨(qu s k).1,by have:=(qu s k).2;rw[B_eq];omega⟩;have b0:=(qu s k).1;have HI:=Lib.hid (And.intro hblk ho);have HS:=Lib.hid s4;have HJ:=Lib.hid (And.intro hj hk);have c1:=eq_true (show(q8:Int)<(N8:Int) by omega);have c2:=eq_true (show(0:Int)≤(q8:Int) by omega);have c3:=eq_true (show(j:Int)<(s.size:Int) by omega);have c4:=eq_true (show(0:Int)≤(j:Int) by omega);have c5:=eq_true (show j<s.size by omega);have c6:=eq_true (show(0:Int)≤(e8:Int) by omega);have a0:IntKind.i64.wrap ((k:Int) / 8)=(q8:Int):=by rw[show(k:Int) / 8=(q8:Int) by omega];exact IntWalk.i64_in _ (by omega)
    have a1:=IntWalk.i64_in ((s.size:Int)-1) (by omega);have a2:IntKind.i64.wrap ((s.size:Int)-1-(k:Int))=(j:Int):=by rw[show(s.size:Int)-1-(k:Int)=(j:Int) by omega];exact IntWalk.i64_in _ (by omega)
    have a3:IntKind.i64.wrap (8*((k:Int)%8))=(e8:Int):=by rw[show 8*((k:Int)%8)=(e8:Int) by omega];exact IntWalk.i64_in _ (by omega)
    have hmd:(k:Int).tmod 8=(k:Int)%8:=Int.tmod_eq_emod_of_nonneg (by omega);clear hj hk hI s1 s2 s3 s4 hblk ho yP ug sX hX;go_wp2
    go_still_tail 19,(by kernel_rfl)
    change wpList _ _ _ _ _ wr.drew;clear c1 c2 c3 c4 c5 c6 a0 a1 a2 a3 a6 b0 hmd;go_wp2
    rw[A7.out];obtain⟨i1,i2⟩:=HI.out;exact⟨⟨k+1,_,by omega,by go_num,⟨i1.set _ _,HS.out,(i2.set _ _).dr⟩⟩,by simp[intOf];omega⟩
   ·have he:k=s.size:=by omega
    have h1:decide ((k:Int)<(s.size:Int))=false:=by simp;omega
    subst he;have hl:=hI.inv.val;have dM:=gV.top (n:=s.size) (by rw[yO.out];exact hI.inv) (qu s) HT.out;have hrl:=hI.blk;have hlen:=hI.inv.len;have jI:=hI.inv.bF;have hbl:Below w.heap.size w wr:=by rw[vQ.out];exact bU.below bD.out hI.only (Nat.le_refl _)
    clear hI;have HH:=Lib.hid (And.intro hl (And.intro dM (And.intro hrl (And.intro hlen (And.intro jI hbl)))));clear hl dM hrl hlen jI hbl;go_wp2
    go_ret2
    obtain⟨hl,dM,hrl,hlen,jI,hbl⟩:=HH.out;exact⟨g,N8,L,rfl,by rw[vQ.out];exact HG,hlen,by have:=yO.out;omega,hrl,jI,dM,hl,hbl⟩
theorem alv (s:ByteArray) (h:s.size≤32000) (hb:0<s.size→fP s (s.size-1)≠0) (w:World) :
  Calls Tryz.prog 116 #[.string s] w (JW (nv s) w) :=
 (Sv s h hb w).mono fun _ _ ⟨g,n,r,he,hg,hl,hn,hk,h1,h2,h3,h4⟩=>⟨_,r,he,agl hl (Nat.le_refl _) (hk.RL (by omega)),h1,h2,h3,h4⟩
end Go.Proofs.YtfcjnhkkfmgmpaaGreat
