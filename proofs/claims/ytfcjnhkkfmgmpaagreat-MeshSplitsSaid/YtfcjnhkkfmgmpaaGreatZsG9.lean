import Derived.Test.YtfcjnhkkfmgmpaaGreatZsG7
import Derived.Laws.IdiomStrings
set_option linter.all false
set_option maxRecDepth 100000
set_option maxHeartbeats 8000000
namespace Go.Proofs.YtfcjnhkkfmgmpaaGreat
open Go.RowKit aR
def vw (w:World) (g:Nat) (l:List Int):Prop:=∃ cur:Array Value,w.heap[g]?=some (.cells cur 5 (0,0))∧l.length≤cur.size∧∀ j,j<l.length→cur[j]?=some (.int .u8 (lg l j))
theorem vw.cell {w:World} {g:Nat} {l:List Int} (h:vw w g l) (j:Nat) (hj:j<l.length):w.cell? ⟨g,j,none⟩=some (.int .u8 (lg l j)):=by
 obtain⟨cur,h,_,hc⟩:=h;unfold World.cell?;rw[show w.heap[(⟨g,j,none⟩:Addr).block]?=_ from h];simpa using hc j hj
theorem vw.free {w:World} {g:Nat} {l:List Int} (h:vw w g l) (j:Nat):w.frozen? ⟨g,j,none⟩=false:=by
 obtain⟨cur,h,_,hc⟩:=h;unfold World.frozen?;rw[show w.heap[(⟨g,j,none⟩:Addr).block]?=_ from h];simp
theorem vw.set {w:World} {g:Nat} {l:List Int} (h:vw w g l) (j:Nat) (x:Int):vw (w.setCell ⟨g,j,none⟩ (.int .u8 x)) g (l.set j x):=by
 obtain⟨cur,h,hl,hc⟩:=h;refine⟨cur.setIfInBounds j (.int .u8 x),by simp[World.setCell,Array.getElem?_modify,h],by simpa using hl,fun k hk=>?_⟩;rw[List.length_set]at hk
 rw[cG,Array.getElem?_setIfInBounds];by_cases e:j=k
 ·subst e
  rw[if_pos rfl,if_pos (by omega),if_pos ⟨rfl,hk⟩]
 ·rw[if_neg e,if_neg (by omega)]
  exact hc k hk
theorem ag5:(Tryz.prog.info? 5).map (fun i=>(i.zero,i.size,i.bytes))=some (some (.int .u8 0),1,1):=by kernel_rfl
theorem XO (n:Nat) (hn:n≤100000) (w:World):(Instr.makeSlice 138 (.int .i64 (n:Int)) (.int .i64 (n:Int))).run Tryz.prog w = .ok (.slice (some ⟨w.heap.size,0,none⟩) n n) (w.alloc (.cells (madeCells #[.int .u8 0] n) 5)) :=
 run_make_row' 138 5 (.int .u8 0) 1 Tryz.underlying138 ag5 (by kernel_rfl) .i64 .i64 n (by omega) (by omega) w
theorem XP (w:World) (n:Nat):vw (w.alloc (.cells (madeCells #[.int .u8 0] n) 5)) w.heap.size (List.replicate n 0):=by
 refine⟨madeCells #[.int .u8 0] n,?_,by rw[size_madeCells];simp,fun j hj=>?_⟩
 ·rw[show(w.alloc (.cells (madeCells #[.int .u8 0] n) 5)).heap=w.heap.push (.cells (madeCells #[.int .u8 0] n) 5) from rfl,Array.getElem?_push_size]
 ·rw[l8]
  rw[List.length_replicate]at hj
  have:(madeCells #[.int .u8 0] n).toList[j]?=some (.int .u8 0):=by rw[toList_madeCells_one];simp[hj]
  simpa using this
theorem vw.text {w:World} {g n c:Nat} {l:List Int} (h:vw w g l) (hl:l.length=n) (hb:∀ j,0≤lg l j∧lg l j<256) :
  (convert 138 36 (.slice (some ⟨g,0,none⟩) n c)).run Tryz.prog w = .ok (.string ⟨(l.map fun x=>UInt8.ofNat x.toNat).toArray⟩) w:=by
 have:=run_convert_bytes_back (P:=Tryz.prog) w 138 36 5 ⟨g,0,none⟩ c (l.map fun x=>UInt8.ofNat x.toNat) Tryz.underlying138 Tryz.underlying5 Tryz.underlying36 (fun j hj=>by
  rw[List.length_map]at hj
  have hc:=h.cell j hj;rw[show(⟨g,0,none⟩:Addr).add j=⟨g,j,none⟩ by unfold Addr.add;split <;> simp_all,hc];have hx:lg l j=l[j]:=by unfold lg;rw[List.getD_eq_getElem?_getD,List.getElem?_eq_getElem hj];rfl
  have:=hb j;rw[List.getElem_map,PX (by rw[hx]at this;omega),← hx];congr 2
  omega)
 rw[List.length_map,hl]at this
 exact this
structure pL (g N:Nat) (v:Int) (w:World) (k:Nat) (b:List Int) (w1:World):Prop where
 blk:vw w1 g b
 len:b.length=N
 bd:∀ j,0≤lg b j∧lg b j<256
 val:∀ i,i<k→lg b (N-1-i)=jV v i
 only:bU g w w1
theorem pL.text {g N:Nat} {v:Int} {w:World} {b:List Int} {w1:World} (h:pL g N v w N b w1) (hN:nb v=N):(⟨(b.map fun x=>UInt8.ofNat x.toNat).toArray⟩:ByteArray)=ey v:=by
 unfold ey;rw[hN];congr 2
 apply List.ext_getElem
 ·simp[h.len]
 ·intro i h1 h2
  rw[List.length_map,h.len]at h1
  have hv:=h.val (N-1-i) (by omega);rw[show N-1-(N-1-i)=i by omega]at hv
  have hx:lg b i=b[i]'(by rw[h.len];exact h1):=by unfold lg;rw[List.getD_eq_getElem?_getD,List.getElem?_eq_getElem (by rw[h.len];exact h1)];rfl
  rw[hx]at hv
  simp[hv]
theorem alx (A0:Option Addr) (n c0:Nat) (l:List Int) (hn:l.length=n) (gp:n≤4000) (hc0:n≤c0) (w:World) (ha:RL w A0 l) (hla:aJ l) :
  Calls Tryz.prog 135 #[.slice A0 n c0] w fun e w'=>e = .returned (.tuple #[.string (ey (lv l)),.int .i64 0])∧Below w.heap.size w w':=by
 have hb0:Below w.heap.size w (w.alloc (.cells #[.slice A0 n c0] 124)):=(Below.refl _ _).alloc (Nat.le_refl _) _;have kO:=Lib.hid (ha.below hb0 (Nat.le_refl _));have HN:=Lib.hid hn;have hpl:=f_ l;have kY:=eB l;have dM:=kM l;rw[hn]at hpl kY dM
 have GR:=pH l n;have n_:=hla.take (bn l n);have Eg:=kO.out.take (bn l n);have azB:=hb0;rw[← kY];generalize hx:l.take (bn l n)=x at *;generalize hp:bn l n=p at *;have O_:=Lib.hid hp;have HS:=Lib.hid hb0;clear ha hn hla hb0 hx hp kY;cases p with
 | zero =>
  have hx0:lv x=0:=by unfold lv;rw[hpl];rfl
  have HX0:=Lib.hid hx0;clear hx0 hpl dM n_ Eg;go_enter Tryz.func135,Tryz.ntmps135;go_wp2_with fail
  refine(aaN _ _ _ _ gp).mono ?_;rintro e w' ⟨rfl,rfl⟩;go_wp2_with fail
  refine(kL _ _ _ l HN.out hc0 _ kO.out).mono ?_;rintro e w5 ⟨rfl,⟨nd,rfl⟩⟩;rw[O_.out];go_wp2
  go_ret2
  rw[HX0.out,XN];exact⟨rfl,gR HS.out _⟩
 | succ p =>
  have lQ:0<lg x p∧lg x p<B:=by
   have:=n_ p;rcases dM with h|h
   ·omega
   ·rw[hpl]at h
    exact⟨by have:lg x p≠0:=h;omega,this.2⟩
  obtain⟨s,hs,Dv,hs1,hs2⟩:=Ri (lg x p) lQ.1 lQ.2;have hnb:=alw n_ hpl Dv hs1 hs2;obtain⟨N,hN⟩:∃ N,8*(p+1)-s / 8=N:=⟨_,rfl⟩
  rw[hN]at hnb
  obtain⟨ad,rfl,hc⟩:=Eg.2 (by omega);have hct:=hc p (by omega);have KC:=Lib.hid (T5 (lg x p) ⟨by omega,lQ.2⟩);have hmk:=XO N (by omega);have Bl:=Lib.hid Eg;have eR:=Lib.hid hs;have Vy:=Lib.hid hnb;have sY:=Lib.hid (And.intro n_ hpl);have hz1:((p:Int)+1==0)=false:=beq_eq_false_iff_ne.mpr (by omega);have a1:((p:Int)+1)*8-(s:Int) / 8=(N:Int):=by omega
  have yO:=Lib.hid hN;clear hs hs1 hs2 hnb Eg n_ hpl dM lQ hc hN;go_enter Tryz.func135,Tryz.ntmps135;go_wp2_with fail
  refine(aaN _ _ _ _ gp).mono ?_;rintro e w' ⟨rfl,rfl⟩;go_wp2_with fail
  refine(kL _ _ _ l HN.out hc0 _ kO.out).mono ?_;rintro e w5 ⟨rfl,⟨nd,rfl⟩⟩;rw[O_.out];go_wp2_with fail
  refine(KC.out _).mono ?_;rintro e w5 ⟨rfl,rfl⟩;rw[eR.out];go_wp2
  have hb1:Below (w.heap.size+1) ((w.alloc (.cells #[.slice (some ad) n c0] 124)).drewN nd) (((w.alloc (.cells #[.slice (some ad) n c0] 124)).drewN nd).alloc (.cells (madeCells #[.int .u8 0] N) 5)):=(Below.refl _ _).alloc (by simp) _;have dA:=XP ((w.alloc (.cells #[.slice (some ad) n c0] 124)).drewN nd) N;rw[show((w.alloc (.cells #[.slice (some ad) n c0] 124)).drewN nd).heap.size=w.heap.size+1 by simp]at dA
  have hx1:=(Bl.out.dO nd).below hb1 (by simp);have GZ:ad.block≠w.heap.size+1:=Nat.ne_of_lt (by have:=Bl.out.lt (by rw[sY.out.2];omega) ad rfl;simpa using this);have lT:=(gR HS.out nd).trans (hb1.mono (by omega));have HG:w.heap.size≤w.heap.size+1:=by omega
  generalize hw3:((w.alloc (.cells #[.slice (some ad) n c0] 124)).drewN nd).alloc (.cells (madeCells #[.int .u8 0] N) 5)=w3 at *;generalize w.heap.size+1=g at *;have H0:=Lib.hid (show pL g N (lv x) w3 0 (List.replicate N 0) w3 from ⟨dA,by simp,fun j=>by rw[l8];exact⟨Int.le_refl _,by decide⟩,fun i h=>by omega,bU.refl _ _⟩);have HX:=Lib.hid hx1;have Vz:=Lib.hid GZ;have m_:=Lib.hid lT;clear dA hx1 GZ hb1 lT hw3 hmk hct a1 hz1;go_loopw [6,30] (fun _ t w1=>∃ (k:Nat) (b:List Int),k≤N∧t = .int .i64 k∧pL g N (lv x) w3 k b w1) (fun _ t _=>N-(intOf t).toNat)
  case atStart=>exact⟨0,_,Nat.zero_le _,rfl,H0.out⟩
  case round =>
   obtain⟨k,b,hk,rfl,hI⟩:=hrel;by_cases hlt:k<N
   ·have h1:decide ((k:Int)<(N:Int))=true:=by simp;omega
    obtain⟨q8,ug⟩:∃ q8,k / 8=q8:=⟨_,rfl⟩
    obtain⟨e8,sX⟩:∃ e8,8*(k%8)=e8:=⟨_,rfl⟩
    obtain⟨j,hj⟩:∃ j,j=N-1-k:=⟨_,rfl⟩
    have hq:q8<p+1:=by have:=yO.out;omega
    obtain⟨yG,had,cj⟩:=(HX.out.only hI.only (fun _ yG e=>by cases e;exact Vz.out)).2 (by rw[sY.out.2];omega);cases had;have hc2:=cj q8 (by rw[sY.out.2];exact hq);have hce:=hI.blk.cell j (by rw[hI.len];omega);have hfr:=hI.blk.free j;have hd:lg x q8 / 2^e8%256=jV (lv x) k:=by rw[mX sY.out.1,ug,Y2,sX]
    have HD:=Lib.hid hd;have HI:=Lib.hid hI;have HJ:=Lib.hid (And.intro hj hk);have a0:(k:Int) / 8=(q8:Int):=by omega
    have a2:(N:Int)-1-(k:Int)=(j:Int):=by omega
    have a3:8*((k:Int)%8)=(e8:Int):=by omega
    have hjN:j<N:=by omega
    have hN9:N≤40000:=by have:=yO.out;omega
    have hq9:q8<p+1:=by omega
    have aoU:e8≤64:=by omega
    clear hI cj hd hj hk ug sX hq;go_wp2
    rw[HD.out];obtain⟨hj,hk⟩:=HJ.out;refine⟨⟨k+1,_,by omega,by go_num,⟨HI.out.blk.set _ _,by rw[List.length_set];exact HI.out.len,?_,?_,HI.out.only.set _ _⟩⟩,by simp[intOf];omega⟩
    ·intro t
     rw[cG];split
     ·exact MX _ _
     ·exact HI.out.bd t
    ·intro t ht
     rw[cG];by_cases e:t=k
     ·subst e
      rw[if_pos ⟨hj,by rw[HI.out.len];omega⟩]
     ·rw[if_neg (by omega)]
      exact HI.out.val t (by omega)
   ·have he:k=N:=by omega
    subst he;have h1:decide ((k:Int)<(k:Int))=false:=by simp
    have hcv:=hI.blk.text (c:=k) hI.len hI.bd;rw[hI.text Vy.out]at hcv
    have hbl:Below w.heap.size w wr:=bU.below m_.out hI.only HG;have pP:=Lib.hid hbl;clear hI hbl;go_wp2
    go_ret2
    exact⟨rfl,pP.out⟩
def gN (n:Bool) (s:ByteArray):Int:=if 32000<s.size then 5 else if 0<s.size∧fP s (s.size-1)=0 then 1 else if n=true∧s.size=0 then 1 else 0
def fZ (n:Bool) (s:ByteArray):Prop:=s.size≤32000∧Canon s∧(n=true→0<s.size)
theorem qw {n:Bool} {s:ByteArray}:gN n s=0↔fZ n s:=by
 unfold gN fZ Canon;constructor
 ·intro h
  split at h
  ·omega
  ·split at h
   ·omega
   ·split at h
    ·omega
    ·rename_i h1 h2 h3
     refine⟨by omega,fun h0 hz=>h2 ⟨h0,hz⟩,fun hn=>?_⟩;rcases Nat.eq_zero_or_pos s.size with h0|h0
     ·exact absurd ⟨hn,h0⟩ h3
     ·exact h0
 ·rintro⟨h1,h2,h3⟩
  rw[if_neg (by omega),if_neg (fun h=>h2 h.1 h.2),if_neg (fun h=>by have:=h3 h.1;omega)]
theorem Mo (n:Bool) (s:ByteArray) (w:World) :
  Calls Tryz.prog 107 #[.agg #[.bool n,.string s]] w fun e w'=>e = .returned (.int .i64 (gN n s))∧Below w.heap.size w w':=by
 have hu:=Tryz.underlying38;have hb0:Below w.heap.size w (w.alloc (.cells #[.bool n,.string s] 38)):=(Below.refl _ _).alloc (Nat.le_refl _) _;have HS:=Lib.hid hb0;clear hb0;unfold gN;by_cases h1:32000<s.size
 ·rw[if_pos h1]
  have HO:=Lib.hid (agk s h1);clear h1;go_enter Tryz.func107,Tryz.ntmps107;go_wp2_with fail
  refine(HO.out _).mono ?_;rintro e w' ⟨rfl,rfl⟩;go_wp2
  go_ret
  exact⟨rfl,HS.out⟩
 ·rw[if_neg h1]
  by_cases h2:0<s.size∧fP s (s.size-1)=0
  ·rw[if_pos h2]
   have HO:=Lib.hid (akF s h2.1 (by omega) h2.2);clear h1 h2;go_enter Tryz.func107,Tryz.ntmps107;go_wp2_with fail
   refine(HO.out _).mono ?_;rintro e w' ⟨rfl,rfl⟩;go_wp2
   go_ret
   exact⟨rfl,HS.out⟩
  ·rw[if_neg h2]
   have HO:=Lib.hid (alv s (by omega) (fun h0 hz=>h2 ⟨h0,hz⟩));clear h1 h2;cases n with
   | false =>
    rw[if_neg (by simp)];go_enter Tryz.func107,Tryz.ntmps107;go_wp2_with fail
    refine(HO.out _).mono ?_;rintro e w' ⟨x,r,rfl,hr1,hr2,hr3,hr4,fO⟩;have hce:=fO.cell (p:=⟨w.heap.size,0,none⟩) (by simp);have acU:=fO.cell (p:=⟨w.heap.size,1,none⟩) (by simp);have hbl:=HS.out.trans (fO.mono (by simp));have pP:=Lib.hid hbl;clear hr1 hr2 hr3 hr4 fO hbl;go_wp2
    go_ret
    exact⟨rfl,pP.out⟩
   | true =>
    by_cases h0:s.size=0
    ·obtain⟨t1,t2⟩:=toList_nil h0
     rw[if_pos ⟨rfl,h0⟩];clear h0;go_enter Tryz.func107,Tryz.ntmps107;go_wp2_with fail
     refine(HO.out _).mono ?_;rintro e w' ⟨x,r,rfl,hr1,hr2,hr3,hr4,fO⟩;have hce:=fO.cell (p:=⟨w.heap.size,0,none⟩) (by simp);have acU:=fO.cell (p:=⟨w.heap.size,1,none⟩) (by simp);have hbl:=HS.out.trans (fO.mono (by simp));have pP:=Lib.hid hbl;clear hr1 hr2 hr3 hr4 fO hbl;go_wp2
     go_ret
     exact⟨rfl,pP.out⟩
    ·obtain⟨t1,t2⟩:=xE (by omega:0<s.size)
     rw[if_neg (fun h=>h0 h.2)];clear h0;go_enter Tryz.func107,Tryz.ntmps107;go_wp2_with fail
     refine(HO.out _).mono ?_;rintro e w' ⟨x,r,rfl,hr1,hr2,hr3,hr4,fO⟩;have hce:=fO.cell (p:=⟨w.heap.size,0,none⟩) (by simp);have acU:=fO.cell (p:=⟨w.heap.size,1,none⟩) (by simp);have hbl:=HS.out.trans (fO.mono (by simp));have pP:=Lib.hid hbl;clear hr1 hr2 hr3 hr4 fO hbl;go_wp2
     go_ret
     exact⟨rfl,pP.out⟩
theorem XZ:(Tryz.prog.info? 151).map (fun i=>(i.zero,i.size,i.bytes))=some (some (.agg #[.bool false,.slice none 0 0]),2,32):=by kernel_rfl
def SZ (w:World) (ad:Addr) (xs:List (Bool × ByteArray)):Prop:=∀ j n s,xs[j]?=some (n,s)→w.cell? (ad.add (j*2))=some (.bool n)∧w.cell? ⟨(ad.add (j*2)).block,(ad.add (j*2)).off+1,none⟩=some (.string s)
def Jy (base:Nat) (w:World) (p:Bool × ByteArray) (v:Value × Value):Prop:=v.1 = .bool p.1∧∃ g n r,v.2 = .slice (some ⟨g,0,none⟩) n n∧base≤g∧r.length=n∧n≤4000∧cK w g r∧aJ r∧Tr r∧lv r=nv p.2
theorem Jy.keep {base:Nat} {w w':World} {p:Bool × ByteArray} {v:Value × Value} (h:Jy base w p v) (hk:∀ g l,cK w g l→w'.heap[g]?=w.heap[g]?):Jy base w' p v:=by
 obtain⟨h1,g,n,r,h2,hb,h3,h4,h5,h6⟩:=h;refine⟨h1,g,n,r,h2,hb,h3,h4,?_,h6⟩;have:=hk g r h5;obtain⟨cur,hc,h⟩:=h5;exact⟨cur,this.trans hc,h⟩
def flat (l:List (Value × Value)):List Value:=l.flatMap fun p=>[p.1,p.2]
theorem XQ (l:List (Value × Value)) (p:Value × Value):flat (l++[p])=flat l++[p.1,p.2]:=by simp[flat]
theorem XR {w w1:World} {base:Nat} {e:TypeId} {size n:Nat} {v:Value} {xs:List Value} (h:w.ownsRow base e size v n xs) (hb:Below w.heap.size w w1):w1.ownsRow base e size v n xs :=
 h.kept (row:=none) ⟨hb.os,hb.tape,hb.output,hb.size,fun i hi _=>hb.block i hi⟩ (by cases v.ownBlock <;> simp)
theorem ago {w:World} {base:Nat} {e:TypeId} {size n:Nat} {v:Value} {xs:List Value} (h:w.ownsRow base e size v n xs) (k:Nat) (hk:v.ownBlock=some k):∃ cells,w.heap[k]?=some (.cells cells e (0,0)):=by
 rcases h.2 with ⟨rfl,_⟩|⟨g,cap,cur,rfl,hg,hh,r⟩
 ·simp[Value.ownBlock]at hk
 ·have:g=k:=by simpa [Value.ownBlock] using hk
  subst this;exact⟨cur,hh⟩
theorem Yw (w:World) (a b:Value) (t:TypeId):∀ j u,[a,b][j]?=some u→(w.alloc (.cells #[a,b] t)).cell? ((⟨w.heap.size,0,none⟩:Addr).add j)=some u:=by
 intro j u h;match j,h with
 | 0,h=>simp at h;subst h;simp[Addr.add,go_sem]
 | 1,h=>simp at h;subst h;simp[Addr.add,go_sem]
 | j+2,h=>simp at h
theorem Yx (n:Bool) (A:Option Addr) (l c:Nat):∀ u∈[Value.bool n,Value.slice A l c],u.oneCell'=true:=by
 intro u h;simp at h;rcases h with rfl|rfl <;> rfl
theorem dz {w w':World} {base n:Nat} {v:Value} {xs:List Value} {size:Nat} (ho:w.ownsRow base 151 size v n xs) (hg:w.grownBy w' v.ownBlock):∀ g l,cK w g l→w'.heap[g]?=w.heap[g]?:=by
 intro g l hb;refine hg.block g hb.lt ?_;intro e;obtain⟨cells,hc⟩:=ago ho g e.symm;obtain⟨cur,hh,_⟩:=hb;rw[hc]at hh
 injection hh with hh
 injection hh with _ ht
 revert ht
 decide
theorem Yy {w w':World} (hb:Below w.heap.size w w'):∀ g l,cK w g l→w'.heap[g]?=w.heap[g]?:=fun g l h=>hb.block g h.lt
structure ReadW (base:Nat) (xs:List (Bool × ByteArray)) (w:World) (k:Nat) (v:Value) (rs:List (Value × Value)) (w1:World):Prop where
 own:w1.ownsRow base 151 2 v k (flat rs)
 len:rs.length=k
 ok:∀ j p q,j<k→xs[j]?=some p→rs[j]?=some q→Jy base w1 p q
 below:Below w.heap.size w w1
theorem ag6 (ad:Addr) (xs:List (Bool × ByteArray)) (m c:Nat) (hm:xs.length=m) (jU:m≤100) (w:World) (ha:SZ w ad xs) (hok:∀ p∈xs,fZ p.1 p.2) :
  Calls Tryz.prog 117 #[.slice (some ad) m c] w fun e w'=>∃ v rs,e = .returned (.tuple #[v,.int .i64 0])∧ReadW w.heap.size xs w m v rs w':=by
 obtain⟨i0,Bn,hz0,hz1,hz2⟩:=info_parts XZ;have HM:=Lib.hid hm;have HA:=Lib.hid ha;have G3:=Lib.hid hok;have HI:=Lib.hid (And.intro Bn (And.intro hz0 (And.intro hz1 hz2)));clear hm ha hok Bn hz0 hz1 hz2;have hu:=Tryz.underlying38;go_enter Tryz.func117,Tryz.ntmps117;go_wp2
 go_loopw [4,6,7,8,9,12] (fun v _ _ _ _ t w1=>∃ (k:Nat) (rs:List (Value × Value)),k≤m∧t = .int .i64 k∧ReadW w.heap.size xs w k v rs w1) (fun _ _ _ _ _ t _=>m-(intOf t).toNat)
 case atStart=>exact⟨0,[],Nat.zero_le _,rfl,⟨⟨rfl,.inl ⟨rfl,rfl⟩⟩,rfl,fun j p q h=>by omega,Below.refl _ _⟩⟩
 case round =>
  obtain⟨k,rs,hk,rfl,hI⟩:=hrel;by_cases hlt:k<m
  ·have h1:decide ((k:Int)<(m:Int))=true:=by simp;omega
   have KM:k<xs.length:=by rw[HM.out];exact hlt
   obtain⟨n,s,hp⟩:∃ n s,xs[k]?=some (n,s):=⟨_,_,List.getElem?_eq_getElem KM⟩
   obtain⟨a1,a2⟩:=HA.out k n s hp;have hblk:=World.block_lt_of_cell? w _ a1;have a1':=(hI.below.cell hblk).trans a1;have a2':=(hI.below.cell (World.block_lt_of_cell? w _ a2)).trans a2;have yq:=G3.out (n,s) (List.mem_of_getElem? hp);have yQ:=qw.mpr yq;have hcc:=Lib.hid (Mo n s);have VA:=Lib.hid (Sv s yq.1 yq.2.1);have lH:=Lib.hid hI;have HP:=Lib.hid hp;have Eh:=Lib.hid yQ;clear a1 a2 hI hp yQ yq hblk KM;go_wp2_with fail
   refine(hcc.out _).mono ?_;rintro e w2 ⟨rfl,hb2⟩;rw[Eh.out];have c1:=hb2.cell (p:=⟨wr.heap.size,0,none⟩) (by simp);have c2:=hb2.cell (p:=⟨wr.heap.size,1,none⟩) (by simp);have dD:=Lib.hid hb2;clear hb2;go_wp2_with fail
   refine(VA.out _).mono ?_;rintro e w3 ⟨g,n3,r,rfl,hg,hrl,oZ,KN,hlr,dM,gw,hb3⟩;have Uf:=dD.out.size;simp at Uf;have c3:=(hb3.cell (p:=⟨wr.heap.size,0,none⟩) (by simp;omega)).trans c1;have c4:=(hb3.cell (p:=⟨wr.heap.size,1,none⟩) (by simp;omega)).trans c2;have HR:=Lib.hid (And.intro hg (And.intro hrl (And.intro oZ (And.intro KN (And.intro hlr (And.intro dM (And.intro gw hb3)))))));clear c1 c2 hg hrl oZ KN hlr dM gw hb3;have lT:Below wr.heap.size wr (w3.alloc (.cells #[.bool n,.slice (some ⟨g,0,none⟩) n3 n3] 151)):=by
    have h1:Below wr.heap.size wr w2:=((Below.refl _ _).alloc (Nat.le_refl _) _).trans (dD.out.mono (by simp));have h2:=h1.trans (HR.out.2.2.2.2.2.2.2.mono h1.size);exact h2.alloc h2.size _
   have hown:=XR lH.out.own lT;have Ug:=lT.size;have JY:=lH.out.below.trans (lT.mono lH.out.below.size);have Dw:=Lib.hid hown;have m_:=Lib.hid (And.intro lT JY);clear lT hown JY Ug;go_wp2_with (at_builtin;refine wpList_append_own _ rfl (.tmp 27) (.tmp 32) 147 rfl w.heap.size 151 i0 (.agg #[.bool false,.slice none 0 0]) 2 32 Tryz.underlying147 HI.out.1 HI.out.2.1 HI.out.2.2.1 HI.out.2.2.2 rfl (by omega) u4 k (flat rs) rfl Dw.out ⟨w3.heap.size,0,none⟩ 1 1 [.bool n,.slice (some ⟨g,0,none⟩) n3 n3] rfl rfl ?_ ?_ (by simp only[maxLen];omega) (by omega) ?_ ?_;exact Yw _ _ _ _;exact Yx _ _ _ _;exact m_.out.2.size;intro v4 w4 S5 hg4 aly)
   obtain⟨b1,b2⟩:=m_.out;obtain⟨r1,r2,r3,r4,r5,r6,r7,r8⟩:=HR.out;have jg:=dz Dw.out hg4;refine⟨⟨k+1,rs++[(.bool n,.slice (some ⟨g,0,none⟩) n3 n3)],by omega,by go_num,⟨by rw[XQ];exact S5,by simp[lH.out.len],?_,?_⟩⟩,by simp[intOf];omega⟩
   ·intro j p q hj hp hq
    by_cases e:j=k
    ·subst e
     rw[HP.out]at hp
     cases hp;rw[List.getElem?_append_right (by rw[lH.out.len];exact Nat.le_refl _),lH.out.len,Nat.sub_self]at hq
     cases hq;have hk3:cK (w3.alloc (.cells #[.bool n,.slice (some ⟨g,0,none⟩) n3 n3] 151)) g r:=r4.below ((Below.refl _ _).alloc (Nat.le_refl _) _) r4.lt;refine⟨rfl,g,n3,r,rfl,?_,r2,r3,?_,r5,r6,r7⟩
     ·have:=dD.out.size
      have:=lH.out.below.size;simp at *;omega
     ·have:=jg g r hk3
      obtain⟨cur,hc,h⟩:=hk3;exact⟨cur,this.trans hc,h⟩
    ·rw[List.getElem?_append_left (by rw[lH.out.len];omega)]at hq
     exact((lH.out.ok j p q (by omega) hp hq).keep (Yy b1)).keep jg
   ·refine b2.trans ?_
    exact⟨hg4.os,hg4.tape,hg4.output,hg4.size,fun i hi=>hg4.block i (by have:=b2.size;omega) (fun e=>by
     rcases Dw.out.2 with ⟨e2,_⟩|⟨g',cap,cur,e2,hg',_⟩
     ·rw[e2]at e;simp[Value.ownBlock]at e
     ·rw[e2]at e;simp[Value.ownBlock]at e;omega)⟩
  ·have he:k=m:=by omega
   have h1:decide ((k:Int)<(m:Int))=false:=by simp;omega
   subst he;have lH:=Lib.hid hI;clear hI;go_wp2
   go_ret2
   exact⟨_,rs,rfl,lH.out⟩
theorem X0 (ad:Addr) (xs:List (Bool × ByteArray)) (m c:Nat) (hm:xs.length=m) (jU:m≤100) (w:World) (ha:SZ w ad xs) (b:Nat) (nb:Bool) (sb:ByteArray) (hb:xs[b]?=some (nb,sb)) (acV:gN nb sb≠0) (hok:∀ j p,j<b→xs[j]?=some p→fZ p.1 p.2) :
  Calls Tryz.prog 117 #[.slice (some ad) m c] w fun e w'=>e = .returned (.tuple #[.slice none 0 0,.int .i64 (gN nb sb)])∧Below w.heap.size w w':=by
 obtain⟨i0,Bn,hz0,hz1,hz2⟩:=info_parts XZ;have HM:=Lib.hid hm;have HA:=Lib.hid ha;have G3:=Lib.hid hok;have hbm:b<m:=by rw[← hm];exact(List.getElem?_eq_some_iff.1 hb).1
 have Uh:=Lib.hid (And.intro hb acV);have HI:=Lib.hid (And.intro Bn (And.intro hz0 (And.intro hz1 hz2)));clear hb acV hm ha hok Bn hz0 hz1 hz2;have hu:=Tryz.underlying38;go_enter Tryz.func117,Tryz.ntmps117;go_wp2
 go_loopw [4,6,7,8,9,12] (fun v _ _ _ _ t w1=>∃ (k:Nat) (rs:List (Value × Value)),k≤b∧t = .int .i64 k∧ReadW w.heap.size xs w k v rs w1) (fun _ _ _ _ _ t _=>m-(intOf t).toNat)
 case atStart=>exact⟨0,[],Nat.zero_le _,rfl,⟨⟨rfl,.inl ⟨rfl,rfl⟩⟩,rfl,fun j p q h=>by omega,Below.refl _ _⟩⟩
 case round =>
  obtain⟨k,rs,hk,rfl,hI⟩:=hrel;by_cases hlt:k<b
  ·have h1:decide ((k:Int)<(m:Int))=true:=by simp;omega
   have hkm:k<m:=by omega
   have KM:k<xs.length:=by rw[HM.out];exact hkm
   obtain⟨n,s,hp⟩:∃ n s,xs[k]?=some (n,s):=⟨_,_,List.getElem?_eq_getElem KM⟩
   obtain⟨a1,a2⟩:=HA.out k n s hp;have hblk:=World.block_lt_of_cell? w _ a1;have a1':=(hI.below.cell hblk).trans a1;have a2':=(hI.below.cell (World.block_lt_of_cell? w _ a2)).trans a2;have yq:=G3.out k (n,s) hlt hp;have yQ:=qw.mpr yq;have hcc:=Lib.hid (Mo n s);have VA:=Lib.hid (Sv s yq.1 yq.2.1);have lH:=Lib.hid hI;have HP:=Lib.hid hp;have Eh:=Lib.hid yQ;clear a1 a2 hI hp yQ yq hblk KM;go_wp2_with fail
   refine(hcc.out _).mono ?_;rintro e w2 ⟨rfl,hb2⟩;rw[Eh.out];have c1:=hb2.cell (p:=⟨wr.heap.size,0,none⟩) (by simp);have c2:=hb2.cell (p:=⟨wr.heap.size,1,none⟩) (by simp);have dD:=Lib.hid hb2;clear hb2;go_wp2_with fail
   refine(VA.out _).mono ?_;rintro e w3 ⟨g,n3,r,rfl,hg,hrl,oZ,KN,hlr,dM,gw,hb3⟩;have Uf:=dD.out.size;simp at Uf;have c3:=(hb3.cell (p:=⟨wr.heap.size,0,none⟩) (by simp;omega)).trans c1;have c4:=(hb3.cell (p:=⟨wr.heap.size,1,none⟩) (by simp;omega)).trans c2;have HR:=Lib.hid (And.intro hg (And.intro hrl (And.intro oZ (And.intro KN (And.intro hlr (And.intro dM (And.intro gw hb3)))))));clear c1 c2 hg hrl oZ KN hlr dM gw hb3;have lT:Below wr.heap.size wr (w3.alloc (.cells #[.bool n,.slice (some ⟨g,0,none⟩) n3 n3] 151)):=by
    have h1:Below wr.heap.size wr w2:=((Below.refl _ _).alloc (Nat.le_refl _) _).trans (dD.out.mono (by simp));have h2:=h1.trans (HR.out.2.2.2.2.2.2.2.mono h1.size);exact h2.alloc h2.size _
   have hown:=XR lH.out.own lT;have Ug:=lT.size;have JY:=lH.out.below.trans (lT.mono lH.out.below.size);have Dw:=Lib.hid hown;have m_:=Lib.hid (And.intro lT JY);clear lT hown JY Ug;go_wp2_with (at_builtin;refine wpList_append_own _ rfl (.tmp 27) (.tmp 32) 147 rfl w.heap.size 151 i0 (.agg #[.bool false,.slice none 0 0]) 2 32 Tryz.underlying147 HI.out.1 HI.out.2.1 HI.out.2.2.1 HI.out.2.2.2 rfl (by omega) u4 k (flat rs) rfl Dw.out ⟨w3.heap.size,0,none⟩ 1 1 [.bool n,.slice (some ⟨g,0,none⟩) n3 n3] rfl rfl ?_ ?_ (by simp only[maxLen];omega) (by omega) ?_ ?_;exact Yw _ _ _ _;exact Yx _ _ _ _;exact m_.out.2.size;intro v4 w4 S5 hg4 aly)
   obtain⟨b1,b2⟩:=m_.out;obtain⟨r1,r2,r3,r4,r5,r6,r7,r8⟩:=HR.out;have jg:=dz Dw.out hg4;refine⟨⟨k+1,rs++[(.bool n,.slice (some ⟨g,0,none⟩) n3 n3)],by omega,by go_num,⟨by rw[XQ];exact S5,by simp[lH.out.len],?_,?_⟩⟩,by simp[intOf];omega⟩
   ·intro j p q hj hp hq
    by_cases e:j=k
    ·subst e
     rw[HP.out]at hp
     cases hp;rw[List.getElem?_append_right (by rw[lH.out.len];exact Nat.le_refl _),lH.out.len,Nat.sub_self]at hq
     cases hq;have hk3:cK (w3.alloc (.cells #[.bool n,.slice (some ⟨g,0,none⟩) n3 n3] 151)) g r:=r4.below ((Below.refl _ _).alloc (Nat.le_refl _) _) r4.lt;refine⟨rfl,g,n3,r,rfl,?_,r2,r3,?_,r5,r6,r7⟩
     ·have:=dD.out.size
      have:=lH.out.below.size;simp at *;omega
     ·have:=jg g r hk3
      obtain⟨cur,hc,h⟩:=hk3;exact⟨cur,this.trans hc,h⟩
    ·rw[List.getElem?_append_left (by rw[lH.out.len];omega)]at hq
     exact((lH.out.ok j p q (by omega) hp hq).keep (Yy b1)).keep jg
   ·refine b2.trans ?_
    exact⟨hg4.os,hg4.tape,hg4.output,hg4.size,fun i hi=>hg4.block i (by have:=b2.size;omega) (fun e=>by
     rcases Dw.out.2 with ⟨e2,_⟩|⟨g',cap,cur,e2,hg',_⟩
     ·rw[e2]at e;simp[Value.ownBlock]at e
     ·rw[e2]at e;simp[Value.ownBlock]at e;omega)⟩
  ·have he:k=b:=by omega
   subst he;have h1:decide ((k:Int)<(m:Int))=true:=by simp;omega
   obtain⟨a1,a2⟩:=HA.out k nb sb Uh.out.1;have a1':=(hI.below.cell (World.block_lt_of_cell? w _ a1)).trans a1;have a2':=(hI.below.cell (World.block_lt_of_cell? w _ a2)).trans a2;have hcc:=Lib.hid (Mo nb sb);have hz1:(gN nb sb==0)=false:=beq_eq_false_iff_ne.mpr Uh.out.2;have hz2:(gN nb sb != 0)=true:=bne_iff_ne.mpr Uh.out.2;have lH:=Lib.hid hI;clear a1 a2 hI;go_wp2_with fail
   refine(hcc.out _).mono ?_;rintro e w2 ⟨rfl,hb2⟩;have dD:=Lib.hid hb2;clear hb2;go_wp2
   go_ret2
   exact⟨rfl,lH.out.below.trans ((((Below.refl _ _).alloc (Nat.le_refl _) _).trans (dD.out.mono (by simp))).mono lH.out.below.size)⟩
end Go.Proofs.YtfcjnhkkfmgmpaaGreat
