import Derived.Test.YtfcjnhkkfmgmpaaGreatZrG7
import Derived.Laws.IdiomStrings
set_option linter.all false
set_option maxRecDepth 100000
set_option maxHeartbeats 8000000
namespace Go.Proofs.YtfcjnhkkfmgmpaaGreat
open Go.RowKit Num
def BlkB (w:World) (g:Nat) (l:List Int):Prop:=∃ cur:Array Value,w.heap[g]?=some (.cells cur 5 (0,0))∧l.length≤cur.size∧∀ j,j<l.length→cur[j]?=some (.int .u8 (lg l j))
theorem BlkB.cell {w:World} {g:Nat} {l:List Int} (h:BlkB w g l) (j:Nat) (hj:j<l.length):w.cell? ⟨g,j,none⟩=some (.int .u8 (lg l j)):=by
 obtain⟨cur,h,_,hc⟩:=h;unfold World.cell?;rw[show w.heap[(⟨g,j,none⟩:Addr).block]?=_ from h];simpa using hc j hj
theorem BlkB.free {w:World} {g:Nat} {l:List Int} (h:BlkB w g l) (j:Nat):w.frozen? ⟨g,j,none⟩=false:=by
 obtain⟨cur,h,_,hc⟩:=h;unfold World.frozen?;rw[show w.heap[(⟨g,j,none⟩:Addr).block]?=_ from h];simp
theorem BlkB.set {w:World} {g:Nat} {l:List Int} (h:BlkB w g l) (j:Nat) (x:Int):BlkB (w.setCell ⟨g,j,none⟩ (.int .u8 x)) g (l.set j x):=by
 obtain⟨cur,h,hl,hc⟩:=h;refine⟨cur.setIfInBounds j (.int .u8 x),by simp[World.setCell,Array.getElem?_modify,h],by simpa using hl,fun k hk=>?_⟩;rw[List.length_set]at hk
 rw[lg_set,Array.getElem?_setIfInBounds];by_cases e:j=k
 ·subst e
  rw[if_pos rfl,if_pos (by omega),if_pos ⟨rfl,hk⟩]
 ·rw[if_neg e,if_neg (by omega)]
  exact hc k hk
theorem u8_info:(Tryz.prog.info? 5).map (fun i=>(i.zero,i.size,i.bytes))=some (some (.int .u8 0),1,1):=by kernel_rfl
theorem make_runB (n:Nat) (hn:n≤100000) (w:World):(Instr.makeSlice 138 (.int .i64 (n:Int)) (.int .i64 (n:Int))).run Tryz.prog w = .ok (.slice (some ⟨w.heap.size,0,none⟩) n n) (w.alloc (.cells (madeCells #[.int .u8 0] n) 5)) :=
 run_make_row' 138 5 (.int .u8 0) 1 Tryz.underlying138 u8_info (by kernel_rfl) .i64 .i64 n (by omega) (by omega) w
theorem made_blkB (w:World) (n:Nat):BlkB (w.alloc (.cells (madeCells #[.int .u8 0] n) 5)) w.heap.size (List.replicate n 0):=by
 refine⟨madeCells #[.int .u8 0] n,?_,by rw[size_madeCells];simp,fun j hj=>?_⟩
 ·rw[show(w.alloc (.cells (madeCells #[.int .u8 0] n) 5)).heap=w.heap.push (.cells (madeCells #[.int .u8 0] n) 5) from rfl,Array.getElem?_push_size]
 ·rw[lg_replicate]
  rw[List.length_replicate]at hj
  have:(madeCells #[.int .u8 0] n).toList[j]?=some (.int .u8 0):=by rw[toList_madeCells_one];simp[hj]
  simpa using this
theorem BlkB.text {w:World} {g n c:Nat} {l:List Int} (h:BlkB w g l) (hl:l.length=n) (hb:∀ j,0≤lg l j∧lg l j<256) :
  (convert 138 36 (.slice (some ⟨g,0,none⟩) n c)).run Tryz.prog w = .ok (.string ⟨(l.map fun x=>UInt8.ofNat x.toNat).toArray⟩) w:=by
 have:=run_convert_bytes_back (P:=Tryz.prog) w 138 36 5 ⟨g,0,none⟩ c (l.map fun x=>UInt8.ofNat x.toNat) Tryz.underlying138 Tryz.underlying5 Tryz.underlying36 (fun j hj=>by
  rw[List.length_map]at hj
  have hc:=h.cell j hj;rw[show(⟨g,0,none⟩:Addr).add j=⟨g,j,none⟩ by unfold Addr.add;split <;> simp_all,hc];have hx:lg l j=l[j]:=by unfold lg;rw[List.getD_eq_getElem?_getD,List.getElem?_eq_getElem hj];rfl
  have:=hb j;rw[List.getElem_map,ofNat_toNat_lt (by rw[hx]at this;omega),← hx];congr 2
  omega)
 rw[List.length_map,hl]at this
 exact this
structure NatW (g N:Nat) (v:Int) (w:World) (k:Nat) (b:List Int) (w1:World):Prop where
 blk:BlkB w1 g b
 len:b.length=N
 bd:∀ j,0≤lg b j∧lg b j<256
 val:∀ i,i<k→lg b (N-1-i)=dgt v i
 only:Only g w w1
theorem NatW.text {g N:Nat} {v:Int} {w:World} {b:List Int} {w1:World} (h:NatW g N v w N b w1) (hN:nb v=N):(⟨(b.map fun x=>UInt8.ofNat x.toNat).toArray⟩:ByteArray)=encN v:=by
 unfold encN;rw[hN];congr 2
 apply List.ext_getElem
 ·simp[h.len]
 ·intro i h1 h2
  rw[List.length_map,h.len]at h1
  have hv:=h.val (N-1-i) (by omega);rw[show N-1-(N-1-i)=i by omega]at hv
  have hx:lg b i=b[i]'(by rw[h.len];exact h1):=by unfold lg;rw[List.getD_eq_getElem?_getD,List.getElem?_eq_getElem (by rw[h.len];exact h1)];rfl
  rw[hx]at hv
  simp[hv]
theorem nat_c (A0:Option Addr) (n c0:Nat) (l:List Int) (hn:l.length=n) (hn4:n≤4000) (hc0:n≤c0) (w:World) (ha:RL w A0 l) (hla:Lim l) :
  Calls Tryz.prog 135 #[.slice A0 n c0] w fun e w'=>e = .returned (.tuple #[.string (encN (lv l)),.int .i64 0])∧Below w.heap.size w w':=by
 have hb0:Below w.heap.size w (w.alloc (.cells #[.slice A0 n c0] 124)):=(Below.refl _ _).alloc (Nat.le_refl _) _;have HA1:=Lib.hid (ha.below hb0 (Nat.le_refl _));have HN:=Lib.hid hn;have hpl:=take_trim_len l;have hva:=lv_trim l;have htr:=Tr_trim l;rw[hn]at hpl hva htr
 have hp4:=trimN_le l n;have hlx:=hla.take (trimN l n);have hxr:=HA1.out.take (trimN l n);have hb0':=hb0;rw[← hva];generalize hx:l.take (trimN l n)=x at *;generalize hp:trimN l n=p at *;have HTA:=Lib.hid hp;have HS:=Lib.hid hb0;clear ha hn hla hb0 hx hp hva;cases p with
 | zero =>
  have hx0:lv x=0:=by unfold lv;rw[hpl];rfl
  have HX0:=Lib.hid hx0;clear hx0 hpl htr hlx hxr;go_enter Tryz.func135,Tryz.ntmps135;go_wp2_with fail
  refine(long1 _ _ _ _ hn4).mono ?_;rintro e w' ⟨rfl,rfl⟩;go_wp2_with fail
  refine(trimmed_c _ _ _ l HN.out hc0 _ HA1.out).mono ?_;rintro e w5 ⟨rfl,⟨nd,rfl⟩⟩;rw[HTA.out];go_wp2
  go_ret2
  rw[HX0.out,encN_zero];exact⟨rfl,bdrN HS.out _⟩
 | succ p =>
  have htop:0<lg x p∧lg x p<B:=by
   have:=hlx p;rcases htr with h|h
   ·omega
   ·rw[hpl]at h
    exact⟨by have:lg x p≠0:=h;omega,this.2⟩
  obtain⟨s,hs,hs63,hs1,hs2⟩:=lz_spec (lg x p) htop.1 htop.2;have hnb:=nb_lv hlx hpl hs63 hs1 hs2;obtain⟨N,hN⟩:∃ N,8*(p+1)-s / 8=N:=⟨_,rfl⟩
  rw[hN]at hnb
  obtain⟨ad,rfl,hc⟩:=hxr.2 (by omega);have hct:=hc p (by omega);have HLZ:=Lib.hid (lz_c (lg x p) ⟨by omega,htop.2⟩);have hmk:=make_runB N (by omega);have HXR:=Lib.hid hxr;have HSZ:=Lib.hid hs;have HNB:=Lib.hid hnb;have HLX:=Lib.hid (And.intro hlx hpl);have hz1:((p:Int)+1==0)=false:=beq_eq_false_iff_ne.mpr (by omega);have a1:((p:Int)+1)*8-(s:Int) / 8=(N:Int):=by omega
  have HN8:=Lib.hid hN;clear hs hs1 hs2 hnb hxr hlx hpl htr htop hc hN;go_enter Tryz.func135,Tryz.ntmps135;go_wp2_with fail
  refine(long1 _ _ _ _ hn4).mono ?_;rintro e w' ⟨rfl,rfl⟩;go_wp2_with fail
  refine(trimmed_c _ _ _ l HN.out hc0 _ HA1.out).mono ?_;rintro e w5 ⟨rfl,⟨nd,rfl⟩⟩;rw[HTA.out];go_wp2_with fail
  refine(HLZ.out _).mono ?_;rintro e w5 ⟨rfl,rfl⟩;rw[HSZ.out];go_wp2
  have hb1:Below (w.heap.size+1) ((w.alloc (.cells #[.slice (some ad) n c0] 124)).drewN nd) (((w.alloc (.cells #[.slice (some ad) n c0] 124)).drewN nd).alloc (.cells (madeCells #[.int .u8 0] N) 5)):=(Below.refl _ _).alloc (by simp) _;have hk0:=made_blkB ((w.alloc (.cells #[.slice (some ad) n c0] 124)).drewN nd) N;rw[show((w.alloc (.cells #[.slice (some ad) n c0] 124)).drewN nd).heap.size=w.heap.size+1 by simp]at hk0
  have hx1:=(HXR.out.drN nd).below hb1 (by simp);have hxg:ad.block≠w.heap.size+1:=Nat.ne_of_lt (by have:=HXR.out.lt (by rw[HLX.out.2];omega) ad rfl;simpa using this);have hbw:=(bdrN HS.out nd).trans (hb1.mono (by omega));have HG:w.heap.size≤w.heap.size+1:=by omega
  generalize hw3:((w.alloc (.cells #[.slice (some ad) n c0] 124)).drewN nd).alloc (.cells (madeCells #[.int .u8 0] N) 5)=w3 at *;generalize w.heap.size+1=g at *;have H0:=Lib.hid (show NatW g N (lv x) w3 0 (List.replicate N 0) w3 from ⟨hk0,by simp,fun j=>by rw[lg_replicate];exact⟨Int.le_refl _,by decide⟩,fun i h=>by omega,Only.refl _ _⟩);have HX:=Lib.hid hx1;have HXG:=Lib.hid hxg;have HBW:=Lib.hid hbw;clear hk0 hx1 hxg hb1 hbw hw3 hmk hct a1 hz1;go_loopw [6,30] (fun _ t w1=>∃ (k:Nat) (b:List Int),k≤N∧t = .int .i64 k∧NatW g N (lv x) w3 k b w1) (fun _ t _=>N-(intOf t).toNat)
  case atStart=>exact⟨0,_,Nat.zero_le _,rfl,H0.out⟩
  case round =>
   obtain⟨k,b,hk,rfl,hI⟩:=hrel;by_cases hlt:k<N
   ·have h1:decide ((k:Int)<(N:Int))=true:=by simp;omega
    obtain⟨q8,hq8⟩:∃ q8,k / 8=q8:=⟨_,rfl⟩
    obtain⟨e8,he8⟩:∃ e8,8*(k%8)=e8:=⟨_,rfl⟩
    obtain⟨j,hj⟩:∃ j,j=N-1-k:=⟨_,rfl⟩
    have hq:q8<p+1:=by have:=HN8.out;omega
    obtain⟨ad',had,hcl⟩:=(HX.out.only hI.only (fun _ ad' e=>by cases e;exact HXG.out)).2 (by rw[HLX.out.2];omega);cases had;have hc2:=hcl q8 (by rw[HLX.out.2];exact hq);have hce:=hI.blk.cell j (by rw[hI.len];omega);have hfr:=hI.blk.free j;have hd:lg x q8 / 2^e8%256=dgt (lv x) k:=by rw[dgt_lv HLX.out.1,hq8,Y2,he8]
    have HD:=Lib.hid hd;have HI:=Lib.hid hI;have HJ:=Lib.hid (And.intro hj hk);have a0:(k:Int) / 8=(q8:Int):=by omega
    have a2:(N:Int)-1-(k:Int)=(j:Int):=by omega
    have a3:8*((k:Int)%8)=(e8:Int):=by omega
    have hjN:j<N:=by omega
    have hN9:N≤40000:=by have:=HN8.out;omega
    have hq9:q8<p+1:=by omega
    have he64:e8≤64:=by omega
    clear hI hcl hd hj hk hq8 he8 hq;go_wp2
    rw[HD.out];obtain⟨hj,hk⟩:=HJ.out;refine⟨⟨k+1,_,by omega,by go_num,⟨HI.out.blk.set _ _,by rw[List.length_set];exact HI.out.len,?_,?_,HI.out.only.set _ _⟩⟩,by simp[intOf];omega⟩
    ·intro t
     rw[lg_set];split
     ·exact dgt_bd _ _
     ·exact HI.out.bd t
    ·intro t ht
     rw[lg_set];by_cases e:t=k
     ·subst e
      rw[if_pos ⟨hj,by rw[HI.out.len];omega⟩]
     ·rw[if_neg (by omega)]
      exact HI.out.val t (by omega)
   ·have he:k=N:=by omega
    subst he;have h1:decide ((k:Int)<(k:Int))=false:=by simp
    have hcv:=hI.blk.text (c:=k) hI.len hI.bd;rw[hI.text HNB.out]at hcv
    have hbl:Below w.heap.size w wr:=Only.below HBW.out hI.only HG;have HBL:=Lib.hid hbl;clear hI hbl;go_wp2
    go_ret2
    exact⟨rfl,HBL.out⟩
def chk (n:Bool) (s:ByteArray):Int:=if 32000<s.size then 5 else if 0<s.size∧byt s (s.size-1)=0 then 1 else if n=true∧s.size=0 then 1 else 0
def okI (n:Bool) (s:ByteArray):Prop:=s.size≤32000∧Canon s∧(n=true→0<s.size)
theorem chk_ok {n:Bool} {s:ByteArray}:chk n s=0↔okI n s:=by
 unfold chk okI Canon;constructor
 ·intro h
  split at h
  ·omega
  ·split at h
   ·omega
   ·split at h
    ·omega
    ·rename_i h1 h2 h3
     refine⟨by omega,fun h0 hz=>h2 ⟨h0,hz⟩,fun hn=>?_⟩;rcases Nat.eq_zero_or_pos s.size with h0|h0
     ·exact absurd ⟨hn,h0⟩ h3
     ·exact h0
 ·rintro⟨h1,h2,h3⟩
  rw[if_neg (by omega),if_neg (fun h=>h2 h.1 h.2),if_neg (fun h=>by have:=h3 h.1;omega)]
theorem check_c (n:Bool) (s:ByteArray) (w:World) :
  Calls Tryz.prog 107 #[.agg #[.bool n,.string s]] w fun e w'=>e = .returned (.int .i64 (chk n s))∧Below w.heap.size w w':=by
 have hu:=Tryz.underlying38;have hb0:Below w.heap.size w (w.alloc (.cells #[.bool n,.string s] 38)):=(Below.refl _ _).alloc (Nat.le_refl _) _;have HS:=Lib.hid hb0;clear hb0;unfold chk;by_cases h1:32000<s.size
 ·rw[if_pos h1]
  have HO:=Lib.hid (of_limit s h1);clear h1;go_enter Tryz.func107,Tryz.ntmps107;go_wp2_with fail
  refine(HO.out _).mono ?_;rintro e w' ⟨rfl,rfl⟩;go_wp2
  go_ret
  exact⟨rfl,HS.out⟩
 ·rw[if_neg h1]
  by_cases h2:0<s.size∧byt s (s.size-1)=0
  ·rw[if_pos h2]
   have HO:=Lib.hid (of_arg s h2.1 (by omega) h2.2);clear h1 h2;go_enter Tryz.func107,Tryz.ntmps107;go_wp2_with fail
   refine(HO.out _).mono ?_;rintro e w' ⟨rfl,rfl⟩;go_wp2
   go_ret
   exact⟨rfl,HS.out⟩
  ·rw[if_neg h2]
   have HO:=Lib.hid (of_ok s (by omega) (fun h0 hz=>h2 ⟨h0,hz⟩));clear h1 h2;cases n with
   | false =>
    rw[if_neg (by simp)];go_enter Tryz.func107,Tryz.ntmps107;go_wp2_with fail
    refine(HO.out _).mono ?_;rintro e w' ⟨x,r,rfl,hr1,hr2,hr3,hr4,hr5⟩;have hce:=hr5.cell (p:=⟨w.heap.size,0,none⟩) (by simp);have hce1:=hr5.cell (p:=⟨w.heap.size,1,none⟩) (by simp);have hbl:=HS.out.trans (hr5.mono (by simp));have HBL:=Lib.hid hbl;clear hr1 hr2 hr3 hr4 hr5 hbl;go_wp2
    go_ret
    exact⟨rfl,HBL.out⟩
   | true =>
    by_cases h0:s.size=0
    ·obtain⟨t1,t2⟩:=toList_nil h0
     rw[if_pos ⟨rfl,h0⟩];clear h0;go_enter Tryz.func107,Tryz.ntmps107;go_wp2_with fail
     refine(HO.out _).mono ?_;rintro e w' ⟨x,r,rfl,hr1,hr2,hr3,hr4,hr5⟩;have hce:=hr5.cell (p:=⟨w.heap.size,0,none⟩) (by simp);have hce1:=hr5.cell (p:=⟨w.heap.size,1,none⟩) (by simp);have hbl:=HS.out.trans (hr5.mono (by simp));have HBL:=Lib.hid hbl;clear hr1 hr2 hr3 hr4 hr5 hbl;go_wp2
     go_ret
     exact⟨rfl,HBL.out⟩
    ·obtain⟨t1,t2⟩:=toList_ne (by omega:0<s.size)
     rw[if_neg (fun h=>h0 h.2)];clear h0;go_enter Tryz.func107,Tryz.ntmps107;go_wp2_with fail
     refine(HO.out _).mono ?_;rintro e w' ⟨x,r,rfl,hr1,hr2,hr3,hr4,hr5⟩;have hce:=hr5.cell (p:=⟨w.heap.size,0,none⟩) (by simp);have hce1:=hr5.cell (p:=⟨w.heap.size,1,none⟩) (by simp);have hbl:=HS.out.trans (hr5.mono (by simp));have HBL:=Lib.hid hbl;clear hr1 hr2 hr3 hr4 hr5 hbl;go_wp2
     go_ret
     exact⟨rfl,HBL.out⟩
theorem num_info:(Tryz.prog.info? 151).map (fun i=>(i.zero,i.size,i.bytes))=some (some (.agg #[.bool false,.slice none 0 0]),2,32):=by kernel_rfl
def AskAt (w:World) (ad:Addr) (xs:List (Bool × ByteArray)):Prop:=∀ j n s,xs[j]?=some (n,s)→w.cell? (ad.add (j*2))=some (.bool n)∧w.cell? ⟨(ad.add (j*2)).block,(ad.add (j*2)).off+1,none⟩=some (.string s)
def NumOk (base:Nat) (w:World) (p:Bool × ByteArray) (v:Value × Value):Prop:=v.1 = .bool p.1∧∃ g n r,v.2 = .slice (some ⟨g,0,none⟩) n n∧base≤g∧r.length=n∧n≤4000∧Blk w g r∧Lim r∧Tr r∧lv r=nv p.2
theorem NumOk.keep {base:Nat} {w w':World} {p:Bool × ByteArray} {v:Value × Value} (h:NumOk base w p v) (hk:∀ g l,Blk w g l→w'.heap[g]?=w.heap[g]?):NumOk base w' p v:=by
 obtain⟨h1,g,n,r,h2,hb,h3,h4,h5,h6⟩:=h;refine⟨h1,g,n,r,h2,hb,h3,h4,?_,h6⟩;have:=hk g r h5;obtain⟨cur,hc,h⟩:=h5;exact⟨cur,this.trans hc,h⟩
def flat (l:List (Value × Value)):List Value:=l.flatMap fun p=>[p.1,p.2]
theorem flat_snoc (l:List (Value × Value)) (p:Value × Value):flat (l++[p])=flat l++[p.1,p.2]:=by simp[flat]
theorem own_below {w w1:World} {base:Nat} {e:TypeId} {size n:Nat} {v:Value} {xs:List Value} (h:w.ownsRow base e size v n xs) (hb:Below w.heap.size w w1):w1.ownsRow base e size v n xs :=
 h.kept (row:=none) ⟨hb.os,hb.tape,hb.output,hb.size,fun i hi _=>hb.block i hi⟩ (by cases v.ownBlock <;> simp)
theorem own_type {w:World} {base:Nat} {e:TypeId} {size n:Nat} {v:Value} {xs:List Value} (h:w.ownsRow base e size v n xs) (k:Nat) (hk:v.ownBlock=some k):∃ cells,w.heap[k]?=some (.cells cells e (0,0)):=by
 rcases h.2 with ⟨rfl,_⟩|⟨g,cap,cur,rfl,hg,hh,r⟩
 ·simp[Value.ownBlock]at hk
 ·have:g=k:=by simpa [Value.ownBlock] using hk
  subst this;exact⟨cur,hh⟩
theorem two_new (w:World) (a b:Value) (t:TypeId):∀ j u,[a,b][j]?=some u→(w.alloc (.cells #[a,b] t)).cell? ((⟨w.heap.size,0,none⟩:Addr).add j)=some u:=by
 intro j u h;match j,h with
 | 0,h=>simp at h;subst h;simp[Addr.add,go_sem]
 | 1,h=>simp at h;subst h;simp[Addr.add,go_sem]
 | j+2,h=>simp at h
theorem two_one (n:Bool) (A:Option Addr) (l c:Nat):∀ u∈[Value.bool n,Value.slice A l c],u.oneCell'=true:=by
 intro u h;simp at h;rcases h with rfl|rfl <;> rfl
theorem blk_far {w w':World} {base n:Nat} {v:Value} {xs:List Value} {size:Nat} (ho:w.ownsRow base 151 size v n xs) (hg:w.grownBy w' v.ownBlock):∀ g l,Blk w g l→w'.heap[g]?=w.heap[g]?:=by
 intro g l hb;refine hg.block g hb.lt ?_;intro e;obtain⟨cells,hc⟩:=own_type ho g e.symm;obtain⟨cur,hh,_⟩:=hb;rw[hc]at hh
 injection hh with hh
 injection hh with _ ht
 revert ht
 decide
theorem blk_bel {w w':World} (hb:Below w.heap.size w w'):∀ g l,Blk w g l→w'.heap[g]?=w.heap[g]?:=fun g l h=>hb.block g h.lt
structure ReadW (base:Nat) (xs:List (Bool × ByteArray)) (w:World) (k:Nat) (v:Value) (rs:List (Value × Value)) (w1:World):Prop where
 own:w1.ownsRow base 151 2 v k (flat rs)
 len:rs.length=k
 ok:∀ j p q,j<k→xs[j]?=some p→rs[j]?=some q→NumOk base w1 p q
 below:Below w.heap.size w w1
theorem read_ok (ad:Addr) (xs:List (Bool × ByteArray)) (m c:Nat) (hm:xs.length=m) (hm4:m≤100) (w:World) (ha:AskAt w ad xs) (hok:∀ p∈xs,okI p.1 p.2) :
  Calls Tryz.prog 117 #[.slice (some ad) m c] w fun e w'=>∃ v rs,e = .returned (.tuple #[v,.int .i64 0])∧ReadW w.heap.size xs w m v rs w':=by
 obtain⟨i0,hi0,hz0,hz1,hz2⟩:=info_parts num_info;have HM:=Lib.hid hm;have HA:=Lib.hid ha;have HOK:=Lib.hid hok;have HI:=Lib.hid (And.intro hi0 (And.intro hz0 (And.intro hz1 hz2)));clear hm ha hok hi0 hz0 hz1 hz2;have hu:=Tryz.underlying38;go_enter Tryz.func117,Tryz.ntmps117;go_wp2
 go_loopw [4,6,7,8,9,12] (fun v _ _ _ _ t w1=>∃ (k:Nat) (rs:List (Value × Value)),k≤m∧t = .int .i64 k∧ReadW w.heap.size xs w k v rs w1) (fun _ _ _ _ _ t _=>m-(intOf t).toNat)
 case atStart=>exact⟨0,[],Nat.zero_le _,rfl,⟨⟨rfl,.inl ⟨rfl,rfl⟩⟩,rfl,fun j p q h=>by omega,Below.refl _ _⟩⟩
 case round =>
  obtain⟨k,rs,hk,rfl,hI⟩:=hrel;by_cases hlt:k<m
  ·have h1:decide ((k:Int)<(m:Int))=true:=by simp;omega
   have hkx:k<xs.length:=by rw[HM.out];exact hlt
   obtain⟨n,s,hp⟩:∃ n s,xs[k]?=some (n,s):=⟨_,_,List.getElem?_eq_getElem hkx⟩
   obtain⟨a1,a2⟩:=HA.out k n s hp;have hblk:=World.block_lt_of_cell? w _ a1;have a1':=(hI.below.cell hblk).trans a1;have a2':=(hI.below.cell (World.block_lt_of_cell? w _ a2)).trans a2;have hokk:=HOK.out (n,s) (List.mem_of_getElem? hp);have hck:=chk_ok.mpr hokk;have hcc:=Lib.hid (check_c n s);have hof:=Lib.hid (of_blk s hokk.1 hokk.2.1);have HII:=Lib.hid hI;have HP:=Lib.hid hp;have HCK:=Lib.hid hck;clear a1 a2 hI hp hck hokk hblk hkx;go_wp2_with fail
   refine(hcc.out _).mono ?_;rintro e w2 ⟨rfl,hb2⟩;rw[HCK.out];have c1:=hb2.cell (p:=⟨wr.heap.size,0,none⟩) (by simp);have c2:=hb2.cell (p:=⟨wr.heap.size,1,none⟩) (by simp);have HB2:=Lib.hid hb2;clear hb2;go_wp2_with fail
   refine(hof.out _).mono ?_;rintro e w3 ⟨g,n3,r,rfl,hg,hrl,hn3,hkr,hlr,htr,hvr,hb3⟩;have hsz2:=HB2.out.size;simp at hsz2;have c3:=(hb3.cell (p:=⟨wr.heap.size,0,none⟩) (by simp;omega)).trans c1;have c4:=(hb3.cell (p:=⟨wr.heap.size,1,none⟩) (by simp;omega)).trans c2;have HR:=Lib.hid (And.intro hg (And.intro hrl (And.intro hn3 (And.intro hkr (And.intro hlr (And.intro htr (And.intro hvr hb3)))))));clear c1 c2 hg hrl hn3 hkr hlr htr hvr hb3;have hbw:Below wr.heap.size wr (w3.alloc (.cells #[.bool n,.slice (some ⟨g,0,none⟩) n3 n3] 151)):=by
    have h1:Below wr.heap.size wr w2:=((Below.refl _ _).alloc (Nat.le_refl _) _).trans (HB2.out.mono (by simp));have h2:=h1.trans (HR.out.2.2.2.2.2.2.2.mono h1.size);exact h2.alloc h2.size _
   have hown:=own_below HII.out.own hbw;have hsz3:=hbw.size;have hbw0:=HII.out.below.trans (hbw.mono HII.out.below.size);have HOWN:=Lib.hid hown;have HBW:=Lib.hid (And.intro hbw hbw0);clear hbw hown hbw0 hsz3;go_wp2_with (at_builtin;refine wpList_append_own _ rfl (.tmp 27) (.tmp 32) 147 rfl w.heap.size 151 i0 (.agg #[.bool false,.slice none 0 0]) 2 32 Tryz.underlying147 HI.out.1 HI.out.2.1 HI.out.2.2.1 HI.out.2.2.2 rfl (by omega) u4 k (flat rs) rfl HOWN.out ⟨w3.heap.size,0,none⟩ 1 1 [.bool n,.slice (some ⟨g,0,none⟩) n3 n3] rfl rfl ?_ ?_ (by simp only[maxLen];omega) (by omega) ?_ ?_;exact two_new _ _ _ _;exact two_one _ _ _ _;exact HBW.out.2.size;intro v4 w4 hown4 hg4 hiff4)
   obtain⟨b1,b2⟩:=HBW.out;obtain⟨r1,r2,r3,r4,r5,r6,r7,r8⟩:=HR.out;have hfar:=blk_far HOWN.out hg4;refine⟨⟨k+1,rs++[(.bool n,.slice (some ⟨g,0,none⟩) n3 n3)],by omega,by go_num,⟨by rw[flat_snoc];exact hown4,by simp[HII.out.len],?_,?_⟩⟩,by simp[intOf];omega⟩
   ·intro j p q hj hp hq
    by_cases e:j=k
    ·subst e
     rw[HP.out]at hp
     cases hp;rw[List.getElem?_append_right (by rw[HII.out.len];exact Nat.le_refl _),HII.out.len,Nat.sub_self]at hq
     cases hq;have hk3:Blk (w3.alloc (.cells #[.bool n,.slice (some ⟨g,0,none⟩) n3 n3] 151)) g r:=r4.below ((Below.refl _ _).alloc (Nat.le_refl _) _) r4.lt;refine⟨rfl,g,n3,r,rfl,?_,r2,r3,?_,r5,r6,r7⟩
     ·have:=HB2.out.size
      have:=HII.out.below.size;simp at *;omega
     ·have:=hfar g r hk3
      obtain⟨cur,hc,h⟩:=hk3;exact⟨cur,this.trans hc,h⟩
    ·rw[List.getElem?_append_left (by rw[HII.out.len];omega)]at hq
     exact((HII.out.ok j p q (by omega) hp hq).keep (blk_bel b1)).keep hfar
   ·refine b2.trans ?_
    exact⟨hg4.os,hg4.tape,hg4.output,hg4.size,fun i hi=>hg4.block i (by have:=b2.size;omega) (fun e=>by
     rcases HOWN.out.2 with ⟨e2,_⟩|⟨g',cap,cur,e2,hg',_⟩
     ·rw[e2]at e;simp[Value.ownBlock]at e
     ·rw[e2]at e;simp[Value.ownBlock]at e;omega)⟩
  ·have he:k=m:=by omega
   have h1:decide ((k:Int)<(m:Int))=false:=by simp;omega
   subst he;have HII:=Lib.hid hI;clear hI;go_wp2
   go_ret2
   exact⟨_,rs,rfl,HII.out⟩
theorem read_bad (ad:Addr) (xs:List (Bool × ByteArray)) (m c:Nat) (hm:xs.length=m) (hm4:m≤100) (w:World) (ha:AskAt w ad xs) (b:Nat) (nb:Bool) (sb:ByteArray) (hb:xs[b]?=some (nb,sb)) (hbad:chk nb sb≠0) (hok:∀ j p,j<b→xs[j]?=some p→okI p.1 p.2) :
  Calls Tryz.prog 117 #[.slice (some ad) m c] w fun e w'=>e = .returned (.tuple #[.slice none 0 0,.int .i64 (chk nb sb)])∧Below w.heap.size w w':=by
 obtain⟨i0,hi0,hz0,hz1,hz2⟩:=info_parts num_info;have HM:=Lib.hid hm;have HA:=Lib.hid ha;have HOK:=Lib.hid hok;have hbm:b<m:=by rw[← hm];exact(List.getElem?_eq_some_iff.1 hb).1
 have HBAD:=Lib.hid (And.intro hb hbad);have HI:=Lib.hid (And.intro hi0 (And.intro hz0 (And.intro hz1 hz2)));clear hb hbad hm ha hok hi0 hz0 hz1 hz2;have hu:=Tryz.underlying38;go_enter Tryz.func117,Tryz.ntmps117;go_wp2
 go_loopw [4,6,7,8,9,12] (fun v _ _ _ _ t w1=>∃ (k:Nat) (rs:List (Value × Value)),k≤b∧t = .int .i64 k∧ReadW w.heap.size xs w k v rs w1) (fun _ _ _ _ _ t _=>m-(intOf t).toNat)
 case atStart=>exact⟨0,[],Nat.zero_le _,rfl,⟨⟨rfl,.inl ⟨rfl,rfl⟩⟩,rfl,fun j p q h=>by omega,Below.refl _ _⟩⟩
 case round =>
  obtain⟨k,rs,hk,rfl,hI⟩:=hrel;by_cases hlt:k<b
  ·have h1:decide ((k:Int)<(m:Int))=true:=by simp;omega
   have hkm:k<m:=by omega
   have hkx:k<xs.length:=by rw[HM.out];exact hkm
   obtain⟨n,s,hp⟩:∃ n s,xs[k]?=some (n,s):=⟨_,_,List.getElem?_eq_getElem hkx⟩
   obtain⟨a1,a2⟩:=HA.out k n s hp;have hblk:=World.block_lt_of_cell? w _ a1;have a1':=(hI.below.cell hblk).trans a1;have a2':=(hI.below.cell (World.block_lt_of_cell? w _ a2)).trans a2;have hokk:=HOK.out k (n,s) hlt hp;have hck:=chk_ok.mpr hokk;have hcc:=Lib.hid (check_c n s);have hof:=Lib.hid (of_blk s hokk.1 hokk.2.1);have HII:=Lib.hid hI;have HP:=Lib.hid hp;have HCK:=Lib.hid hck;clear a1 a2 hI hp hck hokk hblk hkx;go_wp2_with fail
   refine(hcc.out _).mono ?_;rintro e w2 ⟨rfl,hb2⟩;rw[HCK.out];have c1:=hb2.cell (p:=⟨wr.heap.size,0,none⟩) (by simp);have c2:=hb2.cell (p:=⟨wr.heap.size,1,none⟩) (by simp);have HB2:=Lib.hid hb2;clear hb2;go_wp2_with fail
   refine(hof.out _).mono ?_;rintro e w3 ⟨g,n3,r,rfl,hg,hrl,hn3,hkr,hlr,htr,hvr,hb3⟩;have hsz2:=HB2.out.size;simp at hsz2;have c3:=(hb3.cell (p:=⟨wr.heap.size,0,none⟩) (by simp;omega)).trans c1;have c4:=(hb3.cell (p:=⟨wr.heap.size,1,none⟩) (by simp;omega)).trans c2;have HR:=Lib.hid (And.intro hg (And.intro hrl (And.intro hn3 (And.intro hkr (And.intro hlr (And.intro htr (And.intro hvr hb3)))))));clear c1 c2 hg hrl hn3 hkr hlr htr hvr hb3;have hbw:Below wr.heap.size wr (w3.alloc (.cells #[.bool n,.slice (some ⟨g,0,none⟩) n3 n3] 151)):=by
    have h1:Below wr.heap.size wr w2:=((Below.refl _ _).alloc (Nat.le_refl _) _).trans (HB2.out.mono (by simp));have h2:=h1.trans (HR.out.2.2.2.2.2.2.2.mono h1.size);exact h2.alloc h2.size _
   have hown:=own_below HII.out.own hbw;have hsz3:=hbw.size;have hbw0:=HII.out.below.trans (hbw.mono HII.out.below.size);have HOWN:=Lib.hid hown;have HBW:=Lib.hid (And.intro hbw hbw0);clear hbw hown hbw0 hsz3;go_wp2_with (at_builtin;refine wpList_append_own _ rfl (.tmp 27) (.tmp 32) 147 rfl w.heap.size 151 i0 (.agg #[.bool false,.slice none 0 0]) 2 32 Tryz.underlying147 HI.out.1 HI.out.2.1 HI.out.2.2.1 HI.out.2.2.2 rfl (by omega) u4 k (flat rs) rfl HOWN.out ⟨w3.heap.size,0,none⟩ 1 1 [.bool n,.slice (some ⟨g,0,none⟩) n3 n3] rfl rfl ?_ ?_ (by simp only[maxLen];omega) (by omega) ?_ ?_;exact two_new _ _ _ _;exact two_one _ _ _ _;exact HBW.out.2.size;intro v4 w4 hown4 hg4 hiff4)
   obtain⟨b1,b2⟩:=HBW.out;obtain⟨r1,r2,r3,r4,r5,r6,r7,r8⟩:=HR.out;have hfar:=blk_far HOWN.out hg4;refine⟨⟨k+1,rs++[(.bool n,.slice (some ⟨g,0,none⟩) n3 n3)],by omega,by go_num,⟨by rw[flat_snoc];exact hown4,by simp[HII.out.len],?_,?_⟩⟩,by simp[intOf];omega⟩
   ·intro j p q hj hp hq
    by_cases e:j=k
    ·subst e
     rw[HP.out]at hp
     cases hp;rw[List.getElem?_append_right (by rw[HII.out.len];exact Nat.le_refl _),HII.out.len,Nat.sub_self]at hq
     cases hq;have hk3:Blk (w3.alloc (.cells #[.bool n,.slice (some ⟨g,0,none⟩) n3 n3] 151)) g r:=r4.below ((Below.refl _ _).alloc (Nat.le_refl _) _) r4.lt;refine⟨rfl,g,n3,r,rfl,?_,r2,r3,?_,r5,r6,r7⟩
     ·have:=HB2.out.size
      have:=HII.out.below.size;simp at *;omega
     ·have:=hfar g r hk3
      obtain⟨cur,hc,h⟩:=hk3;exact⟨cur,this.trans hc,h⟩
    ·rw[List.getElem?_append_left (by rw[HII.out.len];omega)]at hq
     exact((HII.out.ok j p q (by omega) hp hq).keep (blk_bel b1)).keep hfar
   ·refine b2.trans ?_
    exact⟨hg4.os,hg4.tape,hg4.output,hg4.size,fun i hi=>hg4.block i (by have:=b2.size;omega) (fun e=>by
     rcases HOWN.out.2 with ⟨e2,_⟩|⟨g',cap,cur,e2,hg',_⟩
     ·rw[e2]at e;simp[Value.ownBlock]at e
     ·rw[e2]at e;simp[Value.ownBlock]at e;omega)⟩
  ·have he:k=b:=by omega
   subst he;have h1:decide ((k:Int)<(m:Int))=true:=by simp;omega
   obtain⟨a1,a2⟩:=HA.out k nb sb HBAD.out.1;have a1':=(hI.below.cell (World.block_lt_of_cell? w _ a1)).trans a1;have a2':=(hI.below.cell (World.block_lt_of_cell? w _ a2)).trans a2;have hcc:=Lib.hid (check_c nb sb);have hz1:(chk nb sb==0)=false:=beq_eq_false_iff_ne.mpr HBAD.out.2;have hz2:(chk nb sb != 0)=true:=bne_iff_ne.mpr HBAD.out.2;have HII:=Lib.hid hI;clear a1 a2 hI;go_wp2_with fail
   refine(hcc.out _).mono ?_;rintro e w2 ⟨rfl,hb2⟩;have HB2:=Lib.hid hb2;clear hb2;go_wp2
   go_ret2
   exact⟨rfl,HII.out.below.trans ((((Below.refl _ _).alloc (Nat.le_refl _) _).trans (HB2.out.mono (by simp))).mono HII.out.below.size)⟩
end Go.Proofs.YtfcjnhkkfmgmpaaGreat
