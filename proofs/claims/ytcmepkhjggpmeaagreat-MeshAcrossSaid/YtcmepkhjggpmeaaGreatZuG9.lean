import Derived.Test.YtcmepkhjggpmeaaGreatZuG8
import Derived.Handy
set_option linter.all false
set_option maxRecDepth 100000
set_option maxHeartbeats 8000000
namespace Go.Proofs.YtcmepkhjggpmeaaGreat
open Go.RowKit aP
theorem X_:(Tryz.prog.info? 143).map (fun i=>(i.zero,i.size,i.bytes))=some (some (.agg #[.bool false,.slice none 0 0]),2,32):=by kernel_rfl
def Tv (w:World) (ad:Addr) (xs:List (Bool × ByteArray)):Prop:=∀ j n s,xs[j]?=some (n,s)->w.cell? (ad.add (j*2))=some (.bool n)/\w.cell? ⟨(ad.add (j*2)).block,(ad.add (j*2)).off+1,none⟩=some (.string s)
def JQ (base:Nat) (w:World) (p:Bool × ByteArray) (v:Value × Value):Prop:=v.1 = .bool p.1/\∃ g n r,v.2 = .slice (some ⟨g,0,none⟩) n n/\base<=g/\r.length=n/\n<=4000/\cO w g r/\aG r/\Tr r/\lv r=nv p.2
theorem JQ.keep {base:Nat} {w w':World} {p:Bool × ByteArray} {v:Value × Value} (h:JQ base w p v) (hk:∀ g l,cO w g l->w'.heap[g]?=w.heap[g]?):JQ base w' p v:=by
 obtain⟨h1,g,n,r,h2,hb,h3,h4,h5,h6⟩:=h;refine⟨h1,g,n,r,h2,hb,h3,h4,?_,h6⟩;have:=hk g r h5;obtain⟨cur,hc,h⟩:=h5;exact⟨cur,this.trans hc,h⟩
def flat (l:List (Value × Value)):List Value:=l.flatMap fun p=>[p.1,p.2]
theorem XR (l:List (Value × Value)) (p:Value × Value):flat (l++[p])=flat l++[p.1,p.2]:=by simp[flat]
theorem XS {w w1:World} {base:Nat} {e:TypeId} {size n:Nat} {v:Value} {xs:List Value} (h:w.ownsRow base e size v n xs) (hb:Below w.heap.size w w1):w1.ownsRow base e size v n xs :=
 h.kept (row:=none) ⟨hb.os,hb.tape,hb.output,hb.size,fun i hi _=>hb.block i hi⟩ (by cases v.ownBlock <;> simp)
theorem ahu {w:World} {base:Nat} {e:TypeId} {size n:Nat} {v:Value} {xs:List Value} (h:w.ownsRow base e size v n xs) (k:Nat) (hk:v.ownBlock=some k):∃ cells,w.heap[k]?=some (.cells cells e (0,0)):=by
 rcases h.2 with ⟨rfl,_⟩|⟨g,cap,cur,rfl,hg,hh,r⟩
 ·simp[Value.ownBlock]at hk
 ·have:g=k:=by simpa [Value.ownBlock] using hk
  subst this;exact⟨cur,hh⟩
theorem YF (w:World) (a b:Value) (t:TypeId):∀ j u,[a,b][j]?=some u->(w.alloc (.cells #[a,b] t)).cell? ((⟨w.heap.size,0,none⟩:Addr).add j)=some u:=by
 intro j u h;match j,h with
 | 0,h=>simp at h;subst h;simp[Addr.add,go_sem]
 | 1,h=>simp at h;subst h;simp[Addr.add,go_sem]
 | j+2,h=>simp at h
theorem YG (n:Bool) (A:Option Addr) (l c:Nat):∀ u∈[Value.bool n,Value.slice A l c],u.oneCell'=true:=by
 intro u h;simp at h;rcases h with rfl|rfl <;> rfl
theorem eB {w w':World} {base n:Nat} {v:Value} {xs:List Value} {size:Nat} (ho:w.ownsRow base 143 size v n xs) (hg:w.grownBy w' v.ownBlock):∀ g l,cO w g l->w'.heap[g]?=w.heap[g]?:=by
 intro g l hb;refine hg.block g hb.lt ?_;intro e;obtain⟨cells,hc⟩:=ahu ho g e.symm;obtain⟨cur,hh,_⟩:=hb;rw[hc]at hh
 injection hh with hh
 injection hh with _ ht
 revert ht
 decide
theorem YH {w w':World} (hb:Below w.heap.size w w'):∀ g l,cO w g l->w'.heap[g]?=w.heap[g]?:=fun g l h=>hb.block g h.lt
structure ReadW (base:Nat) (xs:List (Bool × ByteArray)) (w:World) (k:Nat) (v:Value) (rs:List (Value × Value)) (w1:World):Prop where
 own:w1.ownsRow base 143 2 v k (flat rs)
 len:rs.length=k
 ok:∀ j p q,j<k->xs[j]?=some p->rs[j]?=some q->JQ base w1 p q
 below:Below w.heap.size w w1
theorem aif (ad:Addr) (xs:List (Bool × ByteArray)) (m c:Nat) (hm:xs.length=m) (jL:m<=100) (w:World) (ha:Tv w ad xs) (hok:∀ p∈xs,fC p.1 p.2) :
  Calls Tryz.prog 103 #[.slice (some ad) m c] w fun e w'=>∃ v rs,e = .returned (.tuple #[v,.int .i64 0])/\ReadW w.heap.size xs w m v rs w':=by
 obtain⟨i0,Ct,hz0,hz1,hz2⟩:=info_parts X_;have HM:=Lib.hid hm;have HA:=Lib.hid ha;have Ib:=Lib.hid hok;have HI:=Lib.hid (And.intro Ct (And.intro hz0 (And.intro hz1 hz2)));clear hm ha hok Ct hz0 hz1 hz2;have hu:=Tryz.underlying38;go_enter Tryz.func103,Tryz.ntmps103;go_wp2
 go_loopw [4,6,7,8,9,12] (fun v _ _ _ _ t w1=>∃ (k:Nat) (rs:List (Value × Value)),k<=m/\t = .int .i64 k/\ReadW w.heap.size xs w k v rs w1) (fun _ _ _ _ _ t _=>m-(intOf t).toNat)
 case atStart=>exact⟨0,[],Nat.zero_le _,rfl,⟨⟨rfl,.inl ⟨rfl,rfl⟩⟩,rfl,fun j p q h=>by omega,Below.refl _ _⟩⟩
 case round =>
  obtain⟨k,rs,hk,rfl,hI⟩:=hrel;by_cases hlt:k<m
  ·have h1:decide ((k:Int)<(m:Int))=true:=by simp;omega
   have hkx:k<xs.length:=by rw[HM.out];exact hlt
   obtain⟨n,s,hp⟩:∃ n s,xs[k]?=some (n,s):=⟨_,_,List.getElem?_eq_getElem hkx⟩
   obtain⟨a1,a2⟩:=HA.out k n s hp;have hblk:=World.block_lt_of_cell? w _ a1;have a1':=(hI.below.cell hblk).trans a1;have a2':=(hI.below.cell (World.block_lt_of_cell? w _ a2)).trans a2;have zg:=Ib.out (n,s) (List.mem_of_getElem? hp);have EN:=q9.mpr zg;have hcc:=Lib.hid (Mw n s);have VZ:=Lib.hid (SN s zg.1 zg.2.1);have lu:=Lib.hid hI;have HP:=Lib.hid hp;have EO:=Lib.hid EN;clear a1 a2 hI hp EN zg hblk hkx;go_wp2_with fail
   refine(hcc.out _).mono ?_;rintro e w2 ⟨rfl,hb2⟩;rw[EO.out];have c1:=hb2.cell (p:=⟨wr.heap.size,0,none⟩) (by simp);have c2:=hb2.cell (p:=⟨wr.heap.size,1,none⟩) (by simp);have bV:=Lib.hid hb2;clear hb2;go_wp2_with fail
   refine(VZ.out _).mono ?_;rintro e w3 ⟨g,n3,r,rfl,hg,hrl,pS,hkr,hlr,htr,fD,hb3⟩;have UM:=bV.out.size;simp at UM;have c3:=(hb3.cell (p:=⟨wr.heap.size,0,none⟩) (by simp;omega)).trans c1;have c4:=(hb3.cell (p:=⟨wr.heap.size,1,none⟩) (by simp;omega)).trans c2;have HR:=Lib.hid (And.intro hg (And.intro hrl (And.intro pS (And.intro hkr (And.intro hlr (And.intro htr (And.intro fD hb3)))))));clear c1 c2 hg hrl pS hkr hlr htr fD hb3;have lR:Below wr.heap.size wr (w3.alloc (.cells #[.bool n,.slice (some ⟨g,0,none⟩) n3 n3] 143)):=by
    have h1:Below wr.heap.size wr w2:=((Below.refl _ _).alloc (Nat.le_refl _) _).trans (bV.out.mono (by simp));have h2:=h1.trans (HR.out.2.2.2.2.2.2.2.mono h1.size);exact h2.alloc h2.size _
   have hown:=XS lu.out.own lR;have UN:=lR.size;have Ke:=lu.out.below.trans (lR.mono lu.out.below.size);have zh:=Lib.hid hown;have ni:=Lib.hid (And.intro lR Ke);clear lR hown Ke UN;go_wp2_with (at_builtin;refine wpList_append_own _ rfl (.tmp 27) (.tmp 32) 150 rfl w.heap.size 143 i0 (.agg #[.bool false,.slice none 0 0]) 2 32 Tryz.underlying150 HI.out.1 HI.out.2.1 HI.out.2.2.1 HI.out.2.2.2 rfl aC u4 k (flat rs) rfl zh.out ⟨w3.heap.size,0,none⟩ 1 1 [.bool n,.slice (some ⟨g,0,none⟩) n3 n3] rfl rfl ?_ ?_ (by simp only[maxLen];omega) aC ?_ ?_;exact YF _ _ _ _;exact YG _ _ _ _;exact ni.out.2.size;intro v4 w4 Tw hg4 amP)
   obtain⟨b1,b2⟩:=ni.out;obtain⟨r1,r2,r3,r4,r5,r6,r7,r8⟩:=HR.out;have iY:=eB zh.out hg4;refine⟨⟨k+1,rs++[(.bool n,.slice (some ⟨g,0,none⟩) n3 n3)],by omega,by go_num,⟨by rw[XR];exact Tw,by simp[lu.out.len],?_,?_⟩⟩,by simp[intOf];omega⟩
   ·intro j p q hj hp hq
    by_cases e:j=k
    ·subst e
     rw[HP.out]at hp
     cases hp;rw[List.getElem?_append_right (by rw[lu.out.len];exact Nat.le_refl _),lu.out.len,Nat.sub_self]at hq
     cases hq;have hk3:cO (w3.alloc (.cells #[.bool n,.slice (some ⟨g,0,none⟩) n3 n3] 143)) g r:=r4.below ((Below.refl _ _).alloc (Nat.le_refl _) _) r4.lt;refine⟨rfl,g,n3,r,rfl,?_,r2,r3,?_,r5,r6,r7⟩
     ·have:=bV.out.size
      have:=lu.out.below.size;simp at *;omega
     ·have:=iY g r hk3
      obtain⟨cur,hc,h⟩:=hk3;exact⟨cur,this.trans hc,h⟩
    ·rw[List.getElem?_append_left (by rw[lu.out.len];omega)]at hq
     exact((lu.out.ok j p q aC hp hq).keep (YH b1)).keep iY
   ·refine b2.trans ?_
    exact⟨hg4.os,hg4.tape,hg4.output,hg4.size,fun i hi=>hg4.block i (by have:=b2.size;omega) (fun e=>by
     rcases zh.out.2 with ⟨e2,_⟩|⟨g',cap,cur,e2,hg',_⟩
     ·rw[e2]at e;simp[Value.ownBlock]at e
     ·rw[e2]at e;simp[Value.ownBlock]at e;omega)⟩
  ·have he:k=m:=by omega
   have h1:decide ((k:Int)<(m:Int))=false:=by simp;omega
   subst he;have lu:=Lib.hid hI;clear hI;go_wp2
   go_ret2
   exact⟨_,rs,rfl,lu.out⟩
theorem Ya (ad:Addr) (xs:List (Bool × ByteArray)) (m c:Nat) (hm:xs.length=m) (jL:m<=100) (w:World) (ha:Tv w ad xs) (b:Nat) (nb:Bool) (sb:ByteArray) (hb:xs[b]?=some (nb,sb)) (acG:gF nb sb≠0) (hok:∀ j p,j<b->xs[j]?=some p->fC p.1 p.2) :
  Calls Tryz.prog 103 #[.slice (some ad) m c] w fun e w'=>e = .returned (.tuple #[.slice none 0 0,.int .i64 (gF nb sb)])/\Below w.heap.size w w':=by
 obtain⟨i0,Ct,hz0,hz1,hz2⟩:=info_parts X_;have HM:=Lib.hid hm;have HA:=Lib.hid ha;have Ib:=Lib.hid hok;have KZ:b<m:=by rw[<- hm];exact(List.getElem?_eq_some_iff.1 hb).1
 have UO:=Lib.hid (And.intro hb acG);have HI:=Lib.hid (And.intro Ct (And.intro hz0 (And.intro hz1 hz2)));clear hb acG hm ha hok Ct hz0 hz1 hz2;have hu:=Tryz.underlying38;go_enter Tryz.func103,Tryz.ntmps103;go_wp2
 go_loopw [4,6,7,8,9,12] (fun v _ _ _ _ t w1=>∃ (k:Nat) (rs:List (Value × Value)),k<=b/\t = .int .i64 k/\ReadW w.heap.size xs w k v rs w1) (fun _ _ _ _ _ t _=>m-(intOf t).toNat)
 case atStart=>exact⟨0,[],Nat.zero_le _,rfl,⟨⟨rfl,.inl ⟨rfl,rfl⟩⟩,rfl,fun j p q h=>by omega,Below.refl _ _⟩⟩
 case round =>
  obtain⟨k,rs,hk,rfl,hI⟩:=hrel;by_cases hlt:k<b
  ·have h1:decide ((k:Int)<(m:Int))=true:=by simp;omega
   have hkm:k<m:=by omega
   have hkx:k<xs.length:=by rw[HM.out];exact hkm
   obtain⟨n,s,hp⟩:∃ n s,xs[k]?=some (n,s):=⟨_,_,List.getElem?_eq_getElem hkx⟩
   obtain⟨a1,a2⟩:=HA.out k n s hp;have hblk:=World.block_lt_of_cell? w _ a1;have a1':=(hI.below.cell hblk).trans a1;have a2':=(hI.below.cell (World.block_lt_of_cell? w _ a2)).trans a2;have zg:=Ib.out k (n,s) hlt hp;have EN:=q9.mpr zg;have hcc:=Lib.hid (Mw n s);have VZ:=Lib.hid (SN s zg.1 zg.2.1);have lu:=Lib.hid hI;have HP:=Lib.hid hp;have EO:=Lib.hid EN;clear a1 a2 hI hp EN zg hblk hkx;go_wp2_with fail
   refine(hcc.out _).mono ?_;rintro e w2 ⟨rfl,hb2⟩;rw[EO.out];have c1:=hb2.cell (p:=⟨wr.heap.size,0,none⟩) (by simp);have c2:=hb2.cell (p:=⟨wr.heap.size,1,none⟩) (by simp);have bV:=Lib.hid hb2;clear hb2;go_wp2_with fail
   refine(VZ.out _).mono ?_;rintro e w3 ⟨g,n3,r,rfl,hg,hrl,pS,hkr,hlr,htr,fD,hb3⟩;have UM:=bV.out.size;simp at UM;have c3:=(hb3.cell (p:=⟨wr.heap.size,0,none⟩) (by simp;omega)).trans c1;have c4:=(hb3.cell (p:=⟨wr.heap.size,1,none⟩) (by simp;omega)).trans c2;have HR:=Lib.hid (And.intro hg (And.intro hrl (And.intro pS (And.intro hkr (And.intro hlr (And.intro htr (And.intro fD hb3)))))));clear c1 c2 hg hrl pS hkr hlr htr fD hb3;have lR:Below wr.heap.size wr (w3.alloc (.cells #[.bool n,.slice (some ⟨g,0,none⟩) n3 n3] 143)):=by
    have h1:Below wr.heap.size wr w2:=((Below.refl _ _).alloc (Nat.le_refl _) _).trans (bV.out.mono (by simp));have h2:=h1.trans (HR.out.2.2.2.2.2.2.2.mono h1.size);exact h2.alloc h2.size _
   have hown:=XS lu.out.own lR;have UN:=lR.size;have Ke:=lu.out.below.trans (lR.mono lu.out.below.size);have zh:=Lib.hid hown;have ni:=Lib.hid (And.intro lR Ke);clear lR hown Ke UN;go_wp2_with (at_builtin;refine wpList_append_own _ rfl (.tmp 27) (.tmp 32) 150 rfl w.heap.size 143 i0 (.agg #[.bool false,.slice none 0 0]) 2 32 Tryz.underlying150 HI.out.1 HI.out.2.1 HI.out.2.2.1 HI.out.2.2.2 rfl aC u4 k (flat rs) rfl zh.out ⟨w3.heap.size,0,none⟩ 1 1 [.bool n,.slice (some ⟨g,0,none⟩) n3 n3] rfl rfl ?_ ?_ (by simp only[maxLen];omega) aC ?_ ?_;exact YF _ _ _ _;exact YG _ _ _ _;exact ni.out.2.size;intro v4 w4 Tw hg4 amP)
   obtain⟨b1,b2⟩:=ni.out;obtain⟨r1,r2,r3,r4,r5,r6,r7,r8⟩:=HR.out;have iY:=eB zh.out hg4;refine⟨⟨k+1,rs++[(.bool n,.slice (some ⟨g,0,none⟩) n3 n3)],by omega,by go_num,⟨by rw[XR];exact Tw,by simp[lu.out.len],?_,?_⟩⟩,by simp[intOf];omega⟩
   ·intro j p q hj hp hq
    by_cases e:j=k
    ·subst e
     rw[HP.out]at hp
     cases hp;rw[List.getElem?_append_right (by rw[lu.out.len];exact Nat.le_refl _),lu.out.len,Nat.sub_self]at hq
     cases hq;have hk3:cO (w3.alloc (.cells #[.bool n,.slice (some ⟨g,0,none⟩) n3 n3] 143)) g r:=r4.below ((Below.refl _ _).alloc (Nat.le_refl _) _) r4.lt;refine⟨rfl,g,n3,r,rfl,?_,r2,r3,?_,r5,r6,r7⟩
     ·have:=bV.out.size
      have:=lu.out.below.size;simp at *;omega
     ·have:=iY g r hk3
      obtain⟨cur,hc,h⟩:=hk3;exact⟨cur,this.trans hc,h⟩
    ·rw[List.getElem?_append_left (by rw[lu.out.len];omega)]at hq
     exact((lu.out.ok j p q aC hp hq).keep (YH b1)).keep iY
   ·refine b2.trans ?_
    exact⟨hg4.os,hg4.tape,hg4.output,hg4.size,fun i hi=>hg4.block i (by have:=b2.size;omega) (fun e=>by
     rcases zh.out.2 with ⟨e2,_⟩|⟨g',cap,cur,e2,hg',_⟩
     ·rw[e2]at e;simp[Value.ownBlock]at e
     ·rw[e2]at e;simp[Value.ownBlock]at e;omega)⟩
  ·have he:k=b:=by omega
   subst he;have h1:decide ((k:Int)<(m:Int))=true:=by simp;omega
   obtain⟨a1,a2⟩:=HA.out k nb sb UO.out.1;have a1':=(hI.below.cell (World.block_lt_of_cell? w _ a1)).trans a1;have a2':=(hI.below.cell (World.block_lt_of_cell? w _ a2)).trans a2;have hcc:=Lib.hid (Mw nb sb);have hz1:(gF nb sb==0)=false:=beq_eq_false_iff_ne.mpr UO.out.2;have hz2:(gF nb sb != 0)=true:=bne_iff_ne.mpr UO.out.2;have lu:=Lib.hid hI;clear a1 a2 hI;go_wp2_with fail
   refine(hcc.out _).mono ?_;rintro e w2 ⟨rfl,hb2⟩;have bV:=Lib.hid hb2;clear hb2;go_wp2
   go_ret2
   exact⟨rfl,lu.out.below.trans ((((Below.refl _ _).alloc (Nat.le_refl _) _).trans (bV.out.mono (by simp))).mono lu.out.below.size)⟩
def bk (n:Bool) (v:Int):Int:=if n then -v else v
theorem vQ (n:Bool) (A0:Option Addr) (k c0:Nat) (l:List Int) (hk:l.length=k) (hk4:k<=4000) (hc0:k<=c0) (w:World) (ha:RL w A0 l) (hla:aG l) :
  Calls Tryz.prog 95 #[.agg #[.bool n,.slice A0 k c0]] w fun e w'=>e = .returned (.agg #[.bool (decide (bk n (lv l)<0)),.string (dW (lv l))])/\Below w.heap.size w w':=by
 have hb2:Below w.heap.size w ((w.alloc (.cells #[.bool n,.slice A0 k c0] 143)).alloc (.cells #[.bool false,.string ⟨#[]⟩] 38)):=((Below.refl _ _).alloc (Nat.le_refl _) _).alloc (by simp) _;have HN:=Lib.hid (amO A0 k c0 l hk hk4 hc0 _ (ha.below hb2 (Nat.le_refl _)) hla);have hpos:=dw hla;have h1:decide ((4000:Int)<(k:Int))=false:=by simp;omega
 have HS:=Lib.hid hb2;have hz:lv l=0\/0<lv l:=by omega
 obtain⟨s,hs⟩:∃ s,dW (lv l)=s:=⟨_,rfl⟩
 have hss:s.size=nb (lv l):=by rw[<- hs];exact xh _
 obtain⟨b,hb⟩:∃ b,decide (bk n (lv l)<0)=b:=⟨_,rfl⟩
 rw[hs,hb];have HE:=Lib.hid hs;cases n with
 | false =>
  have Ic:b=false:=by rw[<- hb];simp[bk];omega
  subst Ic;clear ha hla hk hb2 hpos hz hs hss hb;go_enter Tryz.func95,Tryz.ntmps95;go_wp2_with fail
  refine(HN.out).mono ?_;rintro e w' ⟨rfl,iB⟩;rw[HE.out];have c0:=iB.cell (p:=⟨w.heap.size,0,none⟩) (by simp;omega);have c1:w'.cell? ⟨w.heap.size+1,0,none⟩=some (.bool false):=(iB.cell (by simp)).trans (by simp[go_sem]);have c2:w'.cell? ⟨w.heap.size+1,1,none⟩=some (.string ⟨#[]⟩):=(iB.cell (by simp)).trans (by simp[go_sem]);have f1:=iB.frozen (p:=⟨w.heap.size+1,0,none⟩) (by simp);have f2:=iB.frozen (p:=⟨w.heap.size+1,1,none⟩) (by simp);have HB:=Lib.hid (HS.out.trans (iB.mono (by simp;omega)));clear iB;go_wp2
  refine bodyPost_ret (by simp[results,Tryz.results95,go_sem,c1,c2];try rfl) rfl ?_;exact⟨rfl,(HB.out.setCell (by simp) _).setCell (by simp) _⟩
 | true =>
  rcases hz with hz|hz
  ·have Ic:b=false:=by rw[<- hb];simp[bk];omega
   obtain⟨t1,t2⟩:=toList_nil (s:=s) (by rw[hss,hz,vN]);subst Ic;clear ha hla hk hb2 hpos hz hs hss hb;go_enter Tryz.func95,Tryz.ntmps95;go_wp2_with fail
   refine(HN.out).mono ?_;rintro e w' ⟨rfl,iB⟩;rw[HE.out];have c0:=iB.cell (p:=⟨w.heap.size,0,none⟩) (by simp;omega);have c1:w'.cell? ⟨w.heap.size+1,0,none⟩=some (.bool false):=(iB.cell (by simp)).trans (by simp[go_sem]);have c2:w'.cell? ⟨w.heap.size+1,1,none⟩=some (.string ⟨#[]⟩):=(iB.cell (by simp)).trans (by simp[go_sem]);have f1:=iB.frozen (p:=⟨w.heap.size+1,0,none⟩) (by simp);have f2:=iB.frozen (p:=⟨w.heap.size+1,1,none⟩) (by simp);have HB:=Lib.hid (HS.out.trans (iB.mono (by simp;omega)));clear iB;go_wp2
   refine bodyPost_ret (by simp[results,Tryz.results95,go_sem,c1,c2];try rfl) rfl ?_;exact⟨rfl,(HB.out.setCell (by simp) _).setCell (by simp) _⟩
  ·have Ic:b=true:=by rw[<- hb];simp[bk];omega
   obtain⟨t1,t2⟩:=yt (s:=s) (by rw[hss];exact(Dc hz).2.2);subst Ic;clear ha hla hk hb2 hpos hz hs hss hb;go_enter Tryz.func95,Tryz.ntmps95;go_wp2_with fail
   refine(HN.out).mono ?_;rintro e w' ⟨rfl,iB⟩;rw[HE.out];have c0:=iB.cell (p:=⟨w.heap.size,0,none⟩) (by simp;omega);have c1:w'.cell? ⟨w.heap.size+1,0,none⟩=some (.bool false):=(iB.cell (by simp)).trans (by simp[go_sem]);have c2:w'.cell? ⟨w.heap.size+1,1,none⟩=some (.string ⟨#[]⟩):=(iB.cell (by simp)).trans (by simp[go_sem]);have f1:=iB.frozen (p:=⟨w.heap.size+1,0,none⟩) (by simp);have f2:=iB.frozen (p:=⟨w.heap.size+1,1,none⟩) (by simp);have HB:=Lib.hid (HS.out.trans (iB.mono (by simp;omega)));clear iB;go_wp2
   refine bodyPost_ret (by simp[results,Tryz.results95,go_sem,c1,c2];try rfl) rfl ?_;exact⟨rfl,(HB.out.setCell (by simp) _).setCell (by simp) _⟩
def aqm (v:Int) (w:World) (e:Ending) (w':World):Prop:=∃ n x r,e = .returned (.agg #[.bool n,x])/\pO w' x r/\aG r/\Tr r/\bk n (lv r)=v/\Below w.heap.size w w'
theorem RL.OG {w:World} {A:Option Addr} {l:List Int} {p:Addr} {v:Value} (h:RL w A l) (hc:w.cell? p=some v) (hv:∀ x,v ≠ .int .u64 x) (u:Value):RL (w.setCell p u) A l :=
 ⟨h.1,fun hn=>by
  obtain⟨ad,e,bW⟩:=h.2 hn
  refine⟨ad,e,fun j hj=>?_⟩
  rw[World.cell?_setCell_other]
  ·exact bW j hj
  ·intro e2
   have:=bW j hj
   rw[<- e2,hc]at this
   injection this with this
   exact hv _ this⟩
theorem RL.pair {w:World} {A:Option Addr} {l:List Int} {g:Nat} {n0:Bool} {B0:Option Addr} {k0 c0:Nat} (h:RL w A l) (h0:w.cell? ⟨g,0,none⟩=some (.bool n0)) (h1:w.cell? ⟨g,1,none⟩=some (.slice B0 k0 c0)) (u v:Value):RL ((w.setCell ⟨g,0,none⟩ u).setCell ⟨g,1,none⟩ v) A l:=by
 refine RL.OG (RL.OG h h0 (by simp) u) (v := .slice B0 k0 c0) ?_ (by simp) v;exact(World.cell?_setCell_other w ⟨g,0,none⟩ ⟨g,1,none⟩ u (by simp)).trans h1
theorem NW (n1 n2:Bool) (A1 A2:Option Addr) (k1 k2 c1 c2:Nat) (a b:List Int) (h1:a.length=k1) (h2:b.length=k2) (Pq:k1<=4000) (Pt:k2<=4000) (hc1:k1<=c1) (hc2:k2<=c2) (w:World) (ha:RL w A1 a) (hb:RL w A2 b) (hla:aG a) (hlb:aG b) :
  Calls Tryz.prog 104 #[.agg #[.bool n1,.slice A1 k1 c1],.agg #[.bool n2,.slice A2 k2 c2]] w (aqm (bk n1 (lv a)+bk n2 (lv b)) w):=by
 obtain⟨w3,hw3⟩:∃ w3,w3=((w.alloc (.cells #[.bool n1,.slice A1 k1 c1] 143)).alloc (.cells #[.bool n2,.slice A2 k2 c2] 143)).alloc (.cells #[.bool false,.slice none 0 0] 143):=⟨_,rfl⟩
 have hb3:Below w.heap.size w w3:=by rw[hw3];exact(((Below.refl _ _).alloc (Nat.le_refl _) _).alloc (by simp) _).alloc (by simp;omega) _
 have HA:=Lib.hid (ha.below hb3 (Nat.le_refl _));have HB:=Lib.hid (hb.below hb3 (Nat.le_refl _));have d0:w3.cell? ⟨w.heap.size,0,none⟩=some (.bool n1):=by rw[hw3];simp[go_sem]
 have d1:w3.cell? ⟨w.heap.size,1,none⟩=some (.slice A1 k1 c1):=by rw[hw3];simp[go_sem]
 have d2:w3.cell? ⟨w.heap.size+1,0,none⟩=some (.bool n2):=by rw[hw3];simp[go_sem]
 have d3:w3.cell? ⟨w.heap.size+1,1,none⟩=some (.slice A2 k2 c2):=by rw[hw3];simp[go_sem]
 have d4:w3.cell? ⟨w.heap.size+2,0,none⟩=some (.bool false):=by rw[hw3];simp[go_sem]
 have d5:w3.cell? ⟨w.heap.size+2,1,none⟩=some (.slice none 0 0):=by rw[hw3];simp[go_sem]
 have d6:w3.frozen? ⟨w.heap.size+2,0,none⟩=false:=by rw[hw3];simp[go_sem]
 have d7:w3.frozen? ⟨w.heap.size+2,1,none⟩=false:=by rw[hw3];simp[go_sem]
 have hsz:w3.heap.size=w.heap.size+3:=by rw[hw3];simp
 have HW:=Lib.hid hw3;have HS:=Lib.hid hb3;have dP:=Lib.hid hsz
 have hk1:=fun (w':World) (h:Below w3.heap.size w3 w')=>(show w'.cell? ⟨w.heap.size,0,none⟩=some (.bool n1)/\w'.cell? ⟨w.heap.size,1,none⟩=some (.slice A1 k1 c1)/\w'.cell? ⟨w.heap.size+1,0,none⟩=some (.bool n2)/\w'.cell? ⟨w.heap.size+1,1,none⟩=some (.slice A2 k2 c2)/\w'.cell? ⟨w.heap.size+2,0,none⟩=some (.bool false)/\w'.cell? ⟨w.heap.size+2,1,none⟩=some (.slice none 0 0)/\w'.frozen? ⟨w.heap.size+2,0,none⟩=false/\w'.frozen? ⟨w.heap.size+2,1,none⟩=false from
  ⟨(h.cell (by simp[hsz];try omega)).trans d0,(h.cell (by simp[hsz];try omega)).trans d1,(h.cell (by simp[hsz];try omega)).trans d2,(h.cell (by simp[hsz];try omega)).trans d3,(h.cell (by simp[hsz];try omega)).trans d4,(h.cell (by simp[hsz];try omega)).trans d5,(h.frozen (by simp[hsz];try omega)).trans d6,(h.frozen (by simp[hsz];try omega)).trans d7⟩)
 have HK:=Lib.hid hk1;by_cases hn:n1=n2
 ·subst hn
  have HC:=Lib.hid (amJ A1 A2 k1 k2 c1 c2 a b h1 h2 Pq Pt w3 HA.out HB.out hla hlb);have Cx:bk n1 (lv a+lv b)=bk n1 (lv a)+bk n1 (lv b):=by cases n1 <;> simp[bk];try omega
  have HV:=Lib.hid Cx;clear Cx;have ht:(n1==n1)=true:=by simp
  clear d0 d1 d2 d3 d4 d5 d6 d7 hk1 hsz hb3 ha hb hla hlb hw3;go_enter Tryz.func104,Tryz.ntmps104;go_wp2_with fail
  rw[<- HW.out];refine(HC.out).mono ?_;rintro e w' ⟨x,r,rfl,hr,hlr,htr,fD,hbr⟩;obtain⟨A,cc,rfl,hrc,hrl⟩:=hr;obtain⟨e0,e1,e2,e3,e4,e5,e6,e7⟩:=HK.out _ hbr;have HR:=Lib.hid (And.intro hrc (And.intro hrl (And.intro hlr (And.intro htr (And.intro fD (HS.out.trans (hbr.mono (by rw[dP.out];omega))))))));clear hrc hrl hlr htr fD hbr;go_wp2
  refine bodyPost_ret (by simp[results,Tryz.results104,go_sem,e0,e1,e2,e3,e4,e5];try rfl) rfl ?_;obtain⟨hrc,hrl,hlr,htr,fD,hbl⟩:=HR.out;exact⟨_,_,r,rfl,⟨A,cc,rfl,hrc,hrl.pair e4 e5 _ _⟩,hlr,htr,by rw[fD];exact HV.out,(hbl.setCell (by simp;try omega) _).setCell (by simp;try omega) _⟩
 ·have ht:(n1==n2)=false:=beq_eq_false_iff_ne.mpr hn
  have hn2:n2=!n1:=by cases n1 <;> cases n2 <;> simp_all
  by_cases hlt:lv b<=lv a
  ·have Cx:bk n1 (lv a-lv b)=bk n1 (lv a)+bk n2 (lv b):=by rw[hn2];cases n1 <;> simp[bk] <;> omega
   have HV:=Lib.hid Cx;have HL:=Lib.hid hlt;have HC:=Lib.hid (Ts A1 A2 k1 k2 c1 c2 a b h1 h2 Pq Pt hc1 hc2 w3 HA.out HB.out hla hlb);clear Cx hn hn2 hlt;clear d0 d1 d2 d3 d4 d5 d6 d7 hk1 hsz hb3 ha hb hla hlb hw3;go_enter Tryz.func104,Tryz.ntmps104;go_wp2_with fail
   rw[<- HW.out];refine(HC.out).mono ?_;rintro e w' ⟨hsp,-⟩;obtain⟨x,r,rfl,hr,hlr,htr,fD,hbr⟩:=hsp HL.out;clear hsp;obtain⟨A,cc,rfl,hrc,hrl⟩:=hr;obtain⟨e0,e1,e2,e3,e4,e5,e6,e7⟩:=HK.out _ hbr;have HR:=Lib.hid (And.intro hrc (And.intro hrl (And.intro hlr (And.intro htr (And.intro fD (HS.out.trans (hbr.mono (by rw[dP.out];omega))))))));clear hrc hrl hlr htr fD hbr;go_wp2
   refine bodyPost_ret (by simp[results,Tryz.results104,go_sem,e0,e1,e2,e3,e4,e5];try rfl) rfl ?_;obtain⟨hrc,hrl,hlr,htr,fD,hbl⟩:=HR.out;exact⟨_,_,r,rfl,⟨A,cc,rfl,hrc,hrl.pair e4 e5 _ _⟩,hlr,htr,by rw[fD];exact HV.out,(hbl.setCell (by simp;try omega) _).setCell (by simp;try omega) _⟩
  ·have Cx:bk n2 (lv b-lv a)=bk n1 (lv a)+bk n2 (lv b):=by rw[hn2];cases n1 <;> simp[bk] <;> omega
   have HV:=Lib.hid Cx;have HL:=Lib.hid (Int.lt_of_not_ge hlt);have HC:=Lib.hid (Ts A1 A2 k1 k2 c1 c2 a b h1 h2 Pq Pt hc1 hc2 w3 HA.out HB.out hla hlb);have pF:=fun (w':World) (h:Below w3.heap.size w3 w')=>Ts A2 A1 k2 k1 c2 c1 b a h2 h1 Pt Pq hc2 hc1 w' (HB.out.below h (Nat.le_refl _)) (HA.out.below h (Nat.le_refl _)) hlb hla;clear Cx hn hn2 hlt;clear d0 d1 d2 d3 d4 d5 d6 d7 hk1 hsz hb3 ha hb hla hlb hw3;go_enter Tryz.func104,Tryz.ntmps104;go_wp2_with fail
   rw[<- HW.out];refine(HC.out).mono ?_;rintro e w' ⟨-,hsp⟩;obtain⟨rfl,Pu⟩:=hsp HL.out;clear hsp;obtain⟨e0,e1,e2,e3,e4,e5,e6,e7⟩:=HK.out _ Pu;have nX:=Lib.hid (pF w' Pu);have HBS:=Lib.hid Pu;clear Pu pF;go_wp2_with fail
   clear e0 e1 e2 e3 e4 e5 e6 e7;refine(nX.out).mono ?_;rintro e w5 ⟨hsp,-⟩;obtain⟨x,r,rfl,hr,hlr,htr,fD,hbr⟩:=hsp (Int.le_of_lt HL.out);clear hsp;obtain⟨A,cc,rfl,hrc,hrl⟩:=hr;have bI:=HBS.out.trans (hbr.mono HBS.out.size);obtain⟨e0,e1,e2,e3,e4,e5,e6,e7⟩:=HK.out _ bI;have HR:=Lib.hid (And.intro hrc (And.intro hrl (And.intro hlr (And.intro htr (And.intro fD (HS.out.trans (bI.mono (by rw[dP.out];omega))))))));clear hrc hrl hlr htr fD hbr bI;go_wp2
   refine bodyPost_ret (by simp[results,Tryz.results104,go_sem,e0,e1,e2,e3,e4,e5];try rfl) rfl ?_;obtain⟨hrc,hrl,hlr,htr,fD,hbl⟩:=HR.out;exact⟨_,_,r,rfl,⟨A,cc,rfl,hrc,hrl.pair e4 e5 _ _⟩,hlr,htr,by rw[fD];exact HV.out,(hbl.setCell (by simp;try omega) _).setCell (by simp;try omega) _⟩
structure Tx (w:World) (g i:Nat) (n:Bool) (s:ByteArray) (g1 k1:Nat) (r1:List Int):Prop where
 c0:w.cell? ⟨g,i,none⟩=some (.bool n)
 c1:w.cell? ⟨g,i+1,none⟩=some (.slice (some ⟨g1,0,none⟩) k1 k1)
 f0:w.frozen? ⟨g,i,none⟩=false
 len:r1.length=k1
 le:k1<=4000
 row:RL w (some ⟨g1,0,none⟩) r1
 lim:aG r1
 tr:Tr r1
 val:lv r1=nv s
def alX (n1:Bool) (s1:ByteArray) (n2:Bool) (s2:ByteArray) (w:World) (e:Ending) (w':World):Prop :=
 ∃ g c g1 k1 r1 g2 k2 r2,e = .returned (.tuple #[.slice (some ⟨g,0,none⟩) 2 c,.int .i64 0])/\w.heap.size<=g/\2<=c/\Tx w' g 0 n1 s1 g1 k1 r1/\Tx w' g 2 n2 s2 g2 k2 r2/\Below w.heap.size w w'
theorem Yb {w0 base k:Nat} {w:World} {g:Nat} {cur:Array Value} {rs:List (Value × Value)} {t:TypeId} (hg:w.heap[g]?=some (.cells cur t (0,0))) (ht:cur.toList.take (k*2)=flat rs) (j:Nat) (p:Bool × ByteArray) (q:Value × Value) (hq:rs[j]?=some q) (ho:JQ base w p q) :
  ∃ g1 k1 r1,Tx w g (j*2) p.1 p.2 g1 k1 r1:=by
 obtain⟨h1,g1,n1,r,h2,hb,h3,h4,h5,h6,h7,h8⟩:=ho;have hf:∀ (l:List (Value × Value)) (j:Nat) (q:Value × Value),l[j]?=some q->(flat l)[j*2]?=some q.1/\(flat l)[j*2+1]?=some q.2:=by
  intro l;induction l with
  | nil=>intro j q h;simp at h
  | cons a l ih =>
   intro j q h;cases j with
   | zero=>simp at h;subst h;exact⟨rfl,rfl⟩
   | succ j =>
    rw[List.getElem?_cons_succ]at h
    have:=ih j q h;have e:flat (a::l)=a.1::a.2::flat l:=by simp[flat]
    rw[e,show(j+1)*2=j*2+2 by omega];exact this
 obtain⟨f1,f2⟩:=hf rs j q hq;rw[<- ht,List.getElem?_take]at f1 f2
 split at f1 <;> try contradiction
 split at f2 <;> try contradiction
 refine⟨g1,n1,r,?_,?_,?_,h3,h4,h5.RL aC,h6,h7,h8⟩
 ·unfold World.cell?
  rw[show w.heap[(⟨g,j*2,none⟩:Addr).block]?=_ from hg];rw[h1]at f1
  simpa using f1
 ·unfold World.cell?
  rw[show w.heap[(⟨g,j*2+1,none⟩:Addr).block]?=_ from hg];rw[h2]at f2
  simpa using f2
 ·unfold World.frozen?
  rw[show w.heap[(⟨g,j*2,none⟩:Addr).block]?=_ from hg];simp
theorem IZ (n1:Bool) (s1:ByteArray) (n2:Bool) (s2:ByteArray) (g c:Nat) (w:World) (h0:w.cell? ⟨g,0,none⟩=some (.bool n1)) (h1:w.cell? ⟨g,1,none⟩=some (.string s1)) (h2:w.cell? ⟨g,2,none⟩=some (.bool n2)) (h3:w.cell? ⟨g,3,none⟩=some (.string s2)) (hk1:fC n1 s1) (hk2:fC n2 s2) :
  Calls Tryz.prog 103 #[.slice (some ⟨g,0,none⟩) 2 c] w (alX n1 s1 n2 s2 w):=by
 refine(aif ⟨g,0,none⟩ [(n1,s1),(n2,s2)] 2 c rfl aC w ?_ ?_).mono ?_
 ·intro j n s h
  match j,h with
  | 0,h=>simp at h;obtain⟨rfl,rfl⟩:=h;exact⟨by simpa [Addr.add] using h0,by simpa [Addr.add] using h1⟩
  | 1,h=>simp at h;obtain⟨rfl,rfl⟩:=h;exact⟨by simpa [Addr.add] using h2,by simpa [Addr.add] using h3⟩
  | j+2,h=>simp at h
 ·intro p hp
  simp at hp;rcases hp with rfl|rfl
  ·exact hk1
  ·exact hk2
 ·rintro e w' ⟨v,rs,rfl,own,len,ok,ey⟩
  obtain⟨hl,⟨-,h⟩|⟨g',cap,cur,rfl,hb,hh,hc,_,_,ht⟩⟩:=own
  ·omega
  ·obtain⟨a,ha⟩:∃ a,rs[0]?=some a:=⟨_,List.getElem?_eq_getElem aC⟩
   obtain⟨b,hb'⟩:∃ a,rs[1]?=some a:=⟨_,List.getElem?_eq_getElem aC⟩
   obtain⟨g1,k1,r1,q1⟩:=Yb (w0:=0) hh ht 0 (n1,s1) a ha (ok 0 _ _ aC rfl ha);obtain⟨g2,k2,r2,q2⟩:=Yb (w0:=0) hh ht 1 (n2,s2) b hb' (ok 1 _ _ aC rfl hb');exact⟨g',cap,g1,k1,r1,g2,k2,r2,rfl,hb,hc,q1,q2,ey⟩
def gJ (n1:Bool) (s1:ByteArray) (n2:Bool) (s2:ByteArray):Int:=if gF n1 s1≠0 then gF n1 s1 else gF n2 s2
theorem Bd {n1:Bool} {s1:ByteArray} {n2:Bool} {s2:ByteArray}:gJ n1 s1 n2 s2=0↔fC n1 s1/\fC n2 s2:=by
 unfold gJ;rw[<- q9,<- q9];split
 ·constructor
  ·intro h;contradiction
  ·intro h;exact h.1
 ·rename_i h
  have h0:gF n1 s1=0:=Decidable.not_not.1 h;exact⟨fun h=>⟨h0,h⟩,fun h=>h.2⟩
theorem IF (n1:Bool) (s1:ByteArray) (n2:Bool) (s2:ByteArray) (g c:Nat) (w:World) (h0:w.cell? ⟨g,0,none⟩=some (.bool n1)) (h1:w.cell? ⟨g,1,none⟩=some (.string s1)) (h2:w.cell? ⟨g,2,none⟩=some (.bool n2)) (h3:w.cell? ⟨g,3,none⟩=some (.string s2)) (hb:gJ n1 s1 n2 s2≠0) :
  Calls Tryz.prog 103 #[.slice (some ⟨g,0,none⟩) 2 c] w fun e w'=>e = .returned (.tuple #[.slice none 0 0,.int .i64 (gJ n1 s1 n2 s2)])/\Below w.heap.size w w':=by
 have ha:Tv w ⟨g,0,none⟩ [(n1,s1),(n2,s2)]:=by
  intro j n s h;match j,h with
  | 0,h=>simp at h;obtain⟨rfl,rfl⟩:=h;exact⟨by simpa [Addr.add] using h0,by simpa [Addr.add] using h1⟩
  | 1,h=>simp at h;obtain⟨rfl,rfl⟩:=h;exact⟨by simpa [Addr.add] using h2,by simpa [Addr.add] using h3⟩
  | j+2,h=>simp at h
 unfold gJ at *;split at hb
 ·rename_i hc
  rw[if_pos hc];exact Ya ⟨g,0,none⟩ _ 2 c rfl aC w ha 0 n1 s1 rfl hc (fun j p h=>by omega)
 ·rename_i hc
  rw[if_neg hc];refine Ya ⟨g,0,none⟩ _ 2 c rfl aC w ha 1 n2 s2 rfl hb (fun j p h hp=>?_);have:j=0:=by omega
  subst this;simp at hp;subst hp;exact q9.1 (Decidable.not_not.1 hc)
end Go.Proofs.YtcmepkhjggpmeaaGreat
namespace Go.Proofs.YtcmepkhjggpmeaaGreat
theorem aau {α:Type} {R:α->α->Prop} (asym:∀ x y,R x y->¬ R y x):∀ {l1 l2:List α},l1.Pairwise R->l2.Pairwise R->(∀ x,x∈l1↔x∈l2)->l1=l2
 | [],[],_,_,_=>rfl
 | [],b::r,_,_,h=>by have:=(h b).2 (List.mem_cons_self ..);cases this
 | a::r,[],_,_,h=>by have:=(h a).1 (List.mem_cons_self ..);cases this
 | a::r,b::s,h1,h2,h=>by
  have irr:∀ x,¬ R x x:=fun x hx=>asym x x hx hx
  obtain⟨ha,hr⟩:=List.pairwise_cons.1 h1
  obtain⟨hb,hs⟩:=List.pairwise_cons.1 h2
  have e:a=b:=by
   rcases List.mem_cons.1 ((h a).1 (List.mem_cons_self ..)) with e|m
   ·exact e
   ·rcases List.mem_cons.1 ((h b).2 (List.mem_cons_self ..)) with e|m2
    ·exact e.symm
    ·exact absurd (hb a m) (asym _ _ (ha b m2))
  subst e;have:r=s:=aau asym hr hs fun x=>by
   constructor
   ·intro hx
    rcases List.mem_cons.1 ((h x).1 (List.mem_cons_of_mem _ hx)) with e|m
    ·subst e
     exact absurd (ha x hx) (irr x)
    ·exact m
   ·intro hx
    rcases List.mem_cons.1 ((h x).2 (List.mem_cons_of_mem _ hx)) with e|m
    ·subst e
     exact absurd (hb x hx) (irr x)
    ·exact m
  rw[this]
def L4 (x y:Nat × Nat):Prop:=x.1<y.1\/(x.1=y.1/\x.2<y.2)
theorem ahV (x y:Nat × Nat) (h:L4 x y):¬ L4 y x:=by
 unfold L4 at *;omega
def nh (p:Nat->Nat->Bool) (a:Nat):Nat->List (Nat × Nat)
 | 0=>[]
 | m+1=>nh p a m++(if a<m/\p a m=true then [(a,m)] else [])
def nU (p:Nat->Nat->Bool) (n:Nat):Nat->List (Nat × Nat)
 | 0=>[]
 | m+1=>nU p n m++nh p m n
theorem Ms {p:Nat->Nat->Bool} {a:Nat} {x:Nat × Nat}:∀ {m:Nat},x∈nh p a m↔x.1=a/\a<x.2/\x.2<m/\p a x.2=true
 | 0=>by simp[nh]
 | m+1=>by
  unfold nh
  rw[List.mem_append,Ms (m:=m)]
  constructor
  ·rintro (⟨h1,h2,h3,h4⟩|h)
   ·exact⟨h1,h2,by omega,h4⟩
   ·split at h
    ·rename_i hc
     simp at h
     subst h
     exact⟨rfl,hc.1,Nat.lt_succ_self _,hc.2⟩
    ·cases h
  ·rintro⟨h1,h2,h3,h4⟩
   by_cases e:x.2=m
   ·subst e
    right
    rw[if_pos ⟨h2,h4⟩]
    subst h1
    simp
   ·exact Or.inl ⟨h1,h2,by omega,h4⟩
theorem RK {p:Nat->Nat->Bool} {n:Nat} {x:Nat × Nat}:∀ {m:Nat},x∈nU p n m↔x.1<m/\x.1<x.2/\x.2<n/\p x.1 x.2=true
 | 0=>by simp[nU]
 | m+1=>by
  unfold nU
  rw[List.mem_append,RK (m:=m),Ms]
  constructor
  ·rintro (⟨h1,h2,h3,h4⟩|⟨h1,h2,h3,h4⟩)
   ·exact⟨by omega,h2,h3,h4⟩
   ·subst h1
    exact⟨Nat.lt_succ_self _,h2,h3,h4⟩
  ·rintro⟨h1,h2,h3,h4⟩
   by_cases e:x.1=m
   ·subst e
    exact Or.inr ⟨rfl,h2,h3,h4⟩
   ·exact Or.inl ⟨by omega,h2,h3,h4⟩
theorem ZV (p:Nat->Nat->Bool) (a:Nat):∀ m,(nh p a m).Pairwise L4
 | 0=>List.Pairwise.nil
 | m+1=>by
  unfold nh
  refine List.pairwise_append.2 ⟨ZV p a m,?_,fun x hx y hy=>?_⟩
  ·split
   ·exact List.pairwise_singleton _ _
   ·exact List.Pairwise.nil
  ·have h:=Ms.1 hx
   split at hy
   ·simp at hy
    subst hy
    exact Or.inr ⟨h.1,h.2.2.1⟩
   ·cases hy
theorem ZW (p:Nat->Nat->Bool) (n:Nat):∀ m,(nU p n m).Pairwise L4
 | 0=>List.Pairwise.nil
 | m+1=>by
  unfold nU
  refine List.pairwise_append.2 ⟨ZW p n m,ZV p m n,fun x hx y hy=>?_⟩
  have h1:=RK.1 hx
  have h2:=Ms.1 hy
  exact Or.inl (by omega)
theorem alD {p:Nat->Nat->Bool} {n:Nat} {l:List (Nat × Nat)} (hs:l.Pairwise fun x y=>x.1<y.1\/(x.1=y.1/\x.2<=y.2)) (hn:l.Nodup) (hm:∀ x,x∈l↔x.1<x.2/\x.2<n/\p x.1 x.2=true):l=nU p n n:=by
 refine aau ahV ?_ (ZW p n n) fun x=>?_
 ·refine List.Pairwise.imp₂ (fun x y h1 h2=>?_) hs hn
  rcases h1 with h|⟨h,h'⟩
  ·exact Or.inl h
  ·refine Or.inr ⟨h,Nat.lt_of_le_of_ne h' fun e=>h2 ?_⟩
   exact Prod.ext h e
 ·rw[hm,RK]
  constructor
  ·rintro⟨h1,h2,h3⟩
   exact⟨by omega,h1,h2,h3⟩
  ·rintro⟨h1,h2,h3,h4⟩
   exact⟨h2,h3,h4⟩
end Go.Proofs.YtcmepkhjggpmeaaGreat
