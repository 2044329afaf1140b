import Derived.Test.YtfcjnhkkfmgmpaaGreatZtG6
import Derived.Handy
set_option linter.all false
set_option maxRecDepth 100000
set_option maxHeartbeats 8000000
namespace Go.Proofs.YtfcjnhkkfmgmpaaGreat
open Go.RowKit aS
theorem aaY:(Tryz.prog.info? 151).map (fun i=>(i.zero,i.size,i.bytes))=some (some (.agg #[.bool false,.slice none 0 0]),2,32):=by kernel_rfl
def Wt (w:World) (ad:Addr) (xs:List (Bool × ByteArray)):Prop:=∀ j n s,xs[j]?=some (n,s)->w.cell? (ad.add (j*2))=some (.bool n)/\w.cell? ⟨(ad.add (j*2)).block,(ad.add (j*2)).off+1,none⟩=some (.string s)
def LU (base:Nat) (w:World) (p:Bool × ByteArray) (v:Value × Value):Prop:=v.1 = .bool p.1/\∃ g n r,v.2 = .slice (some ⟨g,0,none⟩) n n/\base<=g/\r.length=n/\n<=4000/\cV w g r/\aH r/\Tr r/\lv r=nv p.2
theorem LU.keep {base:Nat} {w w':World} {p:Bool × ByteArray} {v:Value × Value} (h:LU base w p v) (hk:∀ g l,cV w g l->w'.heap[g]?=w.heap[g]?):LU base w' p v:=by
 obtain⟨h1,g,n,r,h2,hb,h3,h4,h5,h6⟩:=h;refine⟨h1,g,n,r,h2,hb,h3,h4,?_,h6⟩;have:=hk g r h5;obtain⟨cur,hc,h⟩:=h5;exact⟨cur,this.trans hc,h⟩
def flat (l:List (Value × Value)):List Value:=l.flatMap fun p=>[p.1,p.2]
theorem aaM (l:List (Value × Value)) (p:Value × Value):flat (l++[p])=flat l++[p.1,p.2]:=by simp[flat]
theorem aaN {w w1:World} {base:Nat} {e:TypeId} {size n:Nat} {v:Value} {xs:List Value} (h:w.ownsRow base e size v n xs) (hb:Below w.heap.size w w1):w1.ownsRow base e size v n xs :=
 h.kept (row:=none) ⟨hb.os,hb.tape,hb.output,hb.size,fun i hi _=>hb.block i hi⟩ (by cases v.ownBlock <;> simp)
theorem akS {w:World} {base:Nat} {e:TypeId} {size n:Nat} {v:Value} {xs:List Value} (h:w.ownsRow base e size v n xs) (k:Nat) (hk:v.ownBlock=some k):∃ cells,w.heap[k]?=some (.cells cells e (0,0)):=by
 rcases h.2 with ⟨rfl,_⟩|⟨g,cap,cur,rfl,hg,hh,r⟩
 ·simp[Value.ownBlock]at hk
 ·have:g=k:=by simpa [Value.ownBlock] using hk
  subst this;exact⟨cur,hh⟩
theorem abm (w:World) (a b:Value) (t:TypeId):∀ j u,[a,b][j]?=some u->(w.alloc (.cells #[a,b] t)).cell? ((⟨w.heap.size,0,none⟩:Addr).add j)=some u:=by
 intro j u h;match j,h with
 | 0,h=>simp at h;subst h;simp[Addr.add,go_sem]
 | 1,h=>simp at h;subst h;simp[Addr.add,go_sem]
 | j+2,h=>simp at h
theorem abn (n:Bool) (A:Option Addr) (l c:Nat):∀ u∈[Value.bool n,Value.slice A l c],u.oneCell'=true:=by
 intro u h;simp at h;rcases h with rfl|rfl <;> rfl
theorem dQ {w w':World} {base n:Nat} {v:Value} {xs:List Value} {size:Nat} (ho:w.ownsRow base 151 size v n xs) (hg:w.grownBy w' v.ownBlock):∀ g l,cV w g l->w'.heap[g]?=w.heap[g]?:=by
 intro g l hb;refine hg.block g hb.lt ?_;intro e;obtain⟨cells,hc⟩:=akS ho g e.symm;obtain⟨cur,hh,_⟩:=hb;rw[hc]at hh
 injection hh with hh
 injection hh with _ ht
 revert ht
 decide
theorem abo {w w':World} (hb:Below w.heap.size w w'):∀ g l,cV w g l->w'.heap[g]?=w.heap[g]?:=fun g l h=>hb.block g h.lt
structure ReadW (base:Nat) (xs:List (Bool × ByteArray)) (w:World) (k:Nat) (v:Value) (rs:List (Value × Value)) (w1:World):Prop where
 own:w1.ownsRow base 151 2 v k (flat rs)
 len:rs.length=k
 ok:∀ j p q,j<k->xs[j]?=some p->rs[j]?=some q->LU base w1 p q
 below:Below w.heap.size w w1
theorem alx (ad:Addr) (xs:List (Bool × ByteArray)) (m c:Nat) (hm:xs.length=m) (kE:m<=100) (w:World) (ha:Wt w ad xs) (hok:∀ p∈xs,fX p.1 p.2) :
  Calls Tryz.prog 117 #[.slice (some ad) m c] w fun e w'=>∃ v rs,e = .returned (.tuple #[v,.int .i64 0])/\ReadW w.heap.size xs w m v rs w':=by
 obtain⟨i0,DO,hz0,hz1,hz2⟩:=info_parts aaY;have HM:=Lib.hid hm;have HA:=Lib.hid ha;have J6:=Lib.hid hok;have HI:=Lib.hid (And.intro DO (And.intro hz0 (And.intro hz1 hz2)));clear hm ha hok DO hz0 hz1 hz2;have hu:=Tryz.underlying38;go_enter Tryz.func117,Tryz.ntmps117;go_wp2
 go_loopw [4,6,7,8,9,12] (fun v _ _ _ _ t w1=>∃ (k:Nat) (rs:List (Value × Value)),k<=m/\t = .int .i64 k/\ReadW w.heap.size xs w k v rs w1) (fun _ _ _ _ _ t _=>m-(intOf t).toNat)
 case atStart=>exact⟨0,[],Nat.zero_le _,rfl,⟨⟨rfl,.inl ⟨rfl,rfl⟩⟩,rfl,fun j p q h=>by omega,Below.refl _ _⟩⟩
 case round =>
  obtain⟨k,rs,hk,rfl,hI⟩:=hrel;by_cases hlt:k<m
  ·have h1:decide ((k:Int)<(m:Int))=true:=by simp;omega
   have Ns:k<xs.length:=by rw[HM.out];exact hlt
   obtain⟨n,s,hp⟩:∃ n s,xs[k]?=some (n,s):=⟨_,_,List.getElem?_eq_getElem Ns⟩
   obtain⟨a1,a2⟩:=HA.out k n s hp;have hblk:=World.block_lt_of_cell? w _ a1;have a1':=(hI.below.cell hblk).trans a1;have a2':=(hI.below.cell (World.block_lt_of_cell? w _ a2)).trans a2;have Bb:=J6.out (n,s) (List.mem_of_getElem? hp);have BH:=sw.mpr Bb;have hcc:=Lib.hid (OP n s);have Zc:=Lib.hid (VZ s Bb.1 Bb.2.1);have mA:=Lib.hid hI;have HP:=Lib.hid hp;have GL:=Lib.hid BH;clear a1 a2 hI hp BH Bb hblk Ns;go_wp2_with fail
   refine(hcc.out _).mono ?_;rintro e w2 ⟨rfl,hb2⟩;rw[GL.out];have c1:=hb2.cell (p:=⟨wr.heap.size,0,none⟩) (by simp);have c2:=hb2.cell (p:=⟨wr.heap.size,1,none⟩) (by simp);have cZ:=Lib.hid hb2;clear hb2;go_wp2_with fail
   refine(Zc.out _).mono ?_;rintro e w3 ⟨g,n3,r,rfl,hg,hrl,qI,Nt,hlr,dD,fY,hb3⟩;have XJ:=cZ.out.size;simp at XJ;have c3:=(hb3.cell (p:=⟨wr.heap.size,0,none⟩) (by simp;omega)).trans c1;have c4:=(hb3.cell (p:=⟨wr.heap.size,1,none⟩) (by simp;omega)).trans c2;have HR:=Lib.hid (And.intro hg (And.intro hrl (And.intro qI (And.intro Nt (And.intro hlr (And.intro dD (And.intro fY hb3)))))));clear c1 c2 hg hrl qI Nt hlr dD fY hb3;have mL:Below wr.heap.size wr (w3.alloc (.cells #[.bool n,.slice (some ⟨g,0,none⟩) n3 n3] 151)):=by
    have h1:Below wr.heap.size wr w2:=((Below.refl _ _).alloc (Nat.le_refl _) _).trans (cZ.out.mono (by simp));have h2:=h1.trans (HR.out.2.2.2.2.2.2.2.mono h1.size);exact h2.alloc h2.size _
   have hown:=aaN mA.out.own mL;have XK:=mL.size;have Ms:=mA.out.below.trans (mL.mono mA.out.below.size);have F5:=Lib.hid hown;have n9:=Lib.hid (And.intro mL Ms);clear mL hown Ms XK;go_wp2_with (at_builtin;refine wpList_append_own _ rfl (.tmp 27) (.tmp 32) 147 rfl w.heap.size 151 i0 (.agg #[.bool false,.slice none 0 0]) 2 32 Tryz.underlying147 HI.out.1 HI.out.2.1 HI.out.2.2.1 HI.out.2.2.2 rfl aD u4 k (flat rs) rfl F5.out ⟨w3.heap.size,0,none⟩ 1 1 [.bool n,.slice (some ⟨g,0,none⟩) n3 n3] rfl rfl ?_ ?_ (by simp only[maxLen];omega) aD ?_ ?_;exact abm _ _ _ _;exact abn _ _ _ _;exact n9.out.2.size;intro v4 w4 Wu hg4 ap5)
   obtain⟨b1,b2⟩:=n9.out;obtain⟨r1,r2,r3,r4,r5,r6,r7,r8⟩:=HR.out;have jD:=dQ F5.out hg4;refine⟨⟨k+1,rs++[(.bool n,.slice (some ⟨g,0,none⟩) n3 n3)],by omega,by go_num,⟨by rw[aaM];exact Wu,by simp[mA.out.len],?_,?_⟩⟩,by simp[intOf];omega⟩
   ·intro j p q hj hp hq
    by_cases e:j=k
    ·subst e
     rw[HP.out]at hp
     cases hp;rw[List.getElem?_append_right (by rw[mA.out.len];exact Nat.le_refl _),mA.out.len,Nat.sub_self]at hq
     cases hq;have hk3:cV (w3.alloc (.cells #[.bool n,.slice (some ⟨g,0,none⟩) n3 n3] 151)) g r:=r4.below ((Below.refl _ _).alloc (Nat.le_refl _) _) r4.lt;refine⟨rfl,g,n3,r,rfl,?_,r2,r3,?_,r5,r6,r7⟩
     ·have:=cZ.out.size
      have:=mA.out.below.size;simp at *;omega
     ·have:=jD g r hk3
      obtain⟨cur,hc,h⟩:=hk3;exact⟨cur,this.trans hc,h⟩
    ·rw[List.getElem?_append_left (by rw[mA.out.len];omega)]at hq
     exact((mA.out.ok j p q aD hp hq).keep (abo b1)).keep jD
   ·refine b2.trans ?_
    exact⟨hg4.os,hg4.tape,hg4.output,hg4.size,fun i hi=>hg4.block i (by have:=b2.size;omega) (fun e=>by
     rcases F5.out.2 with ⟨e2,_⟩|⟨g',cap,cur,e2,hg',_⟩
     ·rw[e2]at e;simp[Value.ownBlock]at e
     ·rw[e2]at e;simp[Value.ownBlock]at e;omega)⟩
  ·have he:k=m:=by omega
   have h1:decide ((k:Int)<(m:Int))=false:=by simp;omega
   subst he;have mA:=Lib.hid hI;clear hI;go_wp2
   go_ret2
   exact⟨_,rs,rfl,mA.out⟩
theorem aaZ (ad:Addr) (xs:List (Bool × ByteArray)) (m c:Nat) (hm:xs.length=m) (kE:m<=100) (w:World) (ha:Wt w ad xs) (b:Nat) (nb:Bool) (sb:ByteArray) (hb:xs[b]?=some (nb,sb)) (agn:ij nb sb≠0) (hok:∀ j p,j<b->xs[j]?=some p->fX p.1 p.2) :
  Calls Tryz.prog 117 #[.slice (some ad) m c] w fun e w'=>e = .returned (.tuple #[.slice none 0 0,.int .i64 (ij nb sb)])/\Below w.heap.size w w':=by
 obtain⟨i0,DO,hz0,hz1,hz2⟩:=info_parts aaY;have HM:=Lib.hid hm;have HA:=Lib.hid ha;have J6:=Lib.hid hok;have hbm:b<m:=by rw[<- hm];exact(List.getElem?_eq_some_iff.1 hb).1
 have XL:=Lib.hid (And.intro hb agn);have HI:=Lib.hid (And.intro DO (And.intro hz0 (And.intro hz1 hz2)));clear hb agn hm ha hok DO hz0 hz1 hz2;have hu:=Tryz.underlying38;go_enter Tryz.func117,Tryz.ntmps117;go_wp2
 go_loopw [4,6,7,8,9,12] (fun v _ _ _ _ t w1=>∃ (k:Nat) (rs:List (Value × Value)),k<=b/\t = .int .i64 k/\ReadW w.heap.size xs w k v rs w1) (fun _ _ _ _ _ t _=>m-(intOf t).toNat)
 case atStart=>exact⟨0,[],Nat.zero_le _,rfl,⟨⟨rfl,.inl ⟨rfl,rfl⟩⟩,rfl,fun j p q h=>by omega,Below.refl _ _⟩⟩
 case round =>
  obtain⟨k,rs,hk,rfl,hI⟩:=hrel;by_cases hlt:k<b
  ·have h1:decide ((k:Int)<(m:Int))=true:=by simp;omega
   have hkm:k<m:=by omega
   have Ns:k<xs.length:=by rw[HM.out];exact hkm
   obtain⟨n,s,hp⟩:∃ n s,xs[k]?=some (n,s):=⟨_,_,List.getElem?_eq_getElem Ns⟩
   obtain⟨a1,a2⟩:=HA.out k n s hp;have hblk:=World.block_lt_of_cell? w _ a1;have a1':=(hI.below.cell hblk).trans a1;have a2':=(hI.below.cell (World.block_lt_of_cell? w _ a2)).trans a2;have Bb:=J6.out k (n,s) hlt hp;have BH:=sw.mpr Bb;have hcc:=Lib.hid (OP n s);have Zc:=Lib.hid (VZ s Bb.1 Bb.2.1);have mA:=Lib.hid hI;have HP:=Lib.hid hp;have GL:=Lib.hid BH;clear a1 a2 hI hp BH Bb hblk Ns;go_wp2_with fail
   refine(hcc.out _).mono ?_;rintro e w2 ⟨rfl,hb2⟩;rw[GL.out];have c1:=hb2.cell (p:=⟨wr.heap.size,0,none⟩) (by simp);have c2:=hb2.cell (p:=⟨wr.heap.size,1,none⟩) (by simp);have cZ:=Lib.hid hb2;clear hb2;go_wp2_with fail
   refine(Zc.out _).mono ?_;rintro e w3 ⟨g,n3,r,rfl,hg,hrl,qI,Nt,hlr,dD,fY,hb3⟩;have XJ:=cZ.out.size;simp at XJ;have c3:=(hb3.cell (p:=⟨wr.heap.size,0,none⟩) (by simp;omega)).trans c1;have c4:=(hb3.cell (p:=⟨wr.heap.size,1,none⟩) (by simp;omega)).trans c2;have HR:=Lib.hid (And.intro hg (And.intro hrl (And.intro qI (And.intro Nt (And.intro hlr (And.intro dD (And.intro fY hb3)))))));clear c1 c2 hg hrl qI Nt hlr dD fY hb3;have mL:Below wr.heap.size wr (w3.alloc (.cells #[.bool n,.slice (some ⟨g,0,none⟩) n3 n3] 151)):=by
    have h1:Below wr.heap.size wr w2:=((Below.refl _ _).alloc (Nat.le_refl _) _).trans (cZ.out.mono (by simp));have h2:=h1.trans (HR.out.2.2.2.2.2.2.2.mono h1.size);exact h2.alloc h2.size _
   have hown:=aaN mA.out.own mL;have XK:=mL.size;have Ms:=mA.out.below.trans (mL.mono mA.out.below.size);have F5:=Lib.hid hown;have n9:=Lib.hid (And.intro mL Ms);clear mL hown Ms XK;go_wp2_with (at_builtin;refine wpList_append_own _ rfl (.tmp 27) (.tmp 32) 147 rfl w.heap.size 151 i0 (.agg #[.bool false,.slice none 0 0]) 2 32 Tryz.underlying147 HI.out.1 HI.out.2.1 HI.out.2.2.1 HI.out.2.2.2 rfl aD u4 k (flat rs) rfl F5.out ⟨w3.heap.size,0,none⟩ 1 1 [.bool n,.slice (some ⟨g,0,none⟩) n3 n3] rfl rfl ?_ ?_ (by simp only[maxLen];omega) aD ?_ ?_;exact abm _ _ _ _;exact abn _ _ _ _;exact n9.out.2.size;intro v4 w4 Wu hg4 ap5)
   obtain⟨b1,b2⟩:=n9.out;obtain⟨r1,r2,r3,r4,r5,r6,r7,r8⟩:=HR.out;have jD:=dQ F5.out hg4;refine⟨⟨k+1,rs++[(.bool n,.slice (some ⟨g,0,none⟩) n3 n3)],by omega,by go_num,⟨by rw[aaM];exact Wu,by simp[mA.out.len],?_,?_⟩⟩,by simp[intOf];omega⟩
   ·intro j p q hj hp hq
    by_cases e:j=k
    ·subst e
     rw[HP.out]at hp
     cases hp;rw[List.getElem?_append_right (by rw[mA.out.len];exact Nat.le_refl _),mA.out.len,Nat.sub_self]at hq
     cases hq;have hk3:cV (w3.alloc (.cells #[.bool n,.slice (some ⟨g,0,none⟩) n3 n3] 151)) g r:=r4.below ((Below.refl _ _).alloc (Nat.le_refl _) _) r4.lt;refine⟨rfl,g,n3,r,rfl,?_,r2,r3,?_,r5,r6,r7⟩
     ·have:=cZ.out.size
      have:=mA.out.below.size;simp at *;omega
     ·have:=jD g r hk3
      obtain⟨cur,hc,h⟩:=hk3;exact⟨cur,this.trans hc,h⟩
    ·rw[List.getElem?_append_left (by rw[mA.out.len];omega)]at hq
     exact((mA.out.ok j p q aD hp hq).keep (abo b1)).keep jD
   ·refine b2.trans ?_
    exact⟨hg4.os,hg4.tape,hg4.output,hg4.size,fun i hi=>hg4.block i (by have:=b2.size;omega) (fun e=>by
     rcases F5.out.2 with ⟨e2,_⟩|⟨g',cap,cur,e2,hg',_⟩
     ·rw[e2]at e;simp[Value.ownBlock]at e
     ·rw[e2]at e;simp[Value.ownBlock]at e;omega)⟩
  ·have he:k=b:=by omega
   subst he;have h1:decide ((k:Int)<(m:Int))=true:=by simp;omega
   obtain⟨a1,a2⟩:=HA.out k nb sb XL.out.1;have a1':=(hI.below.cell (World.block_lt_of_cell? w _ a1)).trans a1;have a2':=(hI.below.cell (World.block_lt_of_cell? w _ a2)).trans a2;have hcc:=Lib.hid (OP nb sb);have hz1:(ij nb sb==0)=false:=beq_eq_false_iff_ne.mpr XL.out.2;have hz2:(ij nb sb != 0)=true:=bne_iff_ne.mpr XL.out.2;have mA:=Lib.hid hI;clear a1 a2 hI;go_wp2_with fail
   refine(hcc.out _).mono ?_;rintro e w2 ⟨rfl,hb2⟩;have cZ:=Lib.hid hb2;clear hb2;go_wp2
   go_ret2
   exact⟨rfl,mA.out.below.trans ((((Below.refl _ _).alloc (Nat.le_refl _) _).trans (cZ.out.mono (by simp))).mono mA.out.below.size)⟩
def bF (n:Bool) (v:Int):Int:=if n then -v else v
theorem yS (n:Bool) (A0:Option Addr) (k c0:Nat) (l:List Int) (hk:l.length=k) (hk4:k<=4000) (hc0:k<=c0) (w:World) (ha:RL w A0 l) (hla:aH l) :
  Calls Tryz.prog 119 #[.agg #[.bool n,.slice A0 k c0]] w fun e w'=>e = .returned (.agg #[.bool (decide (bF n (lv l)<0)),.string (eF (lv l))])/\Below w.heap.size w w':=by
 have hb2:Below w.heap.size w ((w.alloc (.cells #[.bool n,.slice A0 k c0] 151)).alloc (.cells #[.bool false,.string ⟨#[]⟩] 38)):=((Below.refl _ _).alloc (Nat.le_refl _) _).alloc (by simp) _;have HN:=Lib.hid (ap4 A0 k c0 l hk hk4 hc0 _ (ha.below hb2 (Nat.le_refl _)) hla);have hpos:=dF hla;have h1:decide ((4000:Int)<(k:Int))=false:=by simp;omega
 have HS:=Lib.hid hb2;have hz:lv l=0\/0<lv l:=by omega
 obtain⟨s,hs⟩:∃ s,eF (lv l)=s:=⟨_,rfl⟩
 have hss:s.size=nb (lv l):=by rw[<- hs];exact yH _
 obtain⟨b,hb⟩:∃ b,decide (bF n (lv l)<0)=b:=⟨_,rfl⟩
 rw[hs,hb];have HE:=Lib.hid hs;cases n with
 | false =>
  have J7:b=false:=by rw[<- hb];simp[bF];omega
  subst J7;clear ha hla hk hb2 hpos hz hs hss hb;go_enter Tryz.func119,Tryz.ntmps119;go_wp2_with fail
  refine(HN.out).mono ?_;rintro e w' ⟨rfl,jv⟩;rw[HE.out];have c0:=jv.cell (p:=⟨w.heap.size,0,none⟩) (by simp;omega);have c1:w'.cell? ⟨w.heap.size+1,0,none⟩=some (.bool false):=(jv.cell (by simp)).trans (by simp[go_sem]);have c2:w'.cell? ⟨w.heap.size+1,1,none⟩=some (.string ⟨#[]⟩):=(jv.cell (by simp)).trans (by simp[go_sem]);have f1:=jv.frozen (p:=⟨w.heap.size+1,0,none⟩) (by simp);have f2:=jv.frozen (p:=⟨w.heap.size+1,1,none⟩) (by simp);have HB:=Lib.hid (HS.out.trans (jv.mono (by simp;omega)));clear jv;go_wp2
  refine bodyPost_ret (by simp[results,Tryz.results119,go_sem,c1,c2];try rfl) rfl ?_;exact⟨rfl,(HB.out.setCell (by simp) _).setCell (by simp) _⟩
 | true =>
  rcases hz with hz|hz
  ·have J7:b=false:=by rw[<- hb];simp[bF];omega
   obtain⟨t1,t2⟩:=toList_nil (s:=s) (by rw[hss,hz,yN]);subst J7;clear ha hla hk hb2 hpos hz hs hss hb;go_enter Tryz.func119,Tryz.ntmps119;go_wp2_with fail
   refine(HN.out).mono ?_;rintro e w' ⟨rfl,jv⟩;rw[HE.out];have c0:=jv.cell (p:=⟨w.heap.size,0,none⟩) (by simp;omega);have c1:w'.cell? ⟨w.heap.size+1,0,none⟩=some (.bool false):=(jv.cell (by simp)).trans (by simp[go_sem]);have c2:w'.cell? ⟨w.heap.size+1,1,none⟩=some (.string ⟨#[]⟩):=(jv.cell (by simp)).trans (by simp[go_sem]);have f1:=jv.frozen (p:=⟨w.heap.size+1,0,none⟩) (by simp);have f2:=jv.frozen (p:=⟨w.heap.size+1,1,none⟩) (by simp);have HB:=Lib.hid (HS.out.trans (jv.mono (by simp;omega)));clear jv;go_wp2
   refine bodyPost_ret (by simp[results,Tryz.results119,go_sem,c1,c2];try rfl) rfl ?_;exact⟨rfl,(HB.out.setCell (by simp) _).setCell (by simp) _⟩
  ·have J7:b=true:=by rw[<- hb];simp[bF];omega
   obtain⟨t1,t2⟩:=Ao (s:=s) (by rw[hss];exact(EB hz).2.2);subst J7;clear ha hla hk hb2 hpos hz hs hss hb;go_enter Tryz.func119,Tryz.ntmps119;go_wp2_with fail
   refine(HN.out).mono ?_;rintro e w' ⟨rfl,jv⟩;rw[HE.out];have c0:=jv.cell (p:=⟨w.heap.size,0,none⟩) (by simp;omega);have c1:w'.cell? ⟨w.heap.size+1,0,none⟩=some (.bool false):=(jv.cell (by simp)).trans (by simp[go_sem]);have c2:w'.cell? ⟨w.heap.size+1,1,none⟩=some (.string ⟨#[]⟩):=(jv.cell (by simp)).trans (by simp[go_sem]);have f1:=jv.frozen (p:=⟨w.heap.size+1,0,none⟩) (by simp);have f2:=jv.frozen (p:=⟨w.heap.size+1,1,none⟩) (by simp);have HB:=Lib.hid (HS.out.trans (jv.mono (by simp;omega)));clear jv;go_wp2
   refine bodyPost_ret (by simp[results,Tryz.results119,go_sem,c1,c2];try rfl) rfl ?_;exact⟨rfl,(HB.out.setCell (by simp) _).setCell (by simp) _⟩
def atQ (v:Int) (w:World) (e:Ending) (w':World):Prop:=∃ n x r,e = .returned (.agg #[.bool n,x])/\qz w' x r/\aH r/\Tr r/\bF n (lv r)=v/\Below w.heap.size w w'
theorem RL.Rv {w:World} {A:Option Addr} {l:List Int} {p:Addr} {v:Value} (h:RL w A l) (hc:w.cell? p=some v) (hv:∀ x,v ≠ .int .u64 x) (u:Value):RL (w.setCell p u) A l :=
 ⟨h.1,fun hn=>by
  obtain⟨ad,e,cC⟩:=h.2 hn
  refine⟨ad,e,fun j hj=>?_⟩
  rw[World.cell?_setCell_other]
  ·exact cC j hj
  ·intro e2
   have:=cC j hj
   rw[<- e2,hc]at this
   injection this with this
   exact hv _ this⟩
theorem RL.pair {w:World} {A:Option Addr} {l:List Int} {g:Nat} {n0:Bool} {B0:Option Addr} {k0 c0:Nat} (h:RL w A l) (h0:w.cell? ⟨g,0,none⟩=some (.bool n0)) (h1:w.cell? ⟨g,1,none⟩=some (.slice B0 k0 c0)) (u v:Value):RL ((w.setCell ⟨g,0,none⟩ u).setCell ⟨g,1,none⟩ v) A l:=by
 refine RL.Rv (RL.Rv h h0 (by simp) u) (v := .slice B0 k0 c0) ?_ (by simp) v;exact(World.cell?_setCell_other w ⟨g,0,none⟩ ⟨g,1,none⟩ u (by simp)).trans h1
theorem QB (n1 n2:Bool) (A1 A2:Option Addr) (k1 k2 c1 c2:Nat) (a b:List Int) (h1:a.length=k1) (h2:b.length=k2) (Sm:k1<=4000) (Sn:k2<=4000) (hc1:k1<=c1) (hc2:k2<=c2) (w:World) (ha:RL w A1 a) (hb:RL w A2 b) (hla:aH a) (hlb:aH b) :
  Calls Tryz.prog 124 #[.agg #[.bool n1,.slice A1 k1 c1],.agg #[.bool n2,.slice A2 k2 c2]] w (atQ (bF n1 (lv a)+bF n2 (lv b)) w):=by
 obtain⟨w3,hw3⟩:∃ w3,w3=((w.alloc (.cells #[.bool n1,.slice A1 k1 c1] 151)).alloc (.cells #[.bool n2,.slice A2 k2 c2] 151)).alloc (.cells #[.bool false,.slice none 0 0] 151):=⟨_,rfl⟩
 have hb3:Below w.heap.size w w3:=by rw[hw3];exact(((Below.refl _ _).alloc (Nat.le_refl _) _).alloc (by simp) _).alloc (by simp;omega) _
 have HA:=Lib.hid (ha.below hb3 (Nat.le_refl _));have HB:=Lib.hid (hb.below hb3 (Nat.le_refl _));have d0:w3.cell? ⟨w.heap.size,0,none⟩=some (.bool n1):=by rw[hw3];simp[go_sem]
 have d1:w3.cell? ⟨w.heap.size,1,none⟩=some (.slice A1 k1 c1):=by rw[hw3];simp[go_sem]
 have d2:w3.cell? ⟨w.heap.size+1,0,none⟩=some (.bool n2):=by rw[hw3];simp[go_sem]
 have d3:w3.cell? ⟨w.heap.size+1,1,none⟩=some (.slice A2 k2 c2):=by rw[hw3];simp[go_sem]
 have d4:w3.cell? ⟨w.heap.size+2,0,none⟩=some (.bool false):=by rw[hw3];simp[go_sem]
 have d5:w3.cell? ⟨w.heap.size+2,1,none⟩=some (.slice none 0 0):=by rw[hw3];simp[go_sem]
 have d6:w3.frozen? ⟨w.heap.size+2,0,none⟩=false:=by rw[hw3];simp[go_sem]
 have d7:w3.frozen? ⟨w.heap.size+2,1,none⟩=false:=by rw[hw3];simp[go_sem]
 have hsz:w3.heap.size=w.heap.size+3:=by rw[hw3];simp
 have HW:=Lib.hid hw3;have HS:=Lib.hid hb3;have ew:=Lib.hid hsz
 have hk1:=fun (w':World) (h:Below w3.heap.size w3 w')=>(show w'.cell? ⟨w.heap.size,0,none⟩=some (.bool n1)/\w'.cell? ⟨w.heap.size,1,none⟩=some (.slice A1 k1 c1)/\w'.cell? ⟨w.heap.size+1,0,none⟩=some (.bool n2)/\w'.cell? ⟨w.heap.size+1,1,none⟩=some (.slice A2 k2 c2)/\w'.cell? ⟨w.heap.size+2,0,none⟩=some (.bool false)/\w'.cell? ⟨w.heap.size+2,1,none⟩=some (.slice none 0 0)/\w'.frozen? ⟨w.heap.size+2,0,none⟩=false/\w'.frozen? ⟨w.heap.size+2,1,none⟩=false from
  ⟨(h.cell (by simp[hsz];try omega)).trans d0,(h.cell (by simp[hsz];try omega)).trans d1,(h.cell (by simp[hsz];try omega)).trans d2,(h.cell (by simp[hsz];try omega)).trans d3,(h.cell (by simp[hsz];try omega)).trans d4,(h.cell (by simp[hsz];try omega)).trans d5,(h.frozen (by simp[hsz];try omega)).trans d6,(h.frozen (by simp[hsz];try omega)).trans d7⟩)
 have HK:=Lib.hid hk1;by_cases hn:n1=n2
 ·subst hn
  have HC:=Lib.hid (apZ A1 A2 k1 k2 c1 c2 a b h1 h2 Sm Sn w3 HA.out HB.out hla hlb);have DT:bF n1 (lv a+lv b)=bF n1 (lv a)+bF n1 (lv b):=by cases n1 <;> simp[bF];try omega
  have HV:=Lib.hid DT;clear DT;have ht:(n1==n1)=true:=by simp
  clear d0 d1 d2 d3 d4 d5 d6 d7 hk1 hsz hb3 ha hb hla hlb hw3;go_enter Tryz.func124,Tryz.ntmps124;go_wp2_with fail
  rw[<- HW.out];refine(HC.out).mono ?_;rintro e w' ⟨x,r,rfl,hr,hlr,dD,fY,hbr⟩;obtain⟨A,cc,rfl,hrc,hrl⟩:=hr;obtain⟨e0,e1,e2,e3,e4,e5,e6,e7⟩:=HK.out _ hbr;have HR:=Lib.hid (And.intro hrc (And.intro hrl (And.intro hlr (And.intro dD (And.intro fY (HS.out.trans (hbr.mono (by rw[ew.out];omega))))))));clear hrc hrl hlr dD fY hbr;go_wp2
  refine bodyPost_ret (by simp[results,Tryz.results124,go_sem,e0,e1,e2,e3,e4,e5];try rfl) rfl ?_;obtain⟨hrc,hrl,hlr,dD,fY,hbl⟩:=HR.out;exact⟨_,_,r,rfl,⟨A,cc,rfl,hrc,hrl.pair e4 e5 _ _⟩,hlr,dD,by rw[fY];exact HV.out,(hbl.setCell (by simp;try omega) _).setCell (by simp;try omega) _⟩
 ·have ht:(n1==n2)=false:=beq_eq_false_iff_ne.mpr hn
  have hn2:n2=!n1:=by cases n1 <;> cases n2 <;> simp_all
  by_cases hlt:lv b<=lv a
  ·have DT:bF n1 (lv a-lv b)=bF n1 (lv a)+bF n2 (lv b):=by rw[hn2];cases n1 <;> simp[bF] <;> omega
   have HV:=Lib.hid DT;have HL:=Lib.hid hlt;have HC:=Lib.hid (Wq A1 A2 k1 k2 c1 c2 a b h1 h2 Sm Sn hc1 hc2 w3 HA.out HB.out hla hlb);clear DT hn hn2 hlt;clear d0 d1 d2 d3 d4 d5 d6 d7 hk1 hsz hb3 ha hb hla hlb hw3;go_enter Tryz.func124,Tryz.ntmps124;go_wp2_with fail
   rw[<- HW.out];refine(HC.out).mono ?_;rintro e w' ⟨hsp,-⟩;obtain⟨x,r,rfl,hr,hlr,dD,fY,hbr⟩:=hsp HL.out;clear hsp;obtain⟨A,cc,rfl,hrc,hrl⟩:=hr;obtain⟨e0,e1,e2,e3,e4,e5,e6,e7⟩:=HK.out _ hbr;have HR:=Lib.hid (And.intro hrc (And.intro hrl (And.intro hlr (And.intro dD (And.intro fY (HS.out.trans (hbr.mono (by rw[ew.out];omega))))))));clear hrc hrl hlr dD fY hbr;go_wp2
   refine bodyPost_ret (by simp[results,Tryz.results124,go_sem,e0,e1,e2,e3,e4,e5];try rfl) rfl ?_;obtain⟨hrc,hrl,hlr,dD,fY,hbl⟩:=HR.out;exact⟨_,_,r,rfl,⟨A,cc,rfl,hrc,hrl.pair e4 e5 _ _⟩,hlr,dD,by rw[fY];exact HV.out,(hbl.setCell (by simp;try omega) _).setCell (by simp;try omega) _⟩
  ·have DT:bF n2 (lv b-lv a)=bF n1 (lv a)+bF n2 (lv b):=by rw[hn2];cases n1 <;> simp[bF] <;> omega
   have HV:=Lib.hid DT;have HL:=Lib.hid (Int.lt_of_not_ge hlt);have HC:=Lib.hid (Wq A1 A2 k1 k2 c1 c2 a b h1 h2 Sm Sn hc1 hc2 w3 HA.out HB.out hla hlb);have tD:=fun (w':World) (h:Below w3.heap.size w3 w')=>Wq A2 A1 k2 k1 c2 c1 b a h2 h1 Sn Sm hc2 hc1 w' (HB.out.below h (Nat.le_refl _)) (HA.out.below h (Nat.le_refl _)) hlb hla;clear DT hn hn2 hlt;clear d0 d1 d2 d3 d4 d5 d6 d7 hk1 hsz hb3 ha hb hla hlb hw3;go_enter Tryz.func124,Tryz.ntmps124;go_wp2_with fail
   rw[<- HW.out];refine(HC.out).mono ?_;rintro e w' ⟨-,hsp⟩;obtain⟨rfl,Sp⟩:=hsp HL.out;clear hsp;obtain⟨e0,e1,e2,e3,e4,e5,e6,e7⟩:=HK.out _ Sp;have oM:=Lib.hid (tD w' Sp);have HBS:=Lib.hid Sp;clear Sp tD;go_wp2_with fail
   clear e0 e1 e2 e3 e4 e5 e6 e7;refine(oM.out).mono ?_;rintro e w5 ⟨hsp,-⟩;obtain⟨x,r,rfl,hr,hlr,dD,fY,hbr⟩:=hsp (Int.le_of_lt HL.out);clear hsp;obtain⟨A,cc,rfl,hrc,hrl⟩:=hr;have bS:=HBS.out.trans (hbr.mono HBS.out.size);obtain⟨e0,e1,e2,e3,e4,e5,e6,e7⟩:=HK.out _ bS;have HR:=Lib.hid (And.intro hrc (And.intro hrl (And.intro hlr (And.intro dD (And.intro fY (HS.out.trans (bS.mono (by rw[ew.out];omega))))))));clear hrc hrl hlr dD fY hbr bS;go_wp2
   refine bodyPost_ret (by simp[results,Tryz.results124,go_sem,e0,e1,e2,e3,e4,e5];try rfl) rfl ?_;obtain⟨hrc,hrl,hlr,dD,fY,hbl⟩:=HR.out;exact⟨_,_,r,rfl,⟨A,cc,rfl,hrc,hrl.pair e4 e5 _ _⟩,hlr,dD,by rw[fY];exact HV.out,(hbl.setCell (by simp;try omega) _).setCell (by simp;try omega) _⟩
end Go.Proofs.YtfcjnhkkfmgmpaaGreat
